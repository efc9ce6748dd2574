/- The proof, part 49. -/
import Derived.Test.YtalagblioepadaaGreatDoorZb48
namespace Go.Proofs.YtalagblioepadaaGreatDoor
set_option linter.all false
open Proofs.Tryz List Go.RowKit Go.Maps
set_option maxRecDepth 100000
set_option maxHeartbeats 2000000
def qj{p:ak}(h:p:=by cases c):p:=h
def wY{p:ak}(h:p:=by unfold ij;omega):p:=h
def LK{p:ak}(h:p:=by
 exact⟨b.x,b.aE,b.aS,b.b',b.cu,b.own,b.wt,b.ok,b.out⟩
 ):p:=h
structure lV(k:J)(r:aa)(a:Nm)(s:bO):ak where
 x:s.x=fb k a
 aE:s.aE=a.aE
 aS:s.ld.aS=a.aS
 b':s.b'=false
 cu:s.cu=a.cu
 own:s.own=if a.rep then [(16,r)]else []
 wt:s.wt=[]
 ok:a.fst<=a.cy
 out:∀ m∈a.aE.out,m.kind=4->m.sum=r
def Cq{r:aa}{l:b9}(lead:aa)(h:∀ m∈l.out,m.kind=4->m.sum=r):(∀ m∈(c5 l lead).1,m.kind=4->m.sum=r)/\∀ m∈(c5 l lead).2.out,m.kind=4->m.sum=r:=by
 have a:∀ m∈(gk l).out,m.kind=4->m.sum=r:=by
  unfold gk;split<;>exact h
 unfold c5;generalize gk l=b at a;unfold lI;split
 .split
  .exact⟨λm hm=>(by rw[h6.1 hm];intro c;cases c),a⟩
  exact⟨λm hm=>(nomatch hm),a⟩
 refine⟨λm hm=>?_,λm hm=>nomatch hm⟩;rcases ft.1 hm with hm|hm
 .exact a m hm
 split at hm
 .rw[h6.1 hm];intro c;cases c
 have aN:(mZ b).kind=4->(mZ b).sum=r:=by
  unfold mZ;split<;>(intro c;cases c)
 unfold ml at hm;split at hm
 .rcases e3.1 hm with hm|hm
  .rw[hm];exact aN
  rw[h6.1 hm];intro c;cases c
 rw[h6.1 hm];exact aN
def F3{k:J}(hk:k<2){r:aa}{a:Nm}{s:bO}{cs:ah cg}{l:aa}(h:lV k r a s)(m:J)(c:dW s.x=fb k {a with fst:=m})(hm:m<=a.cy)(d:(a.now:aa)-a.cy=l)(ax:(c5 a.aE l).2.state≠2):lV k r {a with fst:=m,aE:=(c5 a.aE l).2} (l2 (s,cs)).1/\(c5 s.aE (hV {s with x:=dW s.x})).1=(c5 a.aE l).1:=by
 have b:hV {s with x:=dW s.x}=l:=by
  show(((dW s.x).now:J):aa)-(((dW s.x).f (1-(dW s.x).aJ)).next:aa)=l;rw[c,show(fb k {a with fst:=m}).aJ=k from rfl,Ah hk];exact d
 have e:(l2 (s,cs)).1={s with x:=dW s.x,aE:=(c5 a.aE l).2}:=by
  unfold l2 e7;simp only[b];simp only[h.aE];rw[aA ax]
 rw[e,b,h.aE];exact⟨⟨c,rfl,h.aS,h.b',h.cu,h.own,h.wt,hm,(Cq l h.out).2⟩,rfl⟩
def XA{k:J}(hk:k<2){r:aa}(G:r=iJ (lN 16)){a a':Nm}{s:bO}{A:ah aZ}(h:lV k r a s)(aN:Cr r a=some (A,a')):lV k r a' (cJ 0 s).1/\e_ 0 s=A/\∀ m∈A,m.kind=4->m.sum=r:=by
 have H:cW s=(s,[]):=by
  unfold cW;rw[h.x,KT hk]
 have D:cJ 0 s=l2 (dc 0 s)/\e_ 0 s=(c5 (dc 0 s).1.aE (hV {(dc 0 s).1 with x:=dW (dc 0 s).1.x})).1:=by
  unfold cJ e_;rw[h.b'];exact⟨rfl,rfl⟩
 have T:c4 s=a.dM:=by
  unfold c4;rw[h.x,show(fb k a).aJ=k from rfl,OH hk];rfl
 have X:bT s=a.cy:=by
  unfold bT fq;rw[h.x,show(fb k a).aJ=k from rfl,Ah hk];rfl
 rw[D.1,D.2];unfold Cr at aN;split at aN
 .rename_i aq;obtain⟨h1,⟨b0,bs,ez,dR,fV,dS,c6,fv⟩,w⟩:=aq;have bu:=h.ok;simp only[hi,jq]at aN;obtain⟨rfl,rfl⟩:=aN;have R:fW s=true:=by
   unfold fW so hV jB;rw[X,h.aE,h.cu,h.x,FJ hk];simp only[ee,gg,nd,Bool.and_eq_false_iff,sJ];refine⟨h1,?_,?_⟩
   .show ¬ 4<(a.now:aa)-_-_\/_;omega
   show ¬ ((4:J):aa)<=(a.now:aa)-_;omega
  obtain⟨i,c⟩:∃ i:Nm,i={a with now:=a.now+1,dM:=a.dM+1,aE:=j2 a.aE a.dM 0}:=⟨_,rfl⟩;obtain⟨s1,d,es,b⟩:∃ s1 d,eL 0 (cW s)=(s1,d)/\lV k r i s1:=by
   refine⟨(lL (eu s 0,[])).1,(lL (eu s 0,[])).2,by unfold eL;rw[H,aD R],?_⟩;have p:(eu s 0).x=fb k {a with dM:=a.dM+1}:=by
    show gn s.x s.x.aJ 0=_;rw[h.x];exact II hk a hk _ (by rw[aD rfl]) (by rw[aD rfl];omega)
   rw[c];refine⟨?_,?_,h.aS,h.b',h.cu,h.own,h.wt,bu,?_⟩
   .show {iX (eu s 0).x (eu s 0).x.now with now:=(eu s 0).x.now+1}=_;rw[p];exact W9 (k:=k) {a with dM:=a.dM+1} (by show a.fst<=a.now;omega) (by show a.now<a.fst+64;omega)
   .show j2 s.aE (c4 s) 0=j2 a.aE a.dM 0;rw[T,h.aE]
   show ∀ m∈(j2 a.aE a.dM 0).out,_;unfold j2;split<;>exact h.out
  obtain⟨g,f⟩:∃ g:Nm,g={i with aS:=a.aS+1,aE:=kS r a,rep:=a.rep || r2 (a.aS+1)}:=⟨_,rfl⟩;have K:cY s1.x=a.aS+1:=by
   rw[b.x,Ca hk,c];show((min (min (a.dM+1) a.cy) (a.now+1):J):aa)-1=_;omega
  have j:s1.ld.aS=a.aS:=by rw[b.aS,c]
  obtain⟨s2,t,M,q⟩:∃ s2 t,dc 0 s=(s2,t)/\lV k r g s2:=by
   have e:dc 0 s=Go.Proofs.YtalagblioepadaaGreatDoor.eZ (s1,d):=by
    unfold dc ji;rw[es];show e0 (cY s1.x-s1.ld.aS).toNat (s1,d)=_;rw[K,j,show(a.aS+1-a.aS).toNat=0+1 by omega];unfold e0;rw[aA (by show ¬ (s1.b'=true\/cY s1.x<=s1.ld.aS);rw[b.b',K,j];simp;omega)];rfl
   refine⟨(Go.Proofs.YtalagblioepadaaGreatDoor.eZ (s1,d)).1,(Go.Proofs.YtalagblioepadaaGreatDoor.eZ (s1,d)).2,e,?_⟩;have E:(jY s1.ld (s1.ld.aS+1)).aS=a.aS+1:=by rw[<-j];rfl
   by_cases ar:(a.aS+2)%16=0
   .have n:r2 (a.aS+1)=true:=ed U;have⟨e5,qq⟩:=fv n;have z:(s1.ld.aS+2)%16=0:=by rw[j];exact ar
    have O:(s1.ld.aS+2).toNat=16:=by rw[j,e5];rfl
    have L:gQ s1.x 16=lN 16:=by
     rw[b.x];exact JW i (by rw[c];show a.fst<=16;omega) (by rw[c];show 16<=a.now+1;omega)
    have V:s1.own=[]:=by rw[b.own,c];show(if a.rep then _ else _)=_;rw[qq];rfl
    have u:Go.Proofs.YtalagblioepadaaGreatDoor.eZ (s1,d)=(r1 {s1 with ld:=jY s1.ld (s1.ld.aS+1)} 16,d++hQ s1.ld (s1.ld.aS+1)):=by
     unfold Go.Proofs.YtalagblioepadaaGreatDoor.eZ;simp only[];rw[aD z,O];unfold iY;rw[show lj ({s1 with ld:=jY s1.ld (s1.ld.aS+1)}:bO).wt ((16:J):aa)=none by show lj s1.wt _=none;rw[b.wt];rfl]
    rw[u,f];have o:kS r a=lE (j2 a.aE a.dM 0) 16 r:=by unfold kS;rw[aD n,e5];rfl
    have F:s1.aE=j2 a.aE a.dM 0:=by rw[b.aE,c]
    refine⟨by rw[c]at b⊢;exact b.x,?_,E,b.b',by rw[c]at b⊢;exact b.cu,?_,b.wt,by rw[c];exact bu,?_⟩
    .show lE s1.aE ((16:J):aa) (iJ (gQ s1.x 16))=kS r a;rw[L,<-G,o,F];rfl
    .show lf (qN s1.own ((16:J):aa) (iJ (gQ s1.x 16))) (((16:J):aa)-128)=if (a.rep || r2 (a.aS+1))then _ else _
     rw[L,<-G,V,n,Bool.or_true];rfl
    show ∀ m∈(kS r a).out,_;rw[o,<-F];have p:∀ m∈s1.aE.out,m.kind=4->m.sum=r:=by rw[b.aE];exact b.out
    unfold lE;split
    .intro m hm;rcases ft.1 hm with hm|hm
     .exact p m hm
     rw[h6.1 hm];exact λ_=>rfl
    exact p
   have n:r2 (a.aS+1)=false:=cZ U;have z:¬ (s1.ld.aS+2)%16=0:=by rw[j];exact ar
   have u:Go.Proofs.YtalagblioepadaaGreatDoor.eZ (s1,d)=({s1 with ld:=jY s1.ld (s1.ld.aS+1)},d++hQ s1.ld (s1.ld.aS+1)):=by
    unfold Go.Proofs.YtalagblioepadaaGreatDoor.eZ;simp only[];rw[aA z]
   have o:kS r a=j2 a.aE a.dM 0:=by unfold kS;rw[n];rfl
   have N:g={i with aS:=a.aS+1}:=by rw[f,o,n,wv,c]
   rw[u,N];exact⟨b.x,b.aE,E,b.b',b.cu,b.own,b.wt,b.ok,b.out⟩
  have W:cY s2.x=a.aS+1:=by
   rw[q.x,Ca hk,f,c];show((min (min (a.dM+1) a.cy) (a.now+1):J):aa)-1=_;omega
  have y:g.aE=kS r a:=by rw[f]
  have hfin:=F3 (cs:=t) (l:=(a.now:aa)+1-a.cy) hk q (a.aS+1).toNat (by
   unfold dW;rw[W,aA U,q.x];refine O6 g _ ?_ ?_ ?_ ?_<;>rw[f,c]
   .show a.fst<=_;omega
   .show _<=a.dM+1;omega
   .show _<=a.cy;omega
   .show _<=a.now+1;omega) (by rw[f,c];show _<=a.cy;omega) (by rw[f,c];show((a.now+1:J):aa)-(a.cy:aa)=_;omega) (by rw[y,w];omega)
  rw[M];rw[y]at hfin;have v:({g with fst:=(a.aS+1).toNat,aE:=(c5 (kS r a) ((a.now:aa)+1-a.cy)).2}:Nm)=Kd r a:=by rw[f,c];rfl
  rw[v]at hfin;refine⟨hfin.1,hfin.2,?_⟩
  have:=q.out
  rw[y]at this;exact(Cq _ this).1
 split at aN
 .rename_i _ aq;obtain⟨h1,h2,w,B,C,P,Q⟩:=aq;simp only[hi,jq]at aN;obtain⟨rfl,rfl⟩:=aN;have gm:cY s.x=-1:=by
   rw[h.x,Ca hk,h2,w,B];rfl
  have S:dc 0 s=(s,[]):=by
   have e:eL 0 (s,[])=(s,[]):=by
    unfold eL;rw[aA];unfold fW;rw[h.aE,h1];simp
   unfold dc ji;rw[H,e];show e0 (cY s.x-s.ld.aS).toNat (s,[])=_;rw[gm,h.aS,P];rfl
  rw[S]
  have hfin:=F3 (cs:=[]) (l:=-1) hk h 0 (by
   unfold dW;rw[gm,aD U,h.x];show fb k a=fb k {a with fst:=0};rw[<-C]) (c' _) (by rw[h2,B];rfl) (by rw[Q];omega)
  have v:({a with fst:=0,aE:=(c5 a.aE (-1)).2}:Nm)={a with aE:=(c5 a.aE (-1)).2}:=by rw[<-C]
  rw[v]at hfin;exact⟨hfin.1,hfin.2,(Cq _ h.out).1⟩
 cases aN
def Xp{r:aa}{l:b9}(m:aZ)(h:∀ x∈l.out,x.kind=4->x.sum=r):(∀ x∈(cO l m).2.2.out,x.kind=4->x.sum=r)/\((cO l m).1.kind=4->m.kind=4/\(cO l m).1.sum=m.sum):=by
 have b:∀ s,(hB l s).out=l.out:=λs=>by
  unfold hB;simp only[];split<;>rfl
 unfold cO;split
 .refine⟨?_,λc=>qj⟩;split
  .exact h
  intro x a;rcases ft.1 a with a|a
  .exact h x a
  rw[h6.1 a];intro c;cases c
 split
 .split
  .exact⟨h,λc=>qj⟩
  exact⟨h,λc=>qj⟩
 split
 .exact⟨h,λc=>qj⟩
 split
 .unfold hE;split
  .rename_i e;unfold iU;simp only[];split
   .exact⟨by rw[b];exact h,λc=>qj⟩
   exact⟨by show ∀ x∈(hB l m.cj).out,_;rw[b];exact h,λc=>by rw[show m.kind=4 from c]at e;omega⟩
  split
  .rename_i e;exact⟨h,λ_=>⟨e,rfl⟩⟩
  split
  .exact⟨by show ∀ x∈(hB l m.cj).out,_;rw[b];exact h,λc=>qj⟩
  split
  .exact⟨h,λc=>qj⟩
  rename_i e _ _;exact⟨h,λc=>absurd c e⟩
 exact⟨h,λc=>qj⟩
def Rm{k:J}(hk:k<2){r:aa}{a a':Nm}{s:bO}{m:aZ}(h:lV k r a s)(hm:m.wf/\dh m)(ax:m.kind=4->m.sum=r)(aN:rN a m=some a'):lV k r a' (dx (dk m) s).1/\iT (dk m) s=0:=by
 unfold rN at aN;simp only at aN;split at aN
 .rename_i aq;have⟨u,v,w,D,y⟩:=aq;simp only[hi]at aN;have j:cI s.aE (dk m)=pH a.aE m:=by rw[h.aE];exact Rq a.aE m u hm
  have A:(pH a.aE m).2.1=0/\(∀ x∈(pH a.aE m).2.2.out,x.kind=4->x.sum=r)/\((pH a.aE m).1.kind=4->(pH a.aE m).1.sum=r):=by
   have⟨o,p⟩:=Xp (l:={a.aE with heard:=a.aE.b_}) m h.out;unfold pH;split
   .exact⟨rfl,o,λc=>(p c).2.trans (ax (p c).1)⟩
   exact⟨rfl,o,λc=>qj⟩
  have⟨g,q,t⟩:=A;generalize pH a.aE m=H at *;have z:iT (dk m) s=0:=by
   unfold iT;rw[h.b',j];exact g
  refine⟨?_,z⟩;have f:fc s.x H.1.a8=fb k {a with cy:=a.cy+H.1.a8.length}:=by
   rw[h.x];exact Hs hk H.1.a8 a h.ok λx f=>by simpa using all_eq_true.1 w x f
  obtain⟨s1,n⟩:∃ s1:bO,s1={s with x:=fc s.x H.1.a8,aE:=H.2.2}:=⟨_,rfl⟩;have b:lV k r {a with aE:=H.2.2,cy:=a.cy+H.1.a8.length} s1:=by
   rw[n];exact⟨f,rfl,h.aS,h.b',h.cu,h.own,h.wt,by show a.fst<=a.cy+_;have:=h.ok;omega,q⟩
  have i:lV k r a' (fj H.1 s1).1:=by
   rw[<-aN];unfold Go.Proofs.YtalagblioepadaaGreatDoor.fj;by_cases d:H.1.kind=4
   .rw[aD d];have⟨fm,C⟩:=y d;unfold ic;have B:lj s1.own H.1.frame=some r:=by
     rw[b.own,C];rw[fm];rfl
    simp only[B];rw[aD (t d).symm,aA U];exact LK
   rw[aA d];split
   .exact⟨b.x,b.aE,b.aS,b.b',rfl,b.own,b.wt,b.ok,b.out⟩
   exact LK
  have e:(dx (dk m) s).1=(fj H.1 s1).1:=by
   have ar:dx (dk m) s=e7 (fj H.1 s1):=by
    unfold dx;rw[aA (by rw[h.b'];simp),j,aA (λc=>c g),n]
   rw[ar];unfold e7;rw[aA (by rw[i.aE,<-aN];exact v)]
  rw[e];exact i
 cases aN
variable{w w':ai}{B:jt}{M:dZ}{bh:aa}{R:ah ay}{r:aa}{s s':Aw}{k:J}
def Aw.yT(s:Aw){k b j:J}(a:Nm)(l:ah aZ)(n:J)(hk:k<2)(c:j<2):(((s.lD k a).lB b l).up n).P j=if j=k then a else s.P j:=by
 have h1:k=0\/k=1:=U;have h2:j=0\/j=1:=U;unfold lB;rcases h1 with rfl|rfl<;>rcases h2 with rfl|rfl<;>split<;>rfl
def Aw.o8(s:Aw){k b j:J}(a:Nm)(l:ah aZ)(n:J)(hk:b<2)(c:j<2):(((s.lD k a).lB b l).up n).F j=if j=b then l else s.F j:=by
 have h1:b=0\/b=1:=U;have h2:j=0\/j=1:=U;unfold lD;rcases h1 with rfl|rfl<;>rcases h2 with rfl|rfl<;>split<;>rfl
structure oy(r:aa)(s:Aw)(M:dZ):ak where
 hq:∀ k,k<2->lV k r (s.P k) (M.p k)
 f:∀ k:J,k<2->M.cs.get k=(s.F k).map dg
 ok:∀ k,k<2->∀ m∈s.F k,(m.wf/\dh m)/\(m.kind=4->m.sum=r)
 bi:e' s.n 1 4 5 (pad 1 M)
 bM:hl 5 (pad 1 M)
theorem Ju(a:J)(a1:a<2)(j:J)(f:j<2):∀ (b:ah aZ) (cs:cT),(∀ m∈b,m.wf/\dh m)->(cs.get a).length+b.length<=60->(gu cs a b).get j=if j=a then cs.get j++b.map dg else cs.get j
 | [],cs,_,_=>by
  show cs.get j=_;split<;>simp
 | m :: l,cs,hm,g=>by
  have d:ij (a:aa):=by unfold ij;omega
  rw[dr]at g;have e:hv cs 64 a (dg m)=cs.put a (cs.get a++[dg m]):=by
   unfold hv;rw[aD ⟨d,(qY (hm m oh).2)⟩,aD U]
  show(gu (hv cs 64 a (dg m)) a l).get j=_;rw[e,Ju a a1 j f l _ (λx h=>hm x (kx _ h)) (by rw[xT _ _ _ _ a1 d,aD rfl,cx,iM];omega),xT _ _ _ _ f d];by_cases c:j=a
  .subst c;rw[aD rfl,aD rfl,aD rfl,jo,dD];rfl
  rw[aA c,aA U,aA c]
theorem oy.tick(h:oy r s M)(l:r=iJ (lN 16))(hk:k<2)(aN:qZ r k s=some s'):oy r s' (gC k 0 M)/\s.n<=400:=by
 unfold qZ at aN;split at aN
 .rename_i e a ar;split at aN
  .rename_i au;simp only[hi]at aN;subst aN;have⟨o,g,q⟩:=XA hk l (h.hq k hk) ar;have d:∀ m∈e,m.wf/\dh m:=λm hm=>by
    have:=(wj h.bi U hk 0 bq).snd m (by show m∈e_ 0 (M.p k);rw[g];exact hm)
    exact⟨this.1,this.2.1⟩
   have c:1-k<2:=U;have i:(M.cs.get ((1-k:J):aa)).length=(s.F (1-k)).length:=by rw[h.f _ c,hh]
   refine⟨⟨λj b=>?_,λj b=>?_,λj b m hm=>?_,yl 1 k 0 M▸h.bi.tick U hk 0 bq,yl 1 k 0 M▸h.bM.tick h.bi U hk 0 bq⟩,U⟩
   .rw[Aw.yT _ _ _ _ hk b];show lV j r _ (b1 M.p k (cJ 0 (M.p k)).1 j);unfold b1;split
    .subst j;exact o
    exact h.hq j b
   .rw[Aw.o8 _ _ _ _ c b];show(gu M.cs (1-(k:aa)) (e_ 0 (M.p k))).get j=_;rw[g,show(1:aa)-(k:aa)=((1-k:J):aa)by omega,Ju (1-k) c j b e M.cs d (by rw[i];exact au.2)];split
    .subst j;rw[h.f _ c,jO]
    exact h.f j b
   rw[Aw.o8 _ _ _ _ c b]at hm;split at hm
   .subst j;rcases ft.1 hm with hm|hm
    .exact h.ok _ c m hm
    exact⟨d m hm,q m hm⟩
   exact h.ok j b m hm
  cases aN
 cases aN
section
variable{p lx:Nm}{m:aZ}{l:ah aZ}{n:J}
def oy.first(h:oy r (((s.lD k p).lB k (m :: l)).up n) M)(hk:k<2):fL M.cs k 0=some (dg m)/\(∃ m',(dg m).data.toList=dk m'/\iP (4+1) ((pad 1 M).bF (1-k)) (bT (M.p (1-k))) m')/\(dg m).size<=256/\(m.wf/\dh m)/\(m.kind=4->m.sum=r):=by
 have e:M.cs.get k=dg m :: l.map dg:=by rw[h.f k hk,Aw.o8 _ _ _ _ hk hk,aD rfl];rfl
 have a:=h.ok k hk m (by rw[Aw.o8 _ _ _ _ hk hk,aD rfl];exact oh);obtain⟨m',h1,h2⟩:=h.bi.vv k hk (dg m) (by show dg m∈M.cs.get k;rw[e];exact oh);refine⟨?_,⟨m',by rw[h1];rfl,h2⟩,(qY a.1.2).2,a⟩;unfold fL;rw[aD ⟨wY,jm _⟩,e];rfl
def oy.take(h:oy r (((s.lD k p).lB k (m :: l)).up n) M)(hk:k<2)(au:n<400)(ar:rN p m=some lx):oy r (((s.lD k lx).lB k l).up (n+1)) (xZ k (dg m) (fD M.cs k 0) M)/\iT (dg m).data.toList (M.p k)=0:=by
 obtain⟨_,g,_,hm,ax⟩:=h.first hk;have d:=h.hq k hk;rw[Aw.yT _ _ _ _ hk hk,aD rfl]at d;obtain⟨v,w⟩:=Rm hk d hm ax ar;obtain⟨i,o,q,t,u⟩:=Hh (M.p k) (dg m).data.toList (.inl ⟨m,rfl,hm⟩) (h.bM.cu k hk);have a1:∀ j:J,j<2->(fD M.cs k 0).get j=if j=k then l.map dg else M.cs.get j:=λj a=>by
  unfold fD;rw[aD ⟨wY,jm _⟩,xT _ _ _ _ a wY,h.f k hk,Aw.o8 _ _ _ _ hk hk,aD rfl];by_cases e:j=k
  .subst e;rw[aD rfl,aD rfl];rfl
  rw[aA e,aA U]
 refine⟨⟨λj a=>?_,λj a=>?_,λj a x c=>?_,h.bi.goes hk (Hi h.bi (by show n<=400;omega) hk (.inl g)) _ (fD M.cs k 0) (wh _ _ _) (by show M.cs.lost<=_/\_;rw[(Cn M.cs k 0)];show _/\M.cs.lost<=M.cs.lost+1;omega),h.bM.still i o q t u⟩,w⟩
 .rw[Aw.yT _ _ _ _ hk a];show lV j r _ (b1 M.p k (dx (dk m) (M.p k)).1 j);unfold b1;split
  .subst j;exact v
  rename_i e
  have:=h.hq j a
  rwa [Aw.yT _ _ _ _ hk a,aA e]at this
 .rw[Aw.o8 _ _ _ _ hk a];show(fD M.cs k 0).get j=_;rw[a1 j a];split
  .rfl
  rename_i e
  have:=h.f j a
  rwa [Aw.o8 _ _ _ _ hk a,aA e]at this
 have b:=h.ok j a x;rw[Aw.o8 _ _ _ _ hk a]at c b;split at c
 .rename_i e;rw[aD e]at b;exact b (kx _ c)
 rename_i e;rw[aA e]at b;exact b c
end
def kA(r:aa)(B:jt)(R:ah ay)(s:Aw)(w:ai):ak:=∃ M bh,cq w B M bh R/\oy r s M
def w9(e:Ending):ak:=∃ (a:b4 Addr) (d b:J) (A:b4 Addr) (n c:J) (m:aY) (bZ:aa),e=aV #[aM #[ao a d b,ao A n c,.bool m],I bZ]
def cq.forget{x:ay}(h:cq w B M bh (x :: R)):cq w B M bh R:=by
 have⟨V,T,d,h⟩:=h;exact⟨V,T,d,Sep.tail (r:=x) (Sep.perm h (qb (l₁:=bC (B.p 0) (M.p 0) (d 0)++lZ 0 B M V T bh d) (l₂:=R) (a:=x)))⟩
def jT.out{cs:ah cg}{bZ:aa}{e:Ending}(h:jT B M bh cs bZ R e w):w9 e/\cq w B M bh R:=by
 obtain⟨a,A,n,c,m,rfl,h⟩:=h;obtain⟨b,d,rfl,_⟩:=cP (show w.ownsRow 0 47 12 a cs.length (eA cs)from h.res (r:=ay.cS a cs) aI);exact⟨⟨_,_,_,A,n,c,m,bZ,rfl⟩,h.forget⟩
def NW(h:kA r B R s w)(a:r=iJ (lN 16))(hk:k<2)(aN:qZ r k s=some s'):az 10 #[B.b,aM #[I 1,I k,I 0,I 0,aF 0,aF 0]] w λe w'=>w9 e/\kA r B R s' w':=by
 obtain⟨M,bh,aj,bj⟩:=h;obtain⟨h2,au⟩:=bj.tick a hk aN;exact(GS aj bj.bi bj.bM au 1 k 0 0 0 0 rfl hk rfl bq).mono λe w' ar=>⟨ar.out.1,_,_,ar.out.2,h2⟩
def NV{p lx:Nm}{m:aZ}{l:ah aZ}{n:J}(h:kA r B R (((s.lD k p).lB k (m :: l)).up n) w)(hk:k<2)(au:n<400)(aN:rN p m=some lx):az 10 #[B.b,aM #[I 2,I k,I 0,I 0,aF 0,aF 0]] w λe w'=>w9 e/\kA r B R (((s.lD k lx).lB k l).up (n+1)) w':=by
 obtain⟨M,bh,aj,bj⟩:=h;obtain⟨h2,i⟩:=bj.take hk au aN;obtain⟨aq,d,ax,_⟩:=bj.first hk;refine(GU aj bj.bi bj.bM (by show n<=400;omega) 2 k 0 0 0 0 U hk rfl (dg m) (fD M.cs k 0) ax (.inl d) λg f c=>?_).mono λe w' ar=>⟨ar.out.1,_,_,ar.out.2,h2⟩;refine AZ c k 0 0 0 0 (dg m) true (fD M.cs k 0) λW a=>?_
 have:=te a k 0
 rw[aq]at this;exact this
def E9(h:kA r B R s w)(hk:k<2):az 30 #[B.b,I k] w λe w'=>e=.returned (I (s.F k).length)/\w=w':=by
 have⟨M,bh,aj,bj⟩:=h
 have:=GN aj k
 rwa [show rT M.cs k=(s.F k).length by unfold rT;rw[aD wY,bj.f k hk,hh]]at this
def NT(h:kA r B R s w):az 59 #[B.b] w λe w'=>e=.returned (.bool false)/\∃ q,w'=w.drewN q:=by
 have⟨M,bh,aj,bj⟩:=h;exact QH aj (bj.hq 0 U).b'
theorem kA.keep(h:kA r B R s w)(hk:Keeps aG w w'):kA r B R s w':=by
 have⟨M,bh,aj,bj⟩:=h;exact⟨M,bh,aj.keep hk,bj⟩
def Aw.eta(s:Aw)(k:J):((s.lD k (s.P k)).lB k (s.F k)).up s.n=s:=by
 by_cases e:k=0
 .subst e;rfl
 unfold lD lB P F up;rw[aA e,aA e,aA e,aA e]
def Of{fo fr:Aw}(h:kA r B R fo w)(ax:r=iJ (lN 16))(vl:runN r 20 fo=some fr):az 35 #[B.b,I 20] w λe w'=>e=.returned (I 20)/\kA r B R fr w':=by
 have H:=af h;have lb:=af vl;have St:=af ax;clear h vl ax
 go_in
 go_wp2_with fail;go_loopg [5,6,7,23,31] 20 (λg n _ _ _ _ wr=>∃ j:J,g=20-j/\j<=20/\n=I j/\∃ s,runN r j fo=some s/\kA r B R s wr)
 case atStart=>exact⟨0,rfl,U,rfl,fo,rfl,H.o⟩
 obtain⟨j,a1,Y8,rfl,s,ax,m'⟩:=hrel;clear H;have O:=af m';have t:=af ax;clear m' ax;by_cases Y3:j<20
 .obtain⟨y,M,u,d,v⟩:=x4 lb.o j Y3;obtain rfl:y=s:=h7 (u.symm.trans t.o);obtain⟨E,zd,ys⟩:∃ E,kh (qZ r) 2 y=some E/\kh wg 2 E=some M:=by
   have d:(kh (qZ r) 2 y).bind (kh wg 2)=some M:=d;cases V:kh (qZ r) 2 y with
   | none=>rw[V]at d;cases d
   | some E=>rw[V]at d;exact⟨E,rfl,d⟩
  have Y:=af zd;have l':=af ys;have Tq:=af (show runN r (j+1) fo=some M from v);clear u d v t zd ys;go_wp2_with fail;refine aT (NT O.out) ?_;rintro an ⟨q,rfl⟩;have g':=af (O.out.keep ((Keeps.refl _ wr).drewN q));clear O;generalize wr.drewN q=an at *;go_wp2_with fail;go_loopg [6,23] 2 (λg _ i gf=>∃ k:J,g=2-k/\k<=2/\i=I k/\∃ s,kh (qZ r) k y=some s/\kA r B R s gf)
  case atStart=>exact⟨0,rfl,U,rfl,y,rfl,g'.o⟩
  clear g';obtain⟨k,Y6,hk,rfl,s,ax,ps⟩:=hrel;have Q:=af ps;have t:=af ax;clear ps ax;by_cases s':k<2
  .obtain⟨z,N,u,d,v⟩:=x4 Y.out k s';obtain rfl:z=s:=h7 (u.symm.trans t.o);have K:=af (NW Q.o St.out s' d);have X:=af v;have Y2:(k:aa)<2:=U;clear u d v Q t;go_wp2_with fail;refine K.o.mono ?_;rintro e aB ⟨⟨CW,D,W',A,n,c,m,bZ,rfl⟩,Z⟩;clear K;go_wp2_with fail;go_roundg (2-(k+1))
   case rel=>exact⟨k+1,rfl,U,by go_num,N,X.out,Z⟩
   omega
  obtain rfl:k=2:=U;rw[show((2:J):aa)=2 from rfl];obtain rfl:s=E:=h7 (t.out.symm.trans Y.out);clear t Y;go_wp2_with fail;go_loopg [7,31] 2 (λg _ i gf=>∃ k:J,g=2-k/\k<=2/\i=I k/\∃ x,kh wg k s=some x/\kA r B R x gf)
  case atStart=>exact⟨0,rfl,U,rfl,s,rfl,Q.out⟩
  clear Q;obtain⟨k,Y7,Y9,rfl,x,v',r'⟩:=hrel;have W:=af r';have S:=af v';clear r' v';by_cases C:k<2
  .obtain⟨z,N,u,d,v⟩:=x4 l'.out k C;obtain rfl:z=x:=h7 (u.symm.trans S.o);obtain⟨D,G,aR,zp⟩:∃ D G,rO z.n (z.P k) (z.F k)=some (D,G)/\N=((z.lD k G).lB k []).up D:=by
    unfold wg at d;split at d
    .rename_i n a V;simp only[hi]at d;exact⟨n,a,V,d.symm⟩
    cases d
   have T':=af aR;have V':=af zp;have X:=af v;have Y2:(k:aa)<2:=U;clear u d v S aR zp;go_wp2_with fail;go_loopg [] (z.F k).length (λg Y5=>∃ l p n,g=l.length/\rO n p l=some (D,G)/\kA r B R (((z.lD k p).lB k l).up n) Y5)
   case atStart=>exact⟨z.F k,z.P k,z.n,rfl,T'.o,by rw[Aw.eta];exact W.o⟩
   have⟨l,p,n,sd,T,f⟩:=hrel;clear W;cases l with
   | nil=>
    have L:=af (by have:=E9 f C;rwa [Aw.o8 _ _ _ _ C C,aD rfl]at this);have a':(n,p)=(D,G):=h7 T;have hd:=af f;clear f T;go_wp2_with fail;refine br L.o ?_;have f:=hd.o;rw[(Prod.mk.inj a').1,(Prod.mk.inj a').2,<-V'.out]at f;clear hd L a';go_wp2_with fail;go_roundg (2-(k+1))
    case rel=>exact⟨k+1,rfl,U,by go_num,N,X.out,f⟩
    omega
   | cons m l=>
    obtain⟨Y4,h1,au,h2⟩:=Rs T;have L:Hid (az 30 #[B.b,I k] _ λe w'=>e=.returned (I ((l.length:aa)+1))/\_=w'):=af (by have:=E9 f C;rw[Aw.o8 _ _ _ _ C C,aD rfl]at this;simpa using this);have K:=af (NV f C au h1);have Q':=af h2;have TS:=af sd;have Y_:(0:aa)<(l.length:aa)+1:=U;clear f T h1 h2 sd au;go_wp2_with fail;refine br L.o ?_;go_wp2_with fail;refine K.o.mono ?_;rintro e aB ⟨⟨CW,Za,W',A,n8,c,Y',bZ,rfl⟩,Z⟩;clear K L;go_wp2_with fail;go_roundg l.length
    case rel=>exact⟨l,Y4,_,rfl,Q'.out,Z⟩
    have:=TS.out;simp only[dr]at this;omega
  obtain rfl:k=2:=U;obtain rfl:x=M:=h7 (S.out.symm.trans l'.out);clear S;go_wp2_with fail;go_roundg (20-(j+1))
  case rel=>exact⟨j+1,rfl,U,by go_num,x,Tq.out,W.out⟩
  omega
 obtain rfl:j=20:=U;obtain rfl:s=fr:=h7 (t.out.symm.trans lb.out);go_wp2_with fail;go_ret;exact⟨rfl,O.out⟩
def NU(r:aa):oy r s9 (nP 5 1 4 100 100):=by
 have⟨aj,a⟩:=Ih 5 1 4 100 100 U U U U U;refine⟨λk hk=>?_,λk _=>?_,λk _ m hm=>?_,aj,a⟩
 .have e:s9.P k=Nm.new k:=by
   have:k=0\/k=1:=U
   rcases this with rfl|rfl<;>rfl
  rw[e];refine⟨?_,rfl,rfl,rfl,rfl,rfl,rfl,c' _,λm hm=>nomatch hm⟩;refine xr ?_ rfl rfl rfl rfl rfl rfl rfl
  funext j
  show h' 1=if j<2 then pC 0 (if j=k then 1 else 1) 0 else h' 1
  split
  .rw[ite_self];rfl
  rfl
 .have:k=0\/k=1:=U
  rcases this with rfl|rfl<;>rfl
 have e:s9.F k=[]:=by unfold Aw.F;split<;>rfl
 rw[e]at hm;cases hm
def cq.below{B:jt}{M:dZ}{bh:aa}{R:ah ay}(h:cq w B M bh R):kC w/\Below B.o.bm B.o.w w:=by
 obtain⟨V,T,d,h⟩:=h;have a:=h.at' 9 rfl;exact⟨a.1,a.2.1⟩
theorem Jv(b:kC w)(a:0<w.heap.size):Sep w [ay.kinds ⟨w,w⟩]:=
 ⟨λr c=>by rw[h6.1 c];exact⟨b,bY _ _,a,c9 _⟩,Dq _ _⟩
def Kf(t:kC w)(j:0<w.heap.size):az 8 #[] w λe w'=>e=.returned (.bool true)/\Below w w w':=by
 have⟨r,A⟩:=cQ (iJ (lN 16));have⟨b,z,au,aq⟩:=Vg r;have i:=af A;have C:(3:aa)<(b.p.now:aa):=U
 go_in
 go_wp2_with fail;refine aT (XF w) λan u=>?_;have h:=af (GO ((Jv t j).keep (Keeps.bE u a7)) 5 1 4 100 100 8 0 0 U U U U U);go_wp2_with fail;refine h.o.mono ?_;rintro e aB ⟨B,rfl,y,l⟩;have m:=af (Of (R:=_) ⟨_,_,y,NU r⟩ i.out z);go_wp2_with fail;refine aT m.o ?_;rintro bn ⟨M,bh,a,bj⟩;have v:Below w w bn:=by have:=a.below.2;rwa [l]at this
 obtain⟨V,T,d,f⟩:=a.view (k:=0) U;obtain⟨E,D,d1,g⟩:=a.view (k:=1) U;have s:Hid (az 22 #[.pointer (some (ad ((B.p 0).c.c) 0 ab))] bn λe w'=>e=.returned (I b.p.now)/\bn=w'):=af (by have:=rB (gX f);rwa [(bj.hq 0 U).x]at this);have n:Hid (az 17 #[.pointer (some (ad ((B.p 1).lb) 0 ab))] bn λe w'=>e=.returned (I b.q.aS)/\bn=w'):=af (by have:=x' (nI g);rwa [(bj.hq 1 U).aS]at this);go_wp2_with fail;refine br ((AY a (k:=0) U)) ?_;go_wp2_with fail;refine br (vC f) ?_;go_wp2_with fail;refine br s.o ?_;go_wp2_with fail;refine br ((AY a (k:=1) U)) ?_;go_wp2_with fail;refine br (G8 g) ?_;go_wp2_with fail;refine br n.o ?_;go_wp2;go_ret;exact⟨rfl,v⟩
def A9(r:aa)(p:ct):(fN r p).1.ld.most=p.1.ld.most:=by
 unfold fN;split
 .rfl
 show(gJ p.1.ld).most=_;unfold gJ;split<;>rfl
def G5(p:ct):(e7 p).1.ld.most=p.1.ld.most:=by
 unfold e7;split
 .exact A9 _ _
 rfl
def Hk(f v:aa)(p:ct):(ic f v p).1.ld.most=p.1.ld.most:=by
 unfold ic;split
 .split
  .rfl
  exact A9 _ _
 split<;>rfl
def Wi(p:ct):(eZ p).1.ld.most=p.1.ld.most:=by
 unfold eZ;simp only[];split
 .unfold iY;split
  .exact Hk _ _ _
  rfl
 rfl
theorem JH:∀ (n:J) (p:ct),(e0 n p).1.ld.most=p.1.ld.most
 | 0,_=>rfl
 | n+1,p=>by
  unfold e0;split
  .rfl
  rw[JH n,Wi]
theorem Kb(now:aa):∀ (l:ah (J×ah aC)) (p:ct),(l.foldl (jk now) p).1.ld.most=p.1.ld.most
 | [],_=>rfl
 | g :: l,p=>Kb now l (jk now p g)
def SY(v:aQ)(s:bO):(dc v s).1.ld.most=s.ld.most:=by
 have a:(cW s).1.ld.most=s.ld.most:=by
  unfold cW;split
  .rfl
  exact Kb _ _ _
 unfold dc ji;rw[JH];unfold eL;split<;>exact a
theorem oA.most{s s':bO}{c3:ah cg}(h:oA s s' c3):s'.ld.most=s.ld.most:=by
 cases h with
 | tick v aX=>
  unfold cJ;split
  .rfl
  unfold l2;rw[G5];exact SY v s
 | vD t=>
  unfold dx;split
  .rfl
  split
  .rfl
  rw[G5];unfold Go.Proofs.YtalagblioepadaaGreatDoor.fj;split
  .exact Hk _ _ _
  split<;>rfl
 | leave=>
  unfold fY;split
  .rfl
  exact A9 _ _
 | none=>rfl
theorem zV.most{M fH:dZ}{bf bZ:aa}{c3:ah cg}(h:zV M fH bf c3 bZ)(j:J):(fH.p j).ld.most=(M.p j).ld.most:=by
 have⟨k,_,_,h1,h2,_⟩:=h.ex;by_cases e:j=k
 .rw[e];exact h1.most
 rw[h2 j e]
structure Bounds(n d w:J)(M:dZ)(k:J):ak where
 kept:(M.p k).x.L.length<=w+d+3
 bd:((M.p k).ld.bd.length:aa)<=(M.p k).ld.most
 ahead:(M.p k).x.now<=iy (M.p k).x+w
 YT:(M.cs.get k).length<=64
 waits:(M.p k).aE.own.length<=2*(w+d)
 ours:((M.p k).x.f (M.p k).x.aJ).next<=(M.p k).x.now+d
 top:(M.p k).x.now<=n
 aS:iy (M.p k).x<=n+d
def e'.bounds{n d w k:J}{cr:aa}{M:dZ}(h:e' n d w cr (pad d M))(hk:k<2):Bounds n d w M k:=by
 obtain⟨F,us,A,av⟩:=h.ps k hk;have ar:(pad d M).p k=M.p k:=rfl;have e:=av.cG.ju;have a:=av.cG.ab;have b:=av.cG.oT;have hm:=av.aJ;have l:=av.NH;have i:=av.qK;have c:=av.dl;have g:=av.wn;rw[ar]at e a b l i c g hm;rw[c]at a;rw[g]at b e;have j:=av.tI;rw[ar]at j;refine⟨?_,?_,?_,h.rU k,?_,by unfold c4 at a;omega,j,?_⟩
 .have:=av.cG.hR.L
  rw[ar]at this;rw[this];unfold ep;simp;omega
 .have:=av.cG.lp
  rwa [ar]at this
 .unfold iy;unfold c4 at a;unfold bT fq at b;rw[hm]at a b
  have:k=0\/k=1:=U
  rcases this with rfl|rfl
  .have h2:(M.p 0).x.now<=((M.p 0).x.f 1).next+w:=b;omega
  have h2:(M.p 1).x.now<=((M.p 1).x.f 0).next+w:=b;omega
 .have:=av.aE.du
  rw[ar]at this;rw[this,gd,<-i];omega
 unfold iy;unfold c4 at a;rw[hm]at a
 have:k=0\/k=1:=U
 rcases this with rfl|rfl<;>omega
end Go.Proofs.YtalagblioepadaaGreatDoor
