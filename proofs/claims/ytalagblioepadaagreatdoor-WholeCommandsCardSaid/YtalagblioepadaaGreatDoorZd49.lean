/- The proof, part 49. -/
import Derived.Test.YtalagblioepadaaGreatDoorZd48
namespace Go.Proofs.YtalagblioepadaaGreatDoor
set_option linter.all false
open Proofs.Tryz List Go.RowKit Go.Maps Go.Shelf
set_option maxRecDepth 100000
set_option maxHeartbeats 4000000
def qS{p:al}(h:p:=by cases c):p:=h
def AF{p:al}(h:p:=by unfold iJ;omega):p:=h
def NT{p:al}(h:p:=by
 go_wp2_with first|refine lC K rfl rfl rfl rfl ?_|((with_reducible refine w0 t rfl rfl ?_ ?_ ?_);exact rfl;exact rfl)|refine zK s' rfl rfl rfl rfl rfl ?_
 go_ret;exact⟨rfl,sd.out⟩
 ):p:=h
def OC{p:al}(h:p:=by
 clear D hy E hne;go_wp2_with fail;go_roundg (l.length-(k+1))
 case rel=>exact⟨k+1,rfl,U,by go_num,ab.out⟩
 omega
 ):p:=h
def Ms{p:al}(h:p:=by
 rcases eJ.1 hd with hd|hd
 .exact h.cP d hd i
 rw[gC.1 hd]at i;omega
 ):p:=h
def Mt{p:al}(h:p:=by
 go_wp2_with fail;go_roundg (l.length-(k+1))
 case rel=>exact⟨k+1,rfl,U,by go_num,ab.out⟩
 omega
 ):p:=h
def MX{p:al}(h:p:=by
 exact⟨b.x,b.aF,b.aP,b.cc,b.cz,b.own,b.wt,b.ok,b.out⟩
 ):p:=h
structure mr(k:J)(r:aa)(a:Nm)(s:bM):al where
 x:s.x=ft k a
 aF:s.aF=a.aF
 aP:s.ld.aP=a.aP
 cc:s.cc=false
 cz:s.cz=a.cz
 own:s.own=if a.rep then [(16,r)]else []
 wt:s.wt=[]
 ok:a.fst<=a.cv
 out:∀ m∈a.aF.out,m.kind=4->m.sum=r
def Dl{r:aa}{l:cd}(lead:aa)(h:∀ m∈l.out,m.kind=4->m.sum=r):(∀ m∈(c9 l lead).1,m.kind=4->m.sum=r)/\∀ m∈(c9 l lead).2.out,m.kind=4->m.sum=r:=by
 have a:∀ m∈(gI l).out,m.kind=4->m.sum=r:=by
  unfold gI;split<;>exact h
 unfold c9;generalize gI l=b at a;unfold mb;split
 .split
  .exact⟨λm hm=>(by rw[gC.1 hm];intro c;cases c),a⟩
  exact⟨λm hm=>(nomatch hm),a⟩
 refine⟨λm hm=>?_,λm hm=>nomatch hm⟩;rcases eJ.1 hm with hm|hm
 .exact a m hm
 split at hm
 .rw[gC.1 hm];intro c;cases c
 have aK:(nK b).kind=4->(nK b).sum=r:=by
  unfold nK;split<;>(intro c;cases c)
 unfold mR at hm;split at hm
 .rcases ff.1 hm with hm|hm
  .rw[hm];exact aK
  rw[gC.1 hm];intro c;cases c
 rw[gC.1 hm];exact aK
def Hc{k:J}(hk:k<2){r:aa}{a:Nm}{s:bM}{cs:ah bI}{l:aa}(h:mr k r a s)(m:J)(c:dZ s.x=ft k {a with fst:=m})(hm:m<=a.cv)(d:(a.now:aa)-a.cv=l)(aw:(c9 a.aF l).2.state≠2):mr k r {a with fst:=m,aF:=(c9 a.aF l).2} (lT (s,cs)).1/\(c9 s.aF (iw {s with x:=dZ s.x})).1=(c9 a.aF l).1:=by
 have b:iw {s with x:=dZ s.x}=l:=by
  show(((dZ s.x).now:J):aa)-(((dZ s.x).f (1-(dZ s.x).aN)).next:aa)=l;rw[c,show(ft k {a with fst:=m}).aN=k from rfl,A8 hk];exact d
 have e:(lT (s,cs)).1={s with x:=dZ s.x,aF:=(c9 a.aF l).2}:=by
  unfold lT fj;simp only[b];simp only[h.aF];rw[aB aw]
 rw[e,b,h.aF];exact⟨⟨c,rfl,h.aP,h.cc,h.cz,h.own,h.wt,hm,(Dl l h.out).2⟩,rfl⟩
def YW{k:J}(hk:k<2){r:aa}(G:r=jb (mf 16)){a a':Nm}{s:bM}{A:ah a6}(h:mr k r a s)(aK:Dm r a=some (A,a')):mr k r a' (cH 0 s).1/\fo 0 s=A/\∀ m∈A,m.kind=4->m.sum=r:=by
 have H:cL s=(s,[]):=by
  unfold cL;rw[h.x,L2 hk]
 have D:cH 0 s=lT (dj 0 s)/\fo 0 s=(c9 (dj 0 s).1.aF (iw {(dj 0 s).1 with x:=dZ (dj 0 s).1.x})).1:=by
  unfold cH fo;rw[h.cc];exact⟨rfl,rfl⟩
 have T:dc s=a.d':=by
  unfold dc;rw[h.x,show(ft k a).aN=k from rfl,P6 hk];rfl
 have X:bS s=a.cv:=by
  unfold bS fv;rw[h.x,show(ft k a).aN=k from rfl,A8 hk];rfl
 rw[D.1,D.2];unfold Dm at aK;split at aK
 .rename_i an;obtain⟨h1,⟨b6,bw,eC,dY,fV,ek,c2,fI⟩,w⟩:=an;have bz:=h.ok;simp only[hI,jR]at aK;obtain⟨rfl,rfl⟩:=aK;have R:gm s=true:=by
   unfold gm sX iw j0;rw[X,h.aF,h.cz,h.x,GR hk];simp only[ep,gh,lD,Bool.and_eq_false_iff,pO];refine⟨h1,?_,?_⟩
   .show ¬ 4<(a.now:aa)-_-_\/_;omega
   show ¬ ((4:J):aa)<=(a.now:aa)-_;omega
  obtain⟨i,c⟩:∃ i:Nm,i={a with now:=a.now+1,d':=a.d'+1,aF:=kq a.aF a.d' 0}:=⟨_,rfl⟩;obtain⟨s1,d,es,b⟩:∃ s1 d,eF 0 (cL s)=(s1,d)/\mr k r i s1:=by
   refine⟨(mc (ez s 0,[])).1,(mc (ez s 0,[])).2,by unfold eF;rw[H,aE R],?_⟩;have p:(ez s 0).x=ft k {a with d':=a.d'+1}:=by
    show gL s.x s.x.aN 0=_;rw[h.x];exact JN hk a hk _ (by rw[aE rfl]) (by rw[aE rfl];omega)
   rw[c];refine⟨?_,?_,h.aP,h.cc,h.cz,h.own,h.wt,bz,?_⟩
   .show {jr (ez s 0).x (ez s 0).x.now with now:=(ez s 0).x.now+1}=_;rw[p];exact Yu (k:=k) {a with d':=a.d'+1} (by show a.fst<=a.now;omega) (by show a.now<a.fst+64;omega)
   .show kq s.aF (dc s) 0=kq a.aF a.d' 0;rw[T,h.aF]
   show ∀ m∈(kq a.aF a.d' 0).out,_;unfold kq;split<;>exact h.out
  obtain⟨g,f⟩:∃ g:Nm,g={i with aP:=a.aP+1,aF:=lk r a,rep:=a.rep || sE (a.aP+1)}:=⟨_,rfl⟩;have K:c3 s1.x=a.aP+1:=by
   rw[b.x,C5 hk,c];show((min (min (a.d'+1) a.cv) (a.now+1):J):aa)-1=_;omega
  have j:s1.ld.aP=a.aP:=by rw[b.aP,c]
  obtain⟨s2,t,M,q⟩:∃ s2 t,dj 0 s=(s2,t)/\mr k r g s2:=by
   have e:dj 0 s=Go.Proofs.YtalagblioepadaaGreatDoor.eR (s1,d):=by
    unfold dj j9;rw[es];show fc (c3 s1.x-s1.ld.aP).toNat (s1,d)=_;rw[K,j,show(a.aP+1-a.aP).toNat=0+1 by omega];unfold fc;rw[aB (by show ¬ (s1.cc=true\/c3 s1.x<=s1.ld.aP);rw[b.cc,K,j];simp;omega)];rfl
   refine⟨(Go.Proofs.YtalagblioepadaaGreatDoor.eR (s1,d)).1,(Go.Proofs.YtalagblioepadaaGreatDoor.eR (s1,d)).2,e,?_⟩;have E:(jX s1.ld (s1.ld.aP+1)).aP=a.aP+1:=by rw[<-j];rfl
   by_cases au:(a.aP+2)%16=0
   .have n:sE (a.aP+1)=true:=ei U;have⟨fq,q0⟩:=fI n;have z:(s1.ld.aP+2)%16=0:=by rw[j];exact au
    have O:(s1.ld.aP+2).toNat=16:=by rw[j,fq];rfl
    have L:hg s1.x 16=mf 16:=by
     rw[b.x];exact K1 i (by rw[c];show a.fst<=16;omega) (by rw[c];show 16<=a.now+1;omega)
    have V:s1.own=[]:=by rw[b.own,c];show(if a.rep then _ else _)=_;rw[q0];rfl
    have u:Go.Proofs.YtalagblioepadaaGreatDoor.eR (s1,d)=(sC {s1 with ld:=jX s1.ld (s1.ld.aP+1)} 16,d++h4 s1.ld (s1.ld.aP+1)):=by
     unfold Go.Proofs.YtalagblioepadaaGreatDoor.eR;simp only[];rw[aE z,O];unfold js;rw[show lV ({s1 with ld:=jX s1.ld (s1.ld.aP+1)}:bM).wt ((16:J):aa)=none by show lV s1.wt _=none;rw[b.wt];rfl]
    rw[u,f];have o:lk r a=l9 (kq a.aF a.d' 0) 16 r:=by unfold lk;rw[aE n,fq];rfl
    have F:s1.aF=kq a.aF a.d' 0:=by rw[b.aF,c]
    refine⟨by rw[c]at b⊢;exact b.x,?_,E,b.cc,by rw[c]at b⊢;exact b.cz,?_,b.wt,by rw[c];exact bz,?_⟩
    .show l9 s1.aF ((16:J):aa) (jb (hg s1.x 16))=lk r a;rw[L,<-G,o,F];rfl
    .show lQ (rn s1.own ((16:J):aa) (jb (hg s1.x 16))) (((16:J):aa)-128)=if (a.rep || sE (a.aP+1))then _ else _
     rw[L,<-G,V,n,Bool.or_true];rfl
    show ∀ m∈(lk r a).out,_;rw[o,<-F];have p:∀ m∈s1.aF.out,m.kind=4->m.sum=r:=by rw[b.aF];exact b.out
    unfold l9;split
    .intro m hm;rcases eJ.1 hm with hm|hm
     .exact p m hm
     rw[gC.1 hm];exact λ_=>rfl
    exact p
   have n:sE (a.aP+1)=false:=di U;have z:¬ (s1.ld.aP+2)%16=0:=by rw[j];exact au
   have u:Go.Proofs.YtalagblioepadaaGreatDoor.eR (s1,d)=({s1 with ld:=jX s1.ld (s1.ld.aP+1)},d++h4 s1.ld (s1.ld.aP+1)):=by
    unfold Go.Proofs.YtalagblioepadaaGreatDoor.eR;simp only[];rw[aB z]
   have o:lk r a=kq a.aF a.d' 0:=by unfold lk;rw[n];rfl
   have N:g={i with aP:=a.aP+1}:=by rw[f,o,n,w5,c]
   rw[u,N];exact⟨b.x,b.aF,E,b.cc,b.cz,b.own,b.wt,b.ok,b.out⟩
  have W:c3 s2.x=a.aP+1:=by
   rw[q.x,C5 hk,f,c];show((min (min (a.d'+1) a.cv) (a.now+1):J):aa)-1=_;omega
  have y:g.aF=lk r a:=by rw[f]
  have hfin:=Hc (cs:=t) (l:=(a.now:aa)+1-a.cv) hk q (a.aP+1).toNat (by
   unfold dZ;rw[W,aB U,q.x];refine Qs g _ ?_ ?_ ?_ ?_<;>rw[f,c]
   .show a.fst<=_;omega
   .show _<=a.d'+1;omega
   .show _<=a.cv;omega
   .show _<=a.now+1;omega) (by rw[f,c];show _<=a.cv;omega) (by rw[f,c];show((a.now+1:J):aa)-(a.cv:aa)=_;omega) (by rw[y,w];omega)
  rw[M];rw[y]at hfin;have v:({g with fst:=(a.aP+1).toNat,aF:=(c9 (lk r a) ((a.now:aa)+1-a.cv)).2}:Nm)=Lk r a:=by rw[f,c];rfl
  rw[v]at hfin;refine⟨hfin.1,hfin.2,?_⟩
  have:=q.out
  rw[y]at this;exact(Dl _ this).1
 split at aK
 .rename_i _ an;obtain⟨h1,h2,w,B,C,P,Q⟩:=an;simp only[hI,jR]at aK;obtain⟨rfl,rfl⟩:=aK;have gK:c3 s.x=-1:=by
   rw[h.x,C5 hk,h2,w,B];rfl
  have S:dj 0 s=(s,[]):=by
   have e:eF 0 (s,[])=(s,[]):=by
    unfold eF;rw[aB];unfold gm;rw[h.aF,h1];simp
   unfold dj j9;rw[H,e];show fc (c3 s.x-s.ld.aP).toNat (s,[])=_;rw[gK,h.aP,P];rfl
  rw[S]
  have hfin:=Hc (cs:=[]) (l:=-1) hk h 0 (by
   unfold dZ;rw[gK,aE U,h.x];show ft k a=ft k {a with fst:=0};rw[<-C]) (de _) (by rw[h2,B];rfl) (by rw[Q];omega)
  have v:({a with fst:=0,aF:=(c9 a.aF (-1)).2}:Nm)={a with aF:=(c9 a.aF (-1)).2}:=by rw[<-C]
  rw[v]at hfin;exact⟨hfin.1,hfin.2,(Dl _ h.out).1⟩
 cases aK
def YM{r:aa}{l:cd}(m:a6)(h:∀ x∈l.out,x.kind=4->x.sum=r):(∀ x∈(cW l m).2.2.out,x.kind=4->x.sum=r)/\((cW l m).1.kind=4->m.kind=4/\(cW l m).1.sum=m.sum):=by
 have b:∀ s,(h3 l s).out=l.out:=λs=>by
  unfold h3;simp only[];split<;>rfl
 unfold cW;split
 .refine⟨?_,λc=>qS⟩;split
  .exact h
  intro x a;rcases eJ.1 a with a|a
  .exact h x a
  rw[gC.1 a];intro c;cases c
 split
 .split
  .exact⟨h,λc=>qS⟩
  exact⟨h,λc=>qS⟩
 split
 .exact⟨h,λc=>qS⟩
 split
 .unfold h_;split
  .rename_i e;unfold jm;simp only[];split
   .exact⟨by rw[b];exact h,λc=>qS⟩
   exact⟨by show ∀ x∈(h3 l m.cp).out,_;rw[b];exact h,λc=>by rw[show m.kind=4 from c]at e;omega⟩
  split
  .rename_i e;exact⟨h,λ_=>⟨e,rfl⟩⟩
  split
  .exact⟨by show ∀ x∈(h3 l m.cp).out,_;rw[b];exact h,λc=>qS⟩
  split
  .exact⟨h,λc=>qS⟩
  rename_i e _ _;exact⟨h,λc=>absurd c e⟩
 exact⟨h,λc=>qS⟩
def SH{k:J}(hk:k<2){r:aa}{a a':Nm}{s:bM}{m:a6}(h:mr k r a s)(hm:m.wf/\ds m)(aw:m.kind=4->m.sum=r)(aK:sl a m=some a'):mr k r a' (dG (dv m) s).1/\jl (dv m) s=0:=by
 unfold sl at aK;simp only at aK;split at aK
 .rename_i an;have⟨u,v,w,D,y⟩:=an;simp only[hI]at aK;have j:cD s.aF (dv m)=qc a.aF m:=by rw[h.aF];exact SK a.aF m u hm
  have A:(qc a.aF m).2.1=0/\(∀ x∈(qc a.aF m).2.2.out,x.kind=4->x.sum=r)/\((qc a.aF m).1.kind=4->(qc a.aF m).1.sum=r):=by
   have⟨o,p⟩:=YM (l:={a.aF with heard:=a.aF.cf}) m h.out;unfold qc;split
   .exact⟨rfl,o,λc=>(p c).2.trans (aw (p c).1)⟩
   exact⟨rfl,o,λc=>qS⟩
  have⟨g,q,t⟩:=A;generalize qc a.aF m=H at *;have z:jl (dv m) s=0:=by
   unfold jl;rw[h.cc,j];exact g
  refine⟨?_,z⟩;have f:e' s.x H.1.a_=ft k {a with cv:=a.cv+H.1.a_.length}:=by
   rw[h.x];exact IA hk H.1.a_ a h.ok λx f=>by simpa using all_eq_true.1 w x f
  obtain⟨s1,n⟩:∃ s1:bM,s1={s with x:=e' s.x H.1.a_,aF:=H.2.2}:=⟨_,rfl⟩;have b:mr k r {a with aF:=H.2.2,cv:=a.cv+H.1.a_.length} s1:=by
   rw[n];exact⟨f,rfl,h.aP,h.cc,h.cz,h.own,h.wt,by show a.fst<=a.cv+_;have:=h.ok;omega,q⟩
  have i:mr k r a' (fB H.1 s1).1:=by
   rw[<-aK];unfold Go.Proofs.YtalagblioepadaaGreatDoor.fB;by_cases d:H.1.kind=4
   .rw[aE d];have⟨fE,C⟩:=y d;unfold iu;have B:lV s1.own H.1.frame=some r:=by
     rw[b.own,C];rw[fE];rfl
    simp only[B];rw[aE (t d).symm,aB U];exact MX
   rw[aB d];split
   .exact⟨b.x,b.aF,b.aP,b.cc,rfl,b.own,b.wt,b.ok,b.out⟩
   exact MX
  have e:(dG (dv m) s).1=(fB H.1 s1).1:=by
   have au:dG (dv m) s=fj (fB H.1 s1):=by
    unfold dG;rw[aB (by rw[h.cc];simp),j,aB (λc=>c g),n]
   rw[au];unfold fj;rw[aB (by rw[i.aF,<-aK];exact v)]
  rw[e];exact i
 cases aK
variable{w w':aj}{B:jB}{M:dV}{bk:aa}{R:ah az}{r:aa}{s s':Aw}{k:J}
def Aw.zA(s:Aw){k b j:J}(a:Nm)(l:ah a6)(n:J)(hk:k<2)(c:j<2):(((s.l8 k a).l7 b l).up n).P j=if j=k then a else s.P j:=by
 have h1:k=0\/k=1:=U;have h2:j=0\/j=1:=U;unfold l7;rcases h1 with rfl|rfl<;>rcases h2 with rfl|rfl<;>split<;>rfl
def Aw.pE(s:Aw){k b j:J}(a:Nm)(l:ah a6)(n:J)(hk:b<2)(c:j<2):(((s.l8 k a).l7 b l).up n).F j=if j=b then l else s.F j:=by
 have h1:b=0\/b=1:=U;have h2:j=0\/j=1:=U;unfold l8;rcases h1 with rfl|rfl<;>rcases h2 with rfl|rfl<;>split<;>rfl
structure o3(r:aa)(s:Aw)(M:dV):al where
 ab:∀ k,k<2->mr k r (s.P k) (M.p k)
 f:∀ k:J,k<2->M.cs.get k=(s.F k).map dr
 ok:∀ k,k<2->∀ m∈s.F k,(m.wf/\ds m)/\(m.kind=4->m.sum=r)
 bi:eX s.n 1 4 5 (pad 1 M)
 bN:gV 5 (pad 1 M)
theorem Kz(a:J)(aZ:a<2)(j:J)(f:j<2):∀ (b:ah a6) (cs:cY),(∀ m∈b,m.wf/\ds m)->(cs.get a).length+b.length<=60->(gO cs a b).get j=if j=a then cs.get j++b.map dr else cs.get j
 | [],cs,_,_=>by
  show cs.get j=_;split<;>simp
 | m :: l,cs,hm,g=>by
  have d:iJ (a:aa):=by unfold iJ;omega
  rw[dy]at g;have e:hT cs 64 a (dr m)=cs.put a (cs.get a++[dr m]):=by
   unfold hT;rw[aE ⟨d,(rH (hm m nS).2)⟩,aE U]
  show(gO (hT cs 64 a (dr m)) a l).get j=_;rw[e,Kz a aZ j f l _ (λx h=>hm x (kx _ h)) (by rw[yw _ _ _ _ aZ d,aE rfl,cx,jd];omega),yw _ _ _ _ f d];by_cases c:j=a
  .subst c;rw[aE rfl,aE rfl,aE rfl,jQ,dL];rfl
  rw[aB c,aB U,aB c]
theorem o3.tick(h:o3 r s M)(l:r=jb (mf 16))(hk:k<2)(aK:rI r k s=some s'):o3 r s' (gT k 0 M)/\s.n<=400:=by
 unfold rI at aK;split at aK
 .rename_i e a au;split at aK
  .rename_i av;simp only[hI]at aK;subst aK;have⟨o,g,q⟩:=YW hk l (h.ab k hk) au;have d:∀ m∈e,m.wf/\ds m:=λm hm=>by
    have:=(wX h.bi U hk 0 bt).snd m (by show m∈fo 0 (M.p k);rw[g];exact hm)
    exact⟨this.1,this.2.1⟩
   have c:1-k<2:=U;have i:(M.cs.get ((1-k:J):aa)).length=(s.F (1-k)).length:=by rw[h.f _ c,hG]
   refine⟨⟨λj b=>?_,λj b=>?_,λj b m hm=>?_,yZ 1 k 0 M▸h.bi.tick U hk 0 bt,yZ 1 k 0 M▸h.bN.tick h.bi U hk 0 bt⟩,U⟩
   .rw[Aw.zA _ _ _ _ hk b];show mr j r _ (bZ M.p k (cH 0 (M.p k)).1 j);unfold bZ;split
    .subst j;exact o
    exact h.ab j b
   .rw[Aw.pE _ _ _ _ c b];show(gO M.cs (1-(k:aa)) (fo 0 (M.p k))).get j=_;rw[g,show(1:aa)-(k:aa)=((1-k:J):aa)by omega,Kz (1-k) c j b e M.cs d (by rw[i];exact av.2)];split
    .subst j;rw[h.f _ c,jx]
    exact h.f j b
   rw[Aw.pE _ _ _ _ c b]at hm;split at hm
   .subst j;rcases eJ.1 hm with hm|hm
    .exact h.ok _ c m hm
    exact⟨d m hm,q m hm⟩
   exact h.ok j b m hm
  cases aK
 cases aK
section
variable{p l3:Nm}{m:a6}{l:ah a6}{n:J}
def o3.first(h:o3 r (((s.l8 k p).l7 k (m :: l)).up n) M)(hk:k<2):fX M.cs k 0=some (dr m)/\(∃ m',(dr m).data.toList=dv m'/\jg (4+1) ((pad 1 M).bG (1-k)) (bS (M.p (1-k))) m')/\(dr m).size<=256/\(m.wf/\ds m)/\(m.kind=4->m.sum=r):=by
 have e:M.cs.get k=dr m :: l.map dr:=by rw[h.f k hk,Aw.pE _ _ _ _ hk hk,aE rfl];rfl
 have a:=h.ok k hk m (by rw[Aw.pE _ _ _ _ hk hk,aE rfl];exact nS);obtain⟨m',h1,h2⟩:=h.bi.vZ k hk (dr m) (by show dr m∈M.cs.get k;rw[e];exact nS);refine⟨?_,⟨m',by rw[h1];rfl,h2⟩,(rH a.1.2).2,a⟩;unfold fX;rw[aE ⟨AF,jw _⟩,e];rfl
def o3.take(h:o3 r (((s.l8 k p).l7 k (m :: l)).up n) M)(hk:k<2)(av:n<400)(au:sl p m=some l3):o3 r (((s.l8 k l3).l7 k l).up (n+1)) (yC k (dr m) (fS M.cs k 0) M)/\jl (dr m).data.toList (M.p k)=0:=by
 obtain⟨_,g,_,hm,aw⟩:=h.first hk;have d:=h.ab k hk;rw[Aw.zA _ _ _ _ hk hk,aE rfl]at d;obtain⟨v,w⟩:=SH hk d hm aw au;obtain⟨i,o,q,t,u⟩:=Ip (M.p k) (dr m).data.toList (.inl ⟨m,rfl,hm⟩) (h.bN.cz k hk);have aZ:∀ j:J,j<2->(fS M.cs k 0).get j=if j=k then l.map dr else M.cs.get j:=λj a=>by
  unfold fS;rw[aE ⟨AF,jw _⟩,yw _ _ _ _ a AF,h.f k hk,Aw.pE _ _ _ _ hk hk,aE rfl];by_cases e:j=k
  .subst e;rw[aE rfl,aE rfl];rfl
  rw[aB e,aB U]
 refine⟨⟨λj a=>?_,λj a=>?_,λj a x c=>?_,h.bi.goes hk (Iq h.bi (by show n<=400;omega) hk (.inl g)) _ (fS M.cs k 0) (wV _ _ _) (by show M.cs.lost<=_/\_;rw[(Dh M.cs k 0)];show _/\M.cs.lost<=M.cs.lost+1;omega),h.bN.still i o q t u⟩,w⟩
 .rw[Aw.zA _ _ _ _ hk a];show mr j r _ (bZ M.p k (dG (dv m) (M.p k)).1 j);unfold bZ;split
  .subst j;exact v
  rename_i e
  have:=h.ab j a
  rwa [Aw.zA _ _ _ _ hk a,aB e]at this
 .rw[Aw.pE _ _ _ _ hk a];show(fS M.cs k 0).get j=_;rw[aZ j a];split
  .rfl
  rename_i e
  have:=h.f j a
  rwa [Aw.pE _ _ _ _ hk a,aB e]at this
 have b:=h.ok j a x;rw[Aw.pE _ _ _ _ hk a]at c b;split at c
 .rename_i e;rw[aE e]at b;exact b (kx _ c)
 rename_i e;rw[aB e]at b;exact b c
end
def k1(r:aa)(B:jB)(R:ah az)(s:Aw)(w:aj):al:=∃ M bk,cl w B M bk R/\o3 r s M
def AN(e:Ending):al:=∃ (a:b_ Addr) (d b:J) (A:b_ Addr) (n c:J) (m:a1) (b0:aa),e=aY #[aL #[aq a d b,aq A n c,.bool m],I b0]
def cl.forget{x:az}(h:cl w B M bk (x :: R)):cl w B M bk R:=by
 have⟨V,T,d,h⟩:=h;exact⟨V,T,d,Sep.tail (r:=x) (Sep.perm h (qJ (l₁:=bH (B.p 0) (M.p 0) (d 0)++lN 0 B M V T bk d) (l₂:=R) (a:=x)))⟩
def kf.out{cs:ah bI}{b0:aa}{e:Ending}(h:kf B M bk cs b0 R e w):AN e/\cl w B M bk R:=by
 obtain⟨a,A,n,c,m,rfl,h⟩:=h;obtain⟨b,d,rfl,_⟩:=cS (show w.ownsRow 0 47 12 a cs.length (dC cs)from h.res (r:=az.cF a cs) aM);exact⟨⟨_,_,_,A,n,c,m,b0,rfl⟩,h.forget⟩
def Pf(h:k1 r B R s w)(a:r=jb (mf 16))(hk:k<2)(aK:rI r k s=some s'):aA 10 #[B.b,aL #[I 1,I k,I 0,I 0,aH 0,aH 0]] w λe w'=>AN e/\k1 r B R s' w':=by
 obtain⟨M,bk,ak,bh⟩:=h;obtain⟨h2,av⟩:=bh.tick a hk aK;exact(HZ ak bh.bi bh.bN av 1 k 0 0 0 0 rfl hk rfl bt).mono λe w' au=>⟨au.out.1,_,_,au.out.2,h2⟩
def Pe{p l3:Nm}{m:a6}{l:ah a6}{n:J}(h:k1 r B R (((s.l8 k p).l7 k (m :: l)).up n) w)(hk:k<2)(av:n<400)(aK:sl p m=some l3):aA 10 #[B.b,aL #[I 2,I k,I 0,I 0,aH 0,aH 0]] w λe w'=>AN e/\k1 r B R (((s.l8 k l3).l7 k l).up (n+1)) w':=by
 obtain⟨M,bk,ak,bh⟩:=h;obtain⟨h2,i⟩:=bh.take hk av aK;obtain⟨an,d,aw,_⟩:=bh.first hk;refine(H0 ak bh.bi bh.bN (by show n<=400;omega) 2 k 0 0 0 0 U hk rfl (dr m) (fS M.cs k 0) aw (.inl d) λg f c=>?_).mono λe w' au=>⟨au.out.1,_,_,au.out.2,h2⟩;refine BP c k 0 0 0 0 (dr m) true (fS M.cs k 0) λW a=>?_
 have:=tH a k 0
 rw[an]at this;exact this
def F'(h:k1 r B R s w)(hk:k<2):aA 30 #[B.b,I k] w λe w'=>e=.returned (I (s.F k).length)/\w=w':=by
 have⟨M,bk,ak,bh⟩:=h
 have:=R1 ak k
 rwa [show wq M.cs k=(s.F k).length by unfold wq;rw[aE AF,bh.f k hk,hG]]at this
def Pc(h:k1 r B R s w):aA 59 #[B.b] w λe w'=>e=.returned (.bool false)/\∃ q,w'=w.drewN q:=by
 have⟨M,bk,ak,bh⟩:=h;exact R3 ak (bh.ab 0 U).cc
theorem k1.keep(h:k1 r B R s w)(hk:Keeps aG w w'):k1 r B R s w':=by
 have⟨M,bk,ak,bh⟩:=h;exact⟨M,bk,ak.keep hk,bh⟩
def Aw.eta(s:Aw)(k:J):((s.l8 k (s.P k)).l7 k (s.F k)).up s.n=s:=by
 by_cases e:k=0
 .subst e;rfl
 unfold l8 l7 P F up;rw[aB e,aB e,aB e,aB e]
def PE{fF a':Aw}(h:k1 r B R fF w)(aw:r=jb (mf 16))(s':runN r 20 fF=some a'):aA 35 #[B.b,I 20] w λe w'=>e=.returned (I 20)/\k1 r B R a' w':=by
 have H:=ag h;have hd:=ag s';have Q':=ag aw;clear h s' aw
 go_in
 go_wp2_with fail;go_loopg [5,6,7,23,31] 20 (λg n _ _ _ _ wr=>∃ j:J,g=20-j/\j<=20/\n=I j/\∃ s,runN r j fF=some s/\k1 r B R s wr)
 case atStart=>exact⟨0,rfl,U,rfl,fF,rfl,H.o⟩
 obtain⟨j,aZ,aav,rfl,s,aw,l'⟩:=hrel;clear H;have O:=ag l';have t:=ag aw;clear l' aw;by_cases aaq:j<20
 .obtain⟨y,M,u,d,v⟩:=yG hd.o j aaq;obtain rfl:y=s:=hi (u.symm.trans t.o);obtain⟨E,ys,v'⟩:∃ E,kH (rI r) 2 y=some E/\kH wU 2 E=some M:=by
   have d:(kH (rI r) 2 y).bind (kH wU 2)=some M:=d;cases V:kH (rI r) 2 y with
   | none=>rw[V]at d;cases d
   | some E=>rw[V]at d;exact⟨E,rfl,d⟩
  have Y:=ag ys;have lb:=ag v';have St:=ag (show runN r (j+1) fF=some M from v);clear u d v t ys v';go_wp2_with fail;refine aW (Pc O.out) ?_;rintro ao ⟨q,rfl⟩;have gf:=ag (O.out.keep ((Keeps.refl _ wr).drewN q));clear O;generalize wr.drewN q=ao at *;go_wp2_with fail;go_loopg [6,23] 2 (λg _ i fr=>∃ k:J,g=2-k/\k<=2/\i=I k/\∃ s,kH (rI r) k y=some s/\k1 r B R s fr)
  case atStart=>exact⟨0,rfl,U,rfl,y,rfl,gf.o⟩
  clear gf;obtain⟨k,aat,hk,rfl,s,aw,m'⟩:=hrel;have Q:=ag m';have t:=ag aw;clear m' aw;by_cases sd:k<2
  .obtain⟨z,N,u,d,v⟩:=yG Y.out k sd;obtain rfl:z=s:=hi (u.symm.trans t.o);have K:=ag (Pf Q.o Q'.out sd d);have X:=ag v;have W':(k:aa)<2:=U;clear u d v Q t;go_wp2_with fail;refine K.o.mono ?_;rintro e aD ⟨⟨zp,D,V',A,n,c,m,b0,rfl⟩,Z⟩;clear K;go_wp2_with fail;go_roundg (2-(k+1))
   case rel=>exact⟨k+1,rfl,U,by go_num,N,X.out,Z⟩
   omega
  obtain rfl:k=2:=U;rw[show((2:J):aa)=2 from rfl];obtain rfl:s=E:=hi (t.out.symm.trans Y.out);clear t Y;go_wp2_with fail;go_loopg [7,31] 2 (λg _ i fr=>∃ k:J,g=2-k/\k<=2/\i=I k/\∃ x,kH wU k s=some x/\k1 r B R x fr)
  case atStart=>exact⟨0,rfl,U,rfl,s,rfl,Q.out⟩
  clear Q;obtain⟨k,aau,aaw,rfl,x,vl,ps⟩:=hrel;have W:=ag ps;have S:=ag vl;clear ps vl;by_cases C:k<2
  .obtain⟨z,N,u,d,v⟩:=yG lb.out k C;obtain rfl:z=x:=hi (u.symm.trans S.o);obtain⟨D,G,aS,zd⟩:∃ D G,sm z.n (z.P k) (z.F k)=some (D,G)/\N=((z.l8 k G).l7 k []).up D:=by
    unfold wU at d;split at d
    .rename_i n a V;simp only[hI]at d;exact⟨n,a,V,d.symm⟩
    cases d
   have TS:=ag aS;have T':=ag zd;have X:=ag v;have W':(k:aa)<2:=U;clear u d v S aS zd;go_wp2_with fail;go_loopg [] (z.F k).length (λg aas=>∃ l p n,g=l.length/\sm n p l=some (D,G)/\k1 r B R (((z.l8 k p).l7 k l).up n) aas)
   case atStart=>exact⟨z.F k,z.P k,z.n,rfl,TS.o,by rw[Aw.eta];exact W.o⟩
   have⟨l,p,n,r',T,f⟩:=hrel;clear W;cases l with
   | nil=>
    have L:=ag (by have:=F' f C;rwa [Aw.pE _ _ _ _ C C,aE rfl]at this);have ab:(n,p)=(D,G):=hi T;have g':=ag f;clear f T;go_wp2_with fail;refine bE L.o ?_;have f:=g'.o;rw[(Prod.mk.inj ab).1,(Prod.mk.inj ab).2,<-T'.out]at f;clear g' L ab;go_wp2_with fail;go_roundg (2-(k+1))
    case rel=>exact⟨k+1,rfl,U,by go_num,N,X.out,f⟩
    omega
   | cons m l=>
    obtain⟨aar,h1,av,h2⟩:=SN T;have L:Hid (aA 30 #[B.b,I k] _ λe w'=>e=.returned (I ((l.length:aa)+1))/\_=w'):=ag (by have:=F' f C;rw[Aw.pE _ _ _ _ C C,aE rfl]at this;simpa using this);have K:=ag (Pe f C av h1);have CW:=ag h2;have Tq:=ag r';have aax:(0:aa)<(l.length:aa)+1:=U;clear f T h1 h2 r' av;go_wp2_with fail;refine bE L.o ?_;go_wp2_with fail;refine K.o.mono ?_;rintro e aD ⟨⟨zp,aaz,V',A,n8,c,aay,b0,rfl⟩,Z⟩;clear K L;go_wp2_with fail;go_roundg l.length
    case rel=>exact⟨l,aar,_,rfl,CW.out,Z⟩
    have:=Tq.out;simp only[dy]at this;omega
  obtain rfl:k=2:=U;obtain rfl:x=M:=hi (S.out.symm.trans lb.out);clear S;go_wp2_with fail;go_roundg (20-(j+1))
  case rel=>exact⟨j+1,rfl,U,by go_num,x,St.out,W.out⟩
  omega
 obtain rfl:j=20:=U;obtain rfl:s=a':=hi (t.out.symm.trans hd.out);go_wp2_with fail;go_ret;exact⟨rfl,O.out⟩
def Pd(r:aa):o3 r tD (nu 5 1 4 100 100):=by
 have⟨ak,a⟩:=Jn 5 1 4 100 100 U U U U U;refine⟨λk hk=>?_,λk _=>?_,λk _ m hm=>?_,ak,a⟩
 .have e:tD.P k=Nm.new k:=by
   have:k=0\/k=1:=U
   rcases this with rfl|rfl<;>rfl
  rw[e];refine⟨?_,rfl,rfl,rfl,rfl,rfl,rfl,de _,λm hm=>nomatch hm⟩;refine x6 ?_ rfl rfl rfl rfl rfl rfl rfl
  funext j
  show iF 1=if j<2 then p_ 0 (if j=k then 1 else 1) 0 else iF 1
  split
  .rw[ite_self];rfl
  rfl
 .have:k=0\/k=1:=U
  rcases this with rfl|rfl<;>rfl
 have e:tD.F k=[]:=by unfold Aw.F;split<;>rfl
 rw[e]at hm;cases hm
def cl.below{B:jB}{M:dV}{bk:aa}{R:ah az}(h:cl w B M bk R):k3 w/\Below B.o.bo B.o.w w:=by
 obtain⟨V,T,d,h⟩:=h;have a:=h.at' 9 rfl;exact⟨a.1,a.2.1⟩
theorem KA(b:k3 w)(a:0<w.heap.size):Sep w [az.kinds ⟨w,w⟩]:=
 ⟨λr c=>by rw[gC.1 c];exact⟨b,b7 _ _,a,df _⟩,El _ _⟩
def Lm(t:k3 w)(j:0<w.heap.size):aA 8 #[] w λe w'=>e=.returned (.bool true)/\Below w w w':=by
 have⟨r,A⟩:=cT (jb (mf 16));have⟨b,z,av,an⟩:=Wy r;have i:=ag A;have C:(3:aa)<(b.p.now:aa):=U
 go_in
 go_wp2_with fail;refine aW (Y1 w) λao u=>?_;have h:=ag (HV ((KA t j).keep (Keeps.bJ u a8)) 5 1 4 100 100 8 0 0 U U U U U);go_wp2_with fail;refine h.o.mono ?_;rintro e aD ⟨B,rfl,y,l⟩;have m:=ag (PE (R:=_) ⟨_,_,y,Pd r⟩ i.out z);go_wp2_with fail;refine aW m.o ?_;rintro bq ⟨M,bk,a,bh⟩;have v:Below w w bq:=by have:=a.below.2;rwa [l]at this
 obtain⟨V,T,d,f⟩:=a.view (k:=0) U;obtain⟨E,D,d1,g⟩:=a.view (k:=1) U;have s:Hid (aA 22 #[.pointer (some (ae ((B.p 0).c.c) 0 ad))] bq λe w'=>e=.returned (I b.p.now)/\bq=w'):=ag (by have:=tK (hq f);rwa [(bh.ab 0 U).x]at this);have n:Hid (aA 17 #[.pointer (some (ae ((B.p 1).lb) 0 ad))] bq λe w'=>e=.returned (I b.q.aP)/\bq=w'):=ag (by have:=wu (ni g);rwa [(bh.ab 1 U).aP]at this);go_wp2_with fail;refine bE ((BO a (k:=0) U)) ?_;go_wp2_with fail;refine bE (wh f) ?_;go_wp2_with fail;refine bE s.o ?_;go_wp2_with fail;refine bE ((BO a (k:=1) U)) ?_;go_wp2_with fail;refine bE (Ia g) ?_;go_wp2_with fail;refine bE n.o ?_;go_wp2;go_ret;exact⟨rfl,v⟩
abbrev lL:=List aC×ah cU
def iM(s:lL)(c:bI):b_ lL:=
 if c.bg.k∈s.2\/c.db<0 then none
 else if c.bp=1 then if (eP s.1 c.bg.k).isSome then none else some (iv s.1 c.bg,s.2)
 else if c.bp=2 then if (eP s.1 c.bg.k).isSome then some (iv s.1 c.bg,s.2)else none
 else if c.bp=3 then if (eP s.1 c.bg.k).isSome then some (e_ s.1 [c.bg],s.2)else none
 else if c.bp=4/\(eP s.1 c.bg.k).isSome=c.pl/\∀ o,eP s.1 c.bg.k=some o->o=c.bg then some (e_ s.1 [c.bg],c.bg.k :: s.2)
 else none
def hS:lL->ah bI->b_ lL
 | s,[]=>some s
 | s,c :: l=>(iM s c).bind λt=>hS t l
theorem zj:∀ (a:ah bI) (s:lL) (b:ah bI),hS s (a++b)=(hS s a).bind λt=>hS t b
 | [],_,_=>rfl
 | c :: a,s,b=>by
  show(iM s c).bind _=((iM s c).bind _).bind _;cases iM s c with
  | none=>rfl
  | some t=>exact zj a t b
def zk{a:ah bI}{s t u:lL}{c:bI}(h:hS s a=some t)(an:iM t c=some u):hS s (a++[c])=some u:=by
 rw[zj,h];show(iM t c).bind _=_;rw[an];rfl
def Rs{L:ah aC}(h:ev L){e:aC}(a:e∈L):(eP L e.k).isSome=true:=by rw[yh h a];rfl
def Gw{L:ah aC}{D:ah cU}(h:ev L)(b:∀ e∈L,e.k ∉ D):∀ G:ah aC,ev G->(∀ e∈G,e∈L)->hS (L,D) (G.map λo=>⟨3,o,0,false⟩)=some (e_ L G,D):=by
 intro G;rw[<-mn G];generalize G.reverse=r
 induction r with
 | nil=>exact λ_ _=>by rw[reverse_nil,G3];rfl
 | cons e l f=>
  intro bh hk;rw[mm]at *;obtain⟨i,_,j⟩:=pJ.1 bh;have a:=hk e (Ek _ (gC.2 rfl))
  have hd:e∈e_ L l.reverse:=fx.2 ⟨a,by
   simp only[lD,pO];rintro⟨g,aZ,c⟩;exact mE e.k (by have:=j g aZ e (gC.2 rfl);rwa [c]at this)⟩
  rw[jx,G5];refine zk (f i λx d=>hk x (Aa _ d)) ?_;unfold iM;rw[if_neg (by intro c;rcases c with c|c;exact b e a c;exact Ea 0 c),if_neg (by show ¬ (3:aa)=1;omega),if_neg (by show ¬ (3:aa)=2;omega),if_pos rfl,if_pos (Rs (p6 h _) hd)]
def Ys{most now:aa}{L:ah aC}{D:ah cU}(h:ev L):∀ xs:ah aC,(∀ e∈xs,e.k ∉ D/\e.k.fr<=now)->hS (L,D) (e6 most now L xs).2=some ((e6 most now L xs).1,D):=by
 intro xs;rw[<-mn xs];generalize xs.reverse=r
 induction r with
 | nil=>exact λ_=>rfl
 | cons e l a=>
  intro hk;rw[mm]at *;obtain⟨d,g⟩:=hk e (Ek _ (gC.2 rfl));have a:=a λx f=>hk x (Aa _ f);rw[rF];simp only[];generalize e6 most now L l.reverse=p at a;unfold kR lA;cases b:eP p.1 e.k with
  | some o=>
   simp only[];split
   .rw[Ex,eB];exact a
   refine zk a ?_;unfold iM;rw[if_neg (by intro c;rcases c with c|c;exact d c;exact Ea 0 c),if_neg (by show ¬ (2:aa)=1;omega),if_pos rfl,if_pos (by rw[b];rfl)]
  | none=>
   simp only[];split
   .rw[Ex,eB];exact a
   refine zk a ?_;unfold iM;rw[if_neg (by intro c;rcases c with c|c;exact d c;have c:now-e.k.fr<0:=c;omega),if_pos rfl,if_neg (by rw[b];simp)]
def PZ{L:ah aC}{D:ah cU}(h:ev L):∀ xs:ah aC,ev xs->(∀ e∈xs,e.k ∉ D/\∀ o∈L,o.k=e.k->o=e)->hS (L,D) (gZ L xs).2=some ((gZ L xs).1,(xs.map aC.k).reverse++D):=by
 intro xs;rw[<-mn xs];generalize xs.reverse=r
 induction r with
 | nil=>exact λ_ _=>rfl
 | cons e l a=>
  intro bh hk;rw[mm]at *;obtain⟨n,_,p⟩:=pJ.1 bh;obtain⟨j,m⟩:=hk e (Ek _ (gC.2 rfl));have a:=a n λx i=>hk x (Aa _ i);have g:=x3 L l.reverse;rw[q4];refine zk a ?_;unfold iM;have f:(((l.reverse++[e]).map aC.k).reverse++D)=e.k :: ((l.reverse.map aC.k).reverse++D):=by simp
  rw[if_neg (by
   intro c;rcases c with c|c
   .rcases eJ.1 c with c|c
    .obtain⟨d,hd,c⟩:=e9.1 (mem_reverse.1 c);exact mE e.k (by have:=p d hd e (gC.2 rfl);rwa [c]at this)
    .exact j c
   .exact Ea 0 c),if_neg (by show ¬ (4:aa)=1;omega),if_neg (by show ¬ (4:aa)=2;omega),if_neg (by show ¬ (4:aa)=3;omega),if_pos ⟨rfl,rfl,λo b=>m o (g.subset (vX b).1) (vX b).2⟩,f]
def dW(A:ah bI)(p:cq):al:=(∃ D,hS ([],[]) (A++p.2)=some (p.1.ld.bc,D)/\∀ k∈D,k.fr<=p.1.ld.aP)/\∀ c∈p.2,lH c
def dW.more{A:ah bI}{p q:cq}{l:ah bI}(h:dW A p)(e:q.2=p.2++l)(g:∀ c∈l,lH c)(aw:∀ D:ah cU,(∀ k∈D,k.fr<=p.1.ld.aP)->∃ a,hS (p.1.ld.bc,D) l=some (q.1.ld.bc,a)/\∀ k∈a,k.fr<=q.1.ld.aP):dW A q:=by
 have⟨⟨D,h1,h2⟩,b⟩:=h;have⟨a,d,f⟩:=aw D h2;refine⟨⟨a,?_,f⟩,λc an=>?_⟩
 .rw[e,<-z1,zj,h1];exact d
 rw[e]at an;exact(eJ.1 an).elim (b c) (g c)
def qT(s:bM):al:=s.ld.hd=s.cc/\ev s.ld.bc/\∀ e∈s.ld.bc,s.ld.aP<e.k.fr/\fm e=true
def dW.tell{A:ah bI}{p:cq}(h:dW A p)(bh:ev p.1.ld.bc)(f:∀ e∈p.1.ld.bc,p.1.ld.aP<e.k.fr/\fm e=true){now:aa}{g:J×ah aC}(d:eL g.1 g.2)(an:p.1.ld.aP<g.1)(av:(g.1:aa)<=now/\now<=1000000):dW A (jt now p g):=by
 refine h.more rfl (Lh (λe a=>(f e a).2) d U av) λD b=>⟨D,?_,b⟩;have hd:=p6 bh (gp g.2 (gw p.1.ld.bc g.1));show hS _ (im _ _++_)=some ((e6 p.1.ld.most 0 _ g.2).1,D);rw[zj];unfold im;rw[Gw bh (λe a c=>by have:=(f e a).1;have:=b _ c;omega) (gp g.2 (gw p.1.ld.bc g.1)) ((bh.sublist xc).sublist xc) λe a=>(fx.1 (fx.1 a).1).1];refine(Ys hd g.2 λe a=>⟨λc=>by have:=b _ c;have:=(d.2.2 e a).2;omega,by have:=(d.2.2 e a).2;omega⟩).trans ?_;rw[K7 p.1.ld.most now 0]
def Qx(L:ah aC):e_ L L=[]:=Eg.2 λe a=>by simp only[lD,pO,Decidable.not_not];exact⟨e,a,rfl⟩
def dW.B0{A:ah bI}{p:cq}(h:dW A p)(au:qT p.1)(r:aa):dW A (fQ r p)/\qT (fQ r p).1:=by
 unfold fQ;split
 .exact⟨h,au⟩
 rename_i c;have hd:p.1.ld.hd=false:=by rw[au.1];simpa using c
 refine⟨h.more rfl (Is λe a=>(au.2.2 e a).2) λD b=>⟨D,?_,?_⟩,?_⟩
 .show hS _ (j4 p.1.ld)=some ((gq p.1.ld).bc,D);unfold j4 gq;rw[hd];show hS _ (p.1.ld.bc.map _)=some ([],D);rw[Gw au.2.1 (λe a c=>by have:=(au.2.2 e a).1;have:=b _ c;omega) _ au.2.1 λe a=>a,Qx]
 .show ∀ k∈D,k.fr<=(gq p.1.ld).aP;unfold gq;rw[hd];exact b
 unfold qT gq;rw[hd];exact⟨rfl,Pairwise.nil,(λe a=>nomatch a)⟩
def Ca{s:bM}{F:J}{ba us:J->J->aa}(h:b8 s F ba us):∀ e∈s.ld.bc,s.ld.aP<e.k.fr/\fm e=true:=λe a=>by
 refine⟨?_,h.po e a⟩
 have:=h.lt e a
 rw[h.b9]at this;split at this
 .rename_i c;exact c.1
 cases this
def b8.cV{s:bM}{F:J}{ba us:J->J->aa}(h:b8 s F ba us):qT s:=⟨h.hd,h.dz,Ca h⟩
def Z8:aC:=⟨⟨0,0,0,0⟩,0,0,0,0,0⟩
def jI(k:cU)(p:ah bI):a1×aC:=p.foldl (λs c=>if c.bg.k=k then(decide (c.bp≠3),c.bg)else s) (false,Z8)
def rv(k:cU)(p:ah bI)(c:bI):jI k (p++[c])=if c.bg.k=k then(decide (c.bp≠3),c.bg)else jI k p:=by
 unfold jI;rw[mX];rfl
def zw{L:ah aC}{D:ah cU}{c:bI}{u:lL}(h:iM (L,D) c=some u):c.bg.k ∉ D/\0<=c.db/\
  ((c.bp=1/\(eP L c.bg.k).isSome=false/\u=(iv L c.bg,D))\/(c.bp=2/\(eP L c.bg.k).isSome=true/\u=(iv L c.bg,D))\/(c.bp=3/\(eP L c.bg.k).isSome=true/\u=(e_ L [c.bg],D))\/(c.bp=4/\(eP L c.bg.k).isSome=c.pl/\(∀ o,eP L c.bg.k=some o->o=c.bg)/\u=(e_ L [c.bg],c.bg.k :: D))):=by
 unfold iM at h;split at h
 .cases h
 rename_i a;refine⟨λc=>a (.inl c),Int.not_lt.1 λc=>a (.inr c),?_⟩;split at h
 .rename_i h1;split at h
  .cases h
  rename_i h2;exact .inl ⟨h1,AH,(hi h).symm⟩
 split at h
 .rename_i h1;split at h
  .rename_i h2;exact .inr (.inl ⟨h1,h2,(hi h).symm⟩)
  cases h
 split at h
 .rename_i h1;split at h
  .rename_i h2;exact .inr (.inr (.inl ⟨h1,h2,(hi h).symm⟩))
  cases h
 split at h
 .rename_i h1;exact .inr (.inr (.inr ⟨h1.1,h1.2.1,h1.2.2,(hi h).symm⟩))
 cases h
def su{L:ah aC}{e x:aC}:x∈e_ L [e]↔x∈L/\e.k≠x.k:=by
 unfold e_;rw[fx];simp
structure vK(p:ah bI)(L:ah aC)(D:ah cU):al where
 dz:ev L
 cP:∀ c∈p,c.bp=4->c.bg.k∈D
 has:∀ k,k ∉ D->((jI k p).1=true↔∃ e∈L,e.k=k)
 is:∀ k,k ∉ D->(jI k p).1=true->(jI k p).2∈L/\(jI k p).2.k=k
def vK.next{p:ah bI}{L:ah aC}{D:ah cU}{c:bI}{u:lL}(h:vK p L D)(an:iM (L,D) c=some u):vK (p++[c]) u.1 u.2:=by
 have⟨m,_,h2⟩:=zw an;have key:(c.bp≠3->c.bp≠4->u=(iv L c.bg,D))/\(c.bp=3->u=(e_ L [c.bg],D))/\(c.bp=4->u=(e_ L [c.bg],c.bg.k :: D)):=by
  rcases h2 with⟨e,_,j⟩|⟨e,_,j⟩|⟨e,_,j⟩|⟨e,_,_,j⟩<;>refine⟨λa b=>?_,λa=>?_,λa=>?_⟩<;>first|exact j|(exfalso;omega)
 by_cases g:c.bp=3
 .rw[key.2.1 g];refine⟨p6 h.dz _,λd hd i=>?_,λk hk=>?_,λk hk aw=>?_⟩
  .exact Ms
  .rw[rv];split
   .rename_i e;simp only[g];refine⟨λc=>absurd c n2,λ⟨x,f,c⟩=>?_⟩;exact absurd (e.trans c.symm) (su.1 f).2
   rename_i e;rw[h.has k hk];exact⟨λ⟨x,f,c⟩=>⟨x,su.2 ⟨f,by rw[c];exact e⟩,c⟩,λ⟨x,f,c⟩=>⟨x,(su.1 f).1,c⟩⟩
  rw[rv]at aw⊢;split at aw
  .simp[g]at aw
  rename_i e;rw[if_neg e];have⟨a,b⟩:=h.is k hk aw;exact⟨su.2 ⟨a,by rw[b];exact e⟩,b⟩
 by_cases cP:c.bp=4
 .rw[key.2.2 cP];refine⟨p6 h.dz _,λd hd i=>?_,λk hk=>?_,λk hk aw=>?_⟩
  .rcases eJ.1 hd with hd|hd
   .exact kx _ (h.cP d hd i)
   rw[gC.1 hd];exact nS
  .obtain⟨e,l⟩:k≠c.bg.k/\k ∉ D:=by simpa using hk
   rw[rv,if_neg (gE e),h.has k l];exact⟨λ⟨x,f,c⟩=>⟨x,su.2 ⟨f,by rw[c];exact gE e⟩,c⟩,λ⟨x,f,c⟩=>⟨x,(su.1 f).1,c⟩⟩
  obtain⟨e,l⟩:k≠c.bg.k/\k ∉ D:=by simpa using hk
  rw[rv,if_neg (gE e)]at aw⊢;have⟨a,b⟩:=h.is k l aw;exact⟨su.2 ⟨a,by rw[b];exact gE e⟩,b⟩
 rw[key.1 g cP];refine⟨B9 h.dz _,λd hd i=>?_,λk hk=>?_,λk hk aw=>?_⟩
 .exact Ms
 .rw[rv];split
  .rename_i e;exact⟨λ_=>⟨c.bg,sv.2 (.inl rfl),e⟩,λ_=>by simp[g]⟩
  rename_i e;rw[h.has k hk]
  exact⟨λ⟨x,f,c⟩=>⟨x,sv.2 (.inr ⟨f,by rw[c];exact gE e⟩),c⟩,λ⟨x,f,c⟩=>⟨x,by
   rcases sv.1 f with rfl|f
   .exact absurd c e
   .exact f.1,c⟩⟩
 rw[rv]at aw⊢;split
 .rename_i e;exact⟨sv.2 (.inl rfl),e⟩
 rename_i e;rw[if_neg e]at aw;have⟨a,b⟩:=h.is k hk aw;exact⟨sv.2 (.inr ⟨a,by rw[b];exact gE e⟩),b⟩
theorem Kx:∀ (l p:ah bI) {L:ah aC} {D:ah cU} {u:lL},vK p L D->hS (L,D) l=some u->∀ i (ax:i<l.length),∃ pV d e,vK (p++l.take i) pV d/\iM (pV,d) l[i]=some e
 | [],_,_,_,_,_,_,i,ax=>absurd ax (kZ _)
 | c :: l,p,L,D,u,h,aw,i,ax=>by
  have aw:(iM (L,D) c).bind (λt=>hS t l)=some u:=aw;cases aK:iM (L,D) c with
  | none=>rw[aK]at aw;cases aw
  | some t=>
   rw[aK]at aw;cases i with
   | zero=>exact⟨L,D,t,ic,aK⟩
   | succ i=>
    have⟨pV,d,e,a,b⟩:=Kx l (p++[c]) (h.next aK) aw i (by simpa using ax);exact⟨pV,d,e,by simpa using a,by simpa using b⟩
def Xt{l:ah bI}{u:lL}(aw:hS ([],[]) l=some u)(i:J)(ax:i<l.length):(∀ c∈l.take i,c.bg.k=l[i].bg.k->c.bp≠4)/\0<=l[i].db/\1<=l[i].bp/\l[i].bp<=4/\(l[i].bp=1->(jI l[i].bg.k (l.take i)).1=false)/\(l[i].bp=2\/l[i].bp=3->(jI l[i].bg.k (l.take i)).1=true)/\(l[i].bp=4->(jI l[i].bg.k (l.take i)).1=l[i].pl/\((jI l[i].bg.k (l.take i)).1=true->(jI l[i].bg.k (l.take i)).2=l[i].bg)):=by
 have⟨L,D,p,h,aK⟩:=Kx l [] (L:=[]) (D:=[]) ⟨Pairwise.nil,(λc an=>nomatch an),λk _=>⟨λc=>absurd c (by simp[jI]),λ⟨x,j,_⟩=>nomatch j⟩,λk _ aw=>absurd aw (by simp[jI])⟩ aw i ax;rw[nT]at h;generalize l[i]=c at *;have⟨f,h1,h2⟩:=zw aK;have g:(eP L c.bg.k).isSome=(jI c.bg.k (l.take i)).1:=by
  cases e:(jI c.bg.k (l.take i)).1 with
  | true=>
   obtain⟨x,j,hk⟩:=(h.has _ f).1 e;rw[<-hk,yh h.dz j];rfl
  | false=>
   cases m:eP L c.bg.k with
   | none=>rfl
   | some o=>
    have:=(h.has _ f).2 ⟨o,vX m⟩
    rw[e]at this;cases this
 refine⟨λd hd hk n=>f (hk▸h.cP d hd n),h1,?_,?_,λe=>?_,λe=>?_,λe=>?_⟩
 .rcases h2 with h2|h2|h2|h2<;>omega
 .rcases h2 with h2|h2|h2|h2<;>omega
 .rw[<-g];rcases h2 with h2|h2|h2|h2
  .exact h2.2.1
  all_goals (exfalso;omega)
 .rw[<-g];rcases h2 with h2|h2|h2|h2
  .exfalso;omega
  .exact h2.2.1
  .exact h2.2.1
  exfalso;omega
 rcases h2 with h2|h2|h2|h2
 .exfalso;omega
 .exfalso;omega
 .exfalso;omega
 refine⟨g.symm.trans h2.2.1,λaw=>?_⟩;have⟨a,b⟩:=h.is _ f aw;exact h2.2.2.1 _ (by have:=yh h.dz a;rwa [b]at this)
variable{cZ dT:J}{s u:lL}{c:bI}
structure hL(w:aj)(cZ dT:J)(s:lL):al where
 cV:RMap w km cZ (iq s.1)
 eg:RMap w km dT (s.2.map λk=>(k,Value.bool true))
 ne:cZ≠dT
def hL.keep{T:J->al}(h:hL w cZ dT s)(hk:Keeps T w w')(h1:¬ T cZ)(h2:¬ T dT):hL w' cZ dT s:=⟨h.cV.keeps hk h1,h.eg.keeps hk h2,h.ne⟩
def hL.find(h:hL w cZ dT s)(k:cU)(hk:gb k=true):(Instr.lookup 115 (.map (some cZ)) (aL k) true).run prog w=.ok (aY #[.agg (dD ((eP s.1 k).getD sh)),.bool (eP s.1 k).isSome]) w:=by
 have h1:=h.cV.look mC (x:=k) hk underlying115 (z:=aL z9) (λw=>aI);rw[Hy]at h1;refine h1.trans ?_;cases eP s.1 k<;>rfl
def hL.Y'(h:hL w cZ dT s)(k:cU)(hk:gb k=true)(av:k ∉ s.2):(Instr.lookup 136 (.map (some dT)) (aL k) false).run prog w=.ok (.bool false) w:=by
 have h1:=h.eg.I7 mC (x:=k) hk underlying136 (z:=.bool false) (λw=>aI);have e:hO (s.2.map λk=>(k,Value.bool true)) k=none:=by
  unfold hO;rw[xd.2 λp au=>?_]
  .rfl
  obtain⟨x,a,rfl⟩:=e9.1 au;simp only[gh];rintro rfl;exact av a
 rw[e]at h1;exact h1
def hL.put(h:hL w cZ dT s)(e:aC)(b:gb e.k=true)(c:s.1.length<=1000000000):∃ w',(Instr.mapUpdate 115 (.map (some cZ)) (aL e.k) (aL e)).run prog w=.ok () w'/\hL w' cZ dT (iv s.1 e,s.2)/\Keeps (λj=>j=cZ) w w':=by
 have⟨w',h1,h2,a⟩:=h.cV.store mC (x:=e.k) b underlying115 Nu (.agg e.bu.toArray);exact⟨w',h1,⟨h2.perm (JO s.1 e),h.eg.keeps a h.ne.symm,h.ne⟩,a⟩
def hL.del(h:hL w cZ dT s)(e:aC)(b:gb e.k=true)(ty:TypeId):∃ w',(Builtin.delete_ #[115,43] ty #[.map (some cZ),aL e.k]).run prog w=.ok (aY #[]) w'/\hL w' cZ dT (e_ s.1 [e],s.2)/\Keeps (λj=>j=cZ) w w':=by
 have⟨w',h1,h2,a⟩:=h.cV.drop mC (x:=e.k) b underlying115 ty;rw[G4]at h2;exact⟨w',h1,⟨h2,h.eg.keeps a h.ne.symm,h.ne⟩,a⟩
def hL.mark(h:hL w cZ dT s)(k:cU)(hk:gb k=true)(av:k ∉ s.2)(c:s.2.length<=1000000000):∃ w',(Instr.mapUpdate 136 (.map (some dT)) (aL k) (.bool true)).run prog w=.ok () w'/\hL w' cZ dT (s.1,k :: s.2)/\Keeps (λj=>j=dT) w w':=by
 have⟨w',h1,h2,a⟩:=h.eg.store mC (x:=k) hk underlying136 (by unfold maxLen;rw[hG];omega) (.bool true);have e:kE (s.2.map λk=>(k,Value.bool true)) k=s.2.map λk=>(k,Value.bool true):=mW.2 λp au=>by
  obtain⟨x,b,rfl⟩:=e9.1 au;simp only[lD,pO];rintro rfl;exact av b
 unfold lr at h2;rw[e]at h2;exact⟨w',h1,⟨h.cV.keeps a h.ne,h2.perm (Em _ _),h.ne⟩,a⟩
structure xO(w W:aj)(cZ dT:J)(s:lL)(c:bI):al where
 nI:hL W cZ dT s
 b':W.heap[w.heap.size]?=some (af #[.map (some cZ),.map (some dT)] 138 (0,0))
 bR:W.heap[w.heap.size+1]?=some (af #[I c.bp,I c.bg.k.fr,I c.bg.k.em,I c.bg.k.bp,I c.bg.k.cg,I c.bg.cy,I c.bg.dd,I c.bg.dP,I c.bg.dw,I c.bg.le,I c.db,.bool c.pl] 47 (0,0))
 cu:Keeps aG w W
theorem xO.keep{W W':aj}(h:xO w W cZ dT s c)(hk:Keeps aG W W'):xO w W' cZ dT s c:=⟨h.nI.keep hk id id,hk.heap h.b' id,hk.heap h.bR id,h.cu.trans hk⟩
def PF(w:aj)(k:cU):∃ w',(Instr.storeAt 43 w.heap.size (aL k)).run prog (w.alloc (af z4 43))=.ok () w'/\w'.heap[w.heap.size]?=some (af k 43 (0,0))/\Keeps aG w w':=by
 have a:=aX w (af z4 43);obtain⟨c,d,b⟩:=dQ (w.alloc (af z4 43)) 43 4 w.heap.size (h7 k) _ sizeOf43 rfl rfl a rfl;exact⟨_,c,fb _ w.heap.size _ (h7 k) 43 a,cN ((bb w).alloc _) b a8⟩
def Yd(h:hL w cZ dT s)(an:lH c)(aK:iM s c=some u)(F:s.1.length+s.2.length<=1000000000):aA 77 #[aL #[.map (some cZ),.map (some dT)],aL #[I c.bp,I c.bg.k.fr,I c.bg.k.em,I c.bg.k.bp,I c.bg.k.cg,I c.bg.cy,I c.bg.dd,I c.bg.dP,I c.bg.dw,I c.bg.le,I c.db,.bool c.pl]] w λe w'=>e=.returned (.bool true)/\hL w' cZ dT u/\Keeps (λj=>j=cZ\/j=dT) w w':=by
 have hk:gb c.bg.k=true:=by
  have:=an.bg
  exact MQ
 have⟨q,h1,h2⟩:=zw aK;have V:xO w _ cZ dT s c:=⟨h.keep (((bb w).alloc (af #[.map (some cZ),.map (some dT)] 138)).alloc (af #[I c.bp,I c.bg.k.fr,I c.bg.k.em,I c.bg.k.bp,I c.bg.k.cg,I c.bg.cy,I c.bg.dd,I c.bg.dP,I c.bg.dw,I c.bg.le,I c.db,.bool c.pl] 47)) id id,cw (aX _ _) _,by have:=aX (w.alloc (af #[.map (some cZ),.map (some dT)] 138)) (af #[I c.bp,I c.bg.k.fr,I c.bg.k.em,I c.bg.k.bp,I c.bg.k.cg,I c.bg.cy,I c.bg.dd,I c.bg.dP,I c.bg.dw,I c.bg.le,I c.db,.bool c.pl] 47);rwa [fH]at this,((bb w).alloc _).alloc _⟩;have l:=ag V;have M:=bW h.cV.lt h.eg.lt;clear V
 go_in
 go_upto_region 1 with fail
 generalize World.alloc (World.alloc w _) _=ao at *;have A:=aO l.o.b';have g':=aO l.o.bR;have dp:=Ke ao;have⟨aD,r,W,Y⟩:=PF ao c.bg.k;have g:=bW (l.o.keep Y) W;have yU:∀ z,ao.heap.size=z->¬ z=cZ/\¬ z=dT:=λz H=>by have:=l.o.nI.cV.lt;have:=l.o.nI.eg.lt;omega
 have N:=ag yU;clear l Y W yU;generalize ao.heap.size=z at *;go_upto_region 2 with first|refine dU dp rfl rfl ?_|refine c7 r rfl rfl rfl rfl ?_
 obtain⟨o,m⟩:=cT ((eP s.1 c.bg.k).getD sh);obtain⟨p,au⟩:=cT (eP s.1 c.bg.k).isSome;have G:=g.o.1.nI.find c.bg.k hk;rw[<-m,<-au]at G;rw[<-au]at h2;have O:=bW m au;have L:=bW F (bD q h2);clear m au F q h2 h aK an;have H:=bT g.o.2;have gf:=N.o z rfl;clear dp r A g' N;have A:=aO g.o.1.b';have hd:=aO g.o.2;have dp:=qq aD;obtain⟨bq,r,R,E,_⟩:=r9 aD o;have d:=bW (g.o.1.keep E) (bD (E.heap g.o.2 id) R);have P:=ag g.o.1.cu.size;have Q:=bW H gf;clear g R E H gf;generalize aD.heap.size=y at *;go_upto_region 3 with first|refine lC G rfl rfl rfl rfl ?_|refine dU dp rfl rfl ?_|refine c7 r rfl rfl rfl rfl ?_
 clear r dp G A hd;have A:=aO d.o.1.b';have g':=aO d.o.1.bR;have hd:=aO d.o.2.1;obtain⟨F,q,h2⟩:=L.o;clear L;have K:=d.o.1.nI.Y' c.bg.k hk q;have d1:decide (c.db<0)=false:=di U;obtain⟨bp,e,db,pl⟩:=c;have n:Keeps (λj=>j=cZ\/j=dT) w bq:=d.o.1.cu.mono λ_ _ h=>h.elim;rcases h2 with⟨rfl,rfl,rfl⟩|⟨rfl,rfl,rfl⟩|⟨rfl,rfl,rfl⟩|⟨rfl,rfl,D,rfl⟩
 iterate 2
  .obtain⟨lb,t,i,f⟩:=d.out.1.nI.put e hk U;have B:=bW i (n.trans (f.mono λ_ _ e=>.inl e));clear i f d n;go_wp2_with first|refine lC K rfl rfl rfl rfl ?_|refine zK t rfl rfl rfl rfl rfl ?_
   go_ret;exact⟨rfl,B.o⟩
 .obtain⟨lb,t,i,f⟩:=d.out.1.nI.del e hk 0;have B:=bW i (n.trans (f.mono λ_ _ e=>.inl e));clear i f d n;go_wp2_with first|refine lC K rfl rfl rfl rfl ?_|((with_reducible refine w0 t rfl rfl ?_ ?_ ?_);exact rfl;exact rfl)
  go_ret;exact⟨rfl,B.o⟩
 have⟨lb,t,i,f⟩:=d.out.1.nI.del e hk 0;have⟨r',s',a',Z⟩:=i.mark e.k hk q (show s.2.length<=1000000000 by omega);have v:=(f.mono (T:=λj=>j=cZ\/j=dT) λ_ _ e=>.inl e).trans (Z.mono λ_ _ e=>.inr e);have sd:=bW a' (n.trans v);have⟨bR,l'⟩:=M.out;have m':=P.out;have S:=v.heap d.out.2.2 (λe=>iO);have aV:=v.heap d.out.1.bR (λe=>iO);have vl:=aO aV;have v':=aO (f.heap d.out.1.b' iO);have ys:=aO (f.heap d.out.2.1 Q.out.2.1);have ps:=aO (show r'.heap[y]?=some (af o 45 (0,0))from S);have ab:=Bj o e;clear d n v i f a' Z S aV m' bR l';have C:=O.out;clear O M P Q;cases p with
 | true=>
  have m:o=e:=D o (by
   obtain⟨a,b⟩:=C;cases X:eP s.1 e.k with
   | none=>rw[X]at b;cases b
   | some x=>rw[X]at a;rw[a];rfl)
  rw[ei m]at ab;clear C D m;exact NT
 | false=>
  clear C D ab ps;exact NT
def Yc(h:hL w cZ dT s)(an:lH c)(aK:iM s c=some u)(f:s.1.length+s.2.length<=1000000000):aA 51 #[aL #[.map (some cZ),.map (some dT)],.agg (dg c)] w λe w'=>e=.returned (.bool false)/\hL w' cZ dT u/\Keeps (λj=>j=cZ\/j=dT) w w':=by
 have a:Keeps aG w _:=((bb w).alloc (af #[.map (some cZ),.map (some dT)] 138)).alloc (af #[I c.bp,I c.bg.k.fr,I c.bg.k.em,I c.bg.k.bp,I c.bg.k.cg,I c.bg.cy,I c.bg.dd,I c.bg.dP,I c.bg.dw,I c.bg.le,I c.db,.bool c.pl] 47);have d:=ag (Yd (h.keep a id id) an aK f);have b:=ag a;clear h a an aK f;show aA 51 #[aL #[.map (some cZ),.map (some dT)],aL #[I c.bp,I c.bg.k.fr,I c.bg.k.em,I c.bg.k.bp,I c.bg.k.cg,I c.bg.cy,I c.bg.dd,I c.bg.dP,I c.bg.dw,I c.bg.le,I c.db,.bool c.pl]] w _
 go_in
 go_wp2_with fail;refine aW d.o λao h1=>?_;have g:=bW h1.1 ((b.o.mono λ_ _ h=>h.elim).trans h1.2);clear h1 d b;go_wp2_with fail;go_ret;exact⟨rfl,g.o⟩
def YJ(h:iM s c=some u):u.1.length+u.2.length<=s.1.length+s.2.length+1:=by
 have ax:(iv s.1 c.bg).length<=s.1.length+1:=by
  rw[(wj s.1 c.bg).length_eq,nR];exact Nat.succ_le_succ (ml _ _)
 have hd:=(q7 s.1 [c.bg]).length_le;obtain⟨_,_,h2⟩:=zw h;rcases h2 with⟨_,_,rfl⟩|⟨_,_,rfl⟩|⟨_,_,rfl⟩|⟨_,_,_,rfl⟩
 .show(iv s.1 c.bg).length+s.2.length<=_;omega
 .show(iv s.1 c.bg).length+s.2.length<=_;omega
 .show(e_ s.1 [c.bg]).length+s.2.length<=_;omega
 show(e_ s.1 [c.bg]).length+(s.2.length+1)<=_;omega
def Xp{l:ah bI}{j:J}(b:j<l.length){t:lL}(h:hS t (l.drop j)=some u):∃ a,iM t l[j]=some a/\hS a (l.drop (j+1))=some u:=by
 rw[pH b]at h;have h:(iM t l[j]).bind (λa=>hS a (l.drop (j+1)))=some u:=h;cases e:iM t l[j]with
 | none=>rw[e]at h;cases h
 | some a=>rw[e]at h;exact⟨a,rfl,h⟩
def Ya{l:ah bI}{v:ay}(h:hL w cZ dT s)(aw:hS s l=some u)(an:∀ c∈l,lH c)(aU:w.ownsRow 0 47 12 v l.length (dC l))(a:∀ j,v.ownBlock=some j->¬ (j=cZ\/j=dT))(d:s.1.length+s.2.length+l.length<=1000000000):aA 76 #[v,.func (.func 51) #[aL #[.map (some cZ),.map (some dT)]] #[]] w λe w'=>e=.returned (I (-1))/\Keeps (λj=>j=cZ\/j=dT) w w':=by
 obtain⟨A,cap,rfl,_,_⟩:=cS aU;have m:=bW h (And.intro aw (And.intro an (And.intro aU (And.intro a d))));have hm:l.length<=1000000000:=by omega
 clear h aw an aU a d
 go_in
 go_wp2_with fail;go_loopg [5,8] l.length (λg i j wr=>∃ q:J,g=l.length-q/\q<=l.length/\j=I q/\∃ t,hS t (l.drop q)=some u/\hL wr cZ dT t/\t.1.length+t.2.length<=s.1.length+s.2.length+q/\Keeps (λj=>j=cZ\/j=dT) w wr)
 case atStart=>exact⟨0,rfl,ve _,rfl,s,m.o.2.1,m.o.1,df _,Keeps.refl _ _⟩
 obtain⟨q,aZ,G,rfl,t,h1,h2,F,b⟩:=hrel;by_cases z:q<l.length
 .obtain⟨_,_,E,aU,a,d⟩:=m.out;obtain⟨k,p,C⟩:=Xp z h1;have y:=b5 aU b a;obtain⟨r,rfl⟩:=nw y U;have f:=mM (P:=prog) (enc:=bI.bu) (λ_=>rfl) isAgg47 sizeOf47 y q z;have D:=ag (Yc h2 (E _ (mY z)) p U);have av:=YJ p;have n:=bW C (And.intro (show k.1.length+k.2.length<=s.1.length+s.2.length+(q+1)by omega) b);have f:(Instr.loadAt 47 (.pointer (some (ae r (q*12) ad)))).run prog wr=.ok (.agg (dg l[q])) wr:=f;clear h1 h2 F b p C y E aU a d av;go_wp2_with refine dn f rfl rfl rfl ?_
  refine aW D.o λbq x=>?_;have B:=bW x.1 (n.o.2.2.trans x.2);clear x D f;go_wp2_with fail;go_roundg (l.length-(q+1))
  case rel=>exact⟨q+1,rfl,U,by go_num,k,n.o.1,B.o.1,n.o.2.1,B.o.2⟩
  omega
 go_wp2_with fail;go_ret;exact⟨rfl,b⟩
def X'{l:ah bI}{v:ay}(h:hL w cZ dT s)(aw:hS s l=some u)(an:∀ c∈l,lH c)(aU:w.ownsRow 0 47 12 v l.length (dC l))(a:∀ j,v.ownBlock=some j->¬ (j=cZ\/j=dT))(d:s.1.length+s.2.length+l.length<=1000000000):aA 50 #[v,.func (.func 51) #[aL #[.map (some cZ),.map (some dT)]] #[]] w λe w'=>e=.returned (.bool false)/\Keeps (λj=>j=cZ\/j=dT) w w':=by
 have b:=ag (Ya h aw an aU a d);clear h aw an aU a d
 go_in
 go_wp2_with fail;refine aW b.o λao h1=>?_;have f:=ag h1;clear h1 b;go_wp2_with fail;go_ret;exact⟨rfl,f.o⟩
def Yb{l:ah bI}{v:ay}(aw:hS ([],[]) l=some u)(an:∀ c∈l,lH c)(aU:w.ownsRow 0 47 12 v l.length (dC l))(d:l.length<=1000000000):aA 25 #[v] w λe w'=>e=.returned (.bool true)/\Keeps aG w w':=by
 have b:(w.alloc (.map #[] 0)).heap.size=w.heap.size+1:=aM;have h:Keeps aG w _:=((bb w).alloc (.map #[] 0)).alloc (.map #[] 0);have ar:hL ((w.alloc (.map #[] 0)).alloc (.map #[] 0)) w.heap.size (w.heap.size+1) ([],[]):=⟨(RMap.made w prog 43 km).keeps (T:=aG) ((bb _).alloc (.map #[] 0)) id,by have:=RMap.made (w.alloc (.map #[] 0)) prog 43 km;rwa [b]at this,iO⟩;have g:=aX ((w.alloc (.map #[] 0)).alloc (.map #[] 0)) (af #[.map (some w.heap.size),.map (some (w.heap.size+1))] 138);have a:Keeps aG w _:=h.alloc (af #[.map (some w.heap.size),.map (some (w.heap.size+1))] 138);have aV:=ag (X' (ar.keep ((bb _).alloc (af #[.map (some w.heap.size),.map (some (w.heap.size+1))] 138)) id id) aw an (b5 aU a λ_ _=>id) (λj m e=>by have:=mH aU m;omega) xA);have f:=ag a;have n:=@run_makeMap prog;have i:=aO g;rw[fH,b]at i;clear aw an aU d h a ar g b
 go_in
 go_upto_region 2 with fail
 generalize World.alloc (World.alloc (World.alloc w _) _) _=ao at *;clear n;go_wp2_with fail;refine aW aV.o λaD h2=>?_;have k:=ag (cN f.o h2 a8);clear h2 aV f i;go_wp2_with fail;go_ret;exact⟨rfl,k.o⟩
def Jm(a b:cU)(w:aj):(binOp .neq 43 (aL a) (aL b)).run prog w=.ok (.bool (!decide (a=b))) w:=by
 have h:decide (a=b)=(a.fr == b.fr&&(a.em == b.em&&(a.bp == b.bp&&a.cg == b.cg))):=by
  exact MN
 rw[h];simp[go_sem]
 repeat' split
 all_goals simp_all
def UF(e o:aC)(w:aj):(binOp .neq 45 (aL e) (aL o)).run prog w=.ok (.bool (!decide (e=o))) w:=by
 have h:decide (e=o)=(e.k.fr == o.k.fr&&(e.k.em == o.k.em&&(e.k.bp == o.k.bp&&(e.k.cg == o.k.cg&&(e.cy == o.cy&&(e.dd == o.dd&&(e.dP == o.dP&&(e.dw == o.dw&&e.le == o.le)))))))):=by
  exact Ow
 rw[h];simp[go_sem]
 repeat' split
 all_goals simp_all
def A3{l:ah bI}{g cap:J}(h:w.ownsRow 0 47 12 (aq (some (ae g 0 ad)) l.length cap) l.length (dC l)){i:J}(ax:i<l.length):∃ a,w.heap[g]?=some (af a 47 (0,0))/\∀ f x,(dg l[i])[f]?=some x->a[i*12+f]?=some x:=by
 obtain⟨a,rest,aZ,an,_⟩:=rr (enc:=bI.bu) h;obtain⟨h1,h2⟩:=tS (enc:=bI.bu) (k:=12) (λ_=>rfl) i ax;refine⟨a,aZ,λf x b=>?_⟩;have c:f<12:=(jv.1 b).1;rw[<-mh,an,h1,z1,z1,lF U,h2,Er,jO (by exact c)];show(dg l[i]).toList[f]?=some x;rw[mh];exact b
def PR{l:ah bI}{g cap:J}(h:w.ownsRow 0 47 12 (aq (some (ae g 0 ad)) l.length cap) l.length (dC l)){i:J}(ax:i<l.length)(f:J){x:ay}(a:(dg l[i])[f]?=some x):w.cell? (ae g (i*12+f) ad)=some x:=by
 have⟨b,aZ,an⟩:=A3 h ax;exact bf aZ (an f x a)
def Gx{l:ah bI}{g cap:J}(h:w.ownsRow 0 47 12 (aq (some (ae g 0 ad)) l.length cap) l.length (dC l)){i:J}(ax:i<l.length):(Instr.loadAt 43 (.pointer (some (ae g (i*12+1) ad)))).run prog w=.ok (.agg (h7 l[i].bg.k)) w:=by
 obtain⟨b,aZ,an⟩:=A3 h ax;refine gd (P:=prog) 43 4 g (i*12+1) (h7 l[i].bg.k) _ _ isAgg43 sizeOf43 rfl aZ λj v a=>?_;have c:=(jv.1 a).1
 have:(h7 l[i].bg.k).size=4:=rfl
 rw[hZ];refine an _ _ ?_
 have:j=0\/j=1\/j=2\/j=3:=by omega
 rcases this with rfl|rfl|rfl|rfl<;>exact a
def PS{l:ah bI}{g cap:J}(h:w.ownsRow 0 47 12 (aq (some (ae g 0 ad)) l.length cap) l.length (dC l)){i:J}(ax:i<l.length):(Instr.loadAt 45 (.pointer (some (ae g (i*12+1) ad)))).run prog w=.ok (.agg (dD l[i].bg)) w:=by
 obtain⟨b,aZ,an⟩:=A3 h ax;refine gd (P:=prog) 45 9 g (i*12+1) (dD l[i].bg) _ _ isAgg45 sizeOf45 rfl aZ λj v a=>?_;have c:=(jv.1 a).1
 have:(dD l[i].bg).size=9:=rfl
 rw[hZ];refine an _ _ ?_
 have:j=0\/j=1\/j=2\/j=3\/j=4\/j=5\/j=6\/j=7\/j=8:=by omega
 rcases this with rfl|rfl|rfl|rfl|rfl|rfl|rfl|rfl|rfl<;>exact a
def Wa{l:ah bI}{v:ay}(aw:hS ([],[]) l=some u)(aU:w.ownsRow 0 47 12 v l.length (dC l))(sd:l.length<=1000000000):aA 26 #[v] w λe w'=>e=.returned (.bool true)/\Keeps aG w w':=by
 obtain⟨A,cap,rfl,_,_⟩:=cS aU;have F:=bW aw aU;clear aw aU
 go_in
 go_wp2_with fail;go_loopg [3,4,5,6,7] l.length (λg i _ _ _ _ wr=>∃ q:J,g=l.length-q/\q<=l.length/\i=I q/\Keeps aG w wr)
 case atStart=>exact⟨0,rfl,ve _,rfl,bb w⟩
 obtain⟨q,aZ,s',rfl,hk⟩:=hrel;by_cases H:q<l.length
 .obtain⟨aw,aU⟩:=F.o;have ar:=Xt aw q H;have b:=b5 aU hk λ_ _=>id;obtain⟨r,rfl⟩:=nw b U;have Q:=aX wr (af z9 45);have R:=hk.alloc (af z9 45);have M:=ag ar;have fr:=ag hk.size;have K:=bW Q R;clear ar aw aU b hk Q R;go_wp2_with fail;generalize World.alloc wr _=ao at *;generalize wr.heap.size=B at *;go_loopg [4,6] q (λg bh i Z=>∃ k:J,g=q-k/\k<=q/\i=I k/\bh=.bool (jI l[q].bg.k (l.take k)).1/\Z.heap[B]?=some (af (dD (jI l[q].bg.k (l.take k)).2) 45 (0,0))/\Keeps aG w Z)
  case atStart=>exact⟨0,rfl,ve _,rfl,rfl,K.o.1,K.o.2⟩
  obtain⟨k,aZ,ps,rfl,rfl,x,h⟩:=hrel;by_cases r':k<q
  .have b:=b5 F.o.2 h λ_ _=>id;have t:k<l.length:=U;have hd:∀ W,(∃ n,W=wr.drewN n)->W.ownsRow 0 47 12 (aq (some (ae r 0 ad)) l.length cap) l.length (dC l):=λW ⟨n,av⟩=>by rw[av];exact b5 b ((bb wr).drewN n) λ_ _=>id
   have V:=λW G=>Gx (hd W G) t;have X:=λW G=>Gx (hd W G) H;have s:=ag b;have a:=bW x h;clear hd b x h;go_wp2_with fail;refine iN 12 aI aI ?_;simp only[hY,iE,hX,hF]
   repeat (first|(refine jL V rfl rfl rfl ?_;simp only[Act.put,c8])|(refine jL X rfl rfl rfl ?_;simp only[Act.put,c8])|go_big_quiet_step (fail))
   refine wpQuiet_nil ?_;intro _ a';obtain⟨nq,rfl⟩:=a';have s:=ag (b5 s.o ((bb wr).drewN nq) λ_ _=>id);have a:=bW (((bb wr).drewN nq).heap a.o.1 id) (a.o.2.drewN nq);clear V X;generalize wr.drewN nq=aD at *;by_cases d:l[k].bg.k=l[q].bg.k
   .have m:=M.o.1 l[k] (mem_take_iff_getElem.2 ⟨k,iO,rfl⟩) d;have hne:∀ W,(binOp .neq 43 (.agg (h7 l[k].bg.k)) (.agg (h7 l[q].bg.k))).run prog W=.ok (.bool false) W:=λW=>(Jm l[k].bg.k l[q].bg.k W).trans (by rw[d];simp);have bz:aD.cell? (ae r (k*12) ad)=some (I l[k].bp):=PR s.o t 0 rfl;have lb:=PS s.o t;obtain⟨C,g',S⟩:=dQ aD 45 9 B (dD l[k].bg) _ sizeOf45 rfl rfl a.o.1 (tL _);have T:=fb aD B _ (dD l[k].bg) 45 a.o.1;have L:=bW T (cN a.o.2 S λj m'=>by have:=fr.o;omega);have d4:(l[k].bp == 4)=false:=eA.2 m;have f:=rv l[q].bg.k (l.take k) l[k];rw[if_pos d,<-kY t]at f;have p:=ag f;clear a s T S g' f d m;go_wp2_with first|refine dn lb rfl rfl rfl ?_|refine c7 C rfl rfl rfl rfl ?_
    go_roundg (q-(k+1))
    case rel=>exact⟨k+1,rfl,U,by go_num,by rw[p.o];congr 1;rw[w2];simp,by rw[p.o];exact L.o.1,L.o.2⟩
    omega
   have hne:∀ W,(binOp .neq 43 (.agg (h7 l[k].bg.k)) (.agg (h7 l[q].bg.k))).run prog W=.ok (.bool true) W:=λW=>(Jm l[k].bg.k l[q].bg.k W).trans (by rw[decide_eq_false d];rfl);have f:=rv l[q].bg.k (l.take k) l[k];rw[if_neg d,<-kY t]at f;have p:=ag f;clear f d;go_wp2_with fail;go_roundg (q-(k+1))
   case rel=>exact⟨k+1,rfl,U,by go_num,by rw[p.o],by rw[p.o];exact a.o.1,a.o.2⟩
   omega
  obtain rfl:k=q:=by omega
  have b:=b5 F.o.2 h λ_ _=>id;obtain⟨_,s2,gy,Y,D,hy,E⟩:=M.o;have y:=mM (P:=prog) (enc:=bI.bu) (λ_=>rfl) isAgg47 sizeOf47 b k H;have y:(Instr.loadAt 47 (.pointer (some (ae r (k*12) ad)))).run prog wr=.ok (.agg (dg l[k])) wr:=y;have dp:=wK wr;obtain⟨l',C,N,m,vl⟩:=vO wr l[k];have ab:=ag (h.trans m);have O:=m.heap x id;generalize h2:wr.heap.size=z at *;generalize jI l[k].bg.k (l.take k)=dk at *;obtain⟨has,is⟩:=dk;generalize l[k]=c at *;obtain⟨bp,e,db,pl⟩:=c;clear h b m h2;go_upto_region 15 with first|refine dn y rfl rfl rfl ?_|refine dU dp rfl rfl ?_|refine c7 C rfl rfl rfl rfl ?_
  simp only[Act.put,c8];clear y dp C;have v':=aO N;have ys:=aO (show l'.heap[B]?=some (af is 45 (0,0))from O);have d1:decide (db<0)=false:=di (Int.not_lt.2 s2);have hne:=UF is e;clear N O x;have gy:1<=bp:=gy;have Y:bp<=4:=Y;have gf:bp=1\/bp=2\/bp=3\/bp=4:=by omega
  rcases gf with rfl|rfl|rfl|rfl
  .obtain rfl:has=false:=D rfl;exact OC
  iterate 2
   .obtain rfl:has=true:=hy n2;exact OC
  obtain⟨rfl,j7⟩:=E rfl;cases has with
  | false=>
   clear D hy E hne j7;exact Mt
  | true=>
   obtain rfl:is=e:=j7 rfl;rw[decide_eq_true rfl]at hne;clear D hy E j7;exact Mt
 go_wp2_with fail;go_ret;exact⟨rfl,hk⟩
end Go.Proofs.YtalagblioepadaaGreatDoor
