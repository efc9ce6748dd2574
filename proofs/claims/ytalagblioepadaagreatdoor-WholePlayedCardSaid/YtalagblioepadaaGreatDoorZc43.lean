/- The proof, part 43. -/
import Derived.Test.YtalagblioepadaaGreatDoorZc41
namespace Go.Proofs.YtalagblioepadaaGreatDoor
set_option linter.all false
open Proofs.Tryz List Go.RowKit Go.Shelf
set_option maxRecDepth 100000
set_option maxHeartbeats 1000000
variable{w w':ai}{b:J}{dg:ax}{ps:ah dI}
def WT(v:ax)(r:ah ax)(L:ah ax)(o:J)(a:o+(r.length+1)<=L.length):(L.set o v).take (o+1)++r++(L.set o v).drop (o+1+r.length)=L.take o++v :: r++L.drop (o+(r.length+1)):=by
 obtain⟨A,x,B,rfl,rfl⟩:∃ A x B,A.length=o/\L=A++x :: B:=⟨L.take o,L[o]'U,L.drop (o+1),bT,aK⟩;rw[set_append_right _ _ bs,DY,rA,take_append,drop_append,take_append,drop_append];simp[nF,DL,show A.length+1+r.length-A.length=r.length+1 by omega];omega
theorem J0(g:J)(t:TypeId):∀ (bQ:ah ax) (o:J) (a:a6 ax) (w:ai),w.heap[g]?=some (ae a t (0,0))->o+bQ.length<=a.size->
  (w.setCells g o bQ).heap[g]?=some (ae (a.toList.take o++bQ++a.toList.drop (o+bQ.length)).toArray t (0,0))/\Keeps (λj=>j=g) w (w.setCells g o bQ)
 | [],o,a,w,h,_=>⟨by simp[World.setCells,h],Keeps.refl _ _⟩
 | v :: r,o,a,w,h,c=>by
  rw[ds]at c;obtain⟨h2,b⟩:=J0 g t r (o+1) _ (w.setCell (ad g o ab) v) (bV h o v) bT;refine⟨?_,((Keeps.refl (λj=>j=g) w).setCell (p:=ad g o ab) rfl v).trans b⟩;rw[World.setCells,h2]
  congr 3
  rw[Array.toList_setIfInBounds,ds];exact WT v r a.toList o Ad
def qQ(ps:ah dI)(i:J):ah dI:=ps.take i++ps.drop (i+1)++ps.drop (ps.length-1)
def PS{g cap:J}(h:w.ownsRow 0 296 10 (aq (some (ad g 0 ab)) ps.length cap) ps.length (dZ ps))(i:J)(aw:i<ps.length):(w.setCells g (i*10) (dZ (ps.drop (i+1)))).ownsRow 0 296 10 (aq (some (ad g 0 ab)) ps.length cap) (qQ ps i).length (dZ (qQ ps i))/\(qQ ps i).length=ps.length/\Keeps (λj=>j=g) w (w.setCells g (i*10) (dZ (ps.drop (i+1))))/\
   (∀ j u,(dZ (ps.drop (i+1)))[j]?=some u->w.cell? (ad g ((i+1)*10+j) ab)=some u)/\(∀ j,j<(dZ (ps.drop (i+1))).length->(w.cell? (ad g (i*10+j) ab)).isSome=true/\w.frozen? (ad g (i*10+j) ab)=false):=by
 have⟨a,rest,aZ,al,aj,ar,hm,av⟩:=sg (enc:=dI.br) h;have al:a.toList=dZ ps++rest:=al;have k:dZ ps=dZ (ps.take (i+1))++dZ (ps.drop (i+1)):=by
  conv=>lhs;rw[<-l5 (i+1) ps]
  unfold dZ;rw[ry]
 have f:=sb (ps.take (i+1));have d:=sb (ps.drop (i+1));rw[gn,oG U]at f;rw[gm]at d;have e:a.toList.length=cap*10:=by rw[pA,av]
 have⟨h1,h2⟩:=J0 g 296 (dZ (ps.drop (i+1))) (i*10) a w aZ U;have c:(qQ ps i).length=ps.length:=by unfold qQ;simp;omega
 refine⟨⟨by rw[sb],.inr ⟨g,cap,_,by rw[c],aj,h1,by rw[c];exact ar,hm,?_,?_⟩⟩,c,h2,λj u l=>?_,λj p=>⟨?_,fx aZ _⟩⟩
 .simp only[gW,cx,gn,gm,e];omega
 .have t:ps.drop (ps.length-1)=[ps[ps.length-1]'U]:=by
   rw[qm U,DL U]
  have m:(a.toList.take (i*10))=dZ (ps.take i):=by
   rw[al,k,dD]
   have:dZ (ps.take (i+1))=dZ (ps.take i)++dI.br ps[i]:=by
    unfold dZ;rw[l6 aw,ry,iS,flatMap_nil,e4]
   rw[this,dD];have b:=sb (ps.take i);rw[gn,oG U]at b;exact rB b
  have n:(a.toList.drop (i*10+(dZ (ps.drop (i+1))).length)).take 10=dZ (ps.drop (ps.length-1)):=by
   rw[d,show i*10+(ps.length-(i+1))*10=(ps.length-1)*10 by omega,al];have r:dZ ps=dZ (ps.take (ps.length-1))++dZ (ps.drop (ps.length-1)):=by
    conv=>lhs;rw[<-l5 (ps.length-1) ps]
    unfold dZ;rw[ry]
   have b:=sb (ps.take (ps.length-1));rw[gn,oG U]at b;rw[r,dD,wW b];have q:=sb (ps.drop (ps.length-1));rw[gm]at q;exact rB U
  have o:dZ (qQ ps i)=dZ (ps.take i)++dZ (ps.drop (i+1))++dZ (ps.drop (ps.length-1)):=by unfold qQ dZ;simp
  have s:(a.toList.take (i*10)++dZ (ps.drop (i+1))).length=(ps.length-1)*10:=by
   rw[cx,gn,e,d];omega
  rw[c,take_append,s,nF U,show ps.length*10-(ps.length-1)*10=10 by omega,n,m,o]
 .have p:=(hp.1 l).1;refine bb aZ ?_;rw[<-nw,al,k,dD,l3 U,jU U,f,show(i+1)*10+j-(i+1)*10=j by omega];exact l
 obtain⟨v,aW⟩:∃ v,a[i*10+j]?=some v:=⟨_,sI U⟩;rw[bb aZ aW];rfl
def Sg:∃ i,prog.info? 296=some i/\i.size=10:=by
 have⟨i,_,h1,_,h2,_⟩:=HR;exact⟨i,h1,h2⟩
def UO{g cap:J}(h:w.ownsRow 0 296 10 (aq (some (ad g 0 ab)) ps.length cap) ps.length (dZ ps))(i:J)(aw:i<ps.length)(j:J)(q:i+1=j):aA 238 #[aq (some (ad g 0 ab)) ps.length cap,I i,I j] w λe w'=>∃ v' ys,e=.returned v'/\w'.ownsRow 0 296 10 v' ys.length (dZ ys)/\ys.length<=ps.length/\Keeps (λj=>j=g) w w'/\v'.ownBlock=some g:=by
 have⟨G,C,F⟩:=Sg;have⟨_,_,_,_,_,z,B,_⟩:=sg (enc:=dI.br) h;have⟨h1,h2,d,k,l⟩:=PS (b4 h (ba w).drew (λ_ _=>id)) i aw;have⟨b,f⟩:=cO (dZ (ps.drop (i+1)));have r:b.length=(ps.length-(i+1))*10:=by rw[f,sb,gm]
 rw[<-f]at h1 d k l;rw[h2]at h1;obtain⟨aC,p,s,n⟩:=yV (P:=prog) (TS:=289) (enc:=dI.br) (λ_=>rfl) underlying289 JI rfl bq h1 (ps.length-1) U h2;obtain⟨L,m⟩:=cO (w.drew.setCells g (i*10) b);rw[<-m]at p d n;have v:∀ u∈b,u.oneCell'=true:=λu a=>by
  rw[f]at a;obtain⟨x,_,D⟩:=uO.1 a;exact B_ x u D
 obtain⟨A,M,y⟩:∃ A:Addr,(if cap=j then some ((ad g 0 ab):Addr)else some (ad g (j*10) ab))=some A/\∀ t u,b[t]?=some u->w.drew.cell? (A.add t)=some u:=by
  by_cases al:cap=j
  .refine⟨(ad g 0 ab),by simp[al],λt u a=>?_⟩
   have:=(hp.1 a).1
   omega
  refine⟨(ad g (j*10) ab),by simp[al],λt u a=>?_⟩;rw[h3,<-q];exact k t u a
 have E:((qQ ps i).take (ps.length-1)).length=ps.length-1:=by rw[gn,h2];omega
 have c:=b6 s (bB ((Keeps.refl (λj=>j=g) w).drew.trans (d.trans n)) E);have s1:Hid (b.length=(ps.length-j)*10):=af (by rw[r,q]);have s2:=af y;have gS:=af v;have H:=af l;have K:=af m;have Q:j<=ps.length:=U;have N:i<=cap:=U;have O:j<=cap:=U;have R:i+(ps.length-j)=ps.length-1:=U;clear h h1 h2 d k l n s m f y v r B
 go_in
 go_wp2_with fail
 go_region_law (refine step_append_room rfl (.tmp 22) (.tmp 25) 289 rfl 296 G 10 underlying289 C F g 0 i cap uZ A (ps.length-j) (cap-j) b uZ s1.o s2.o gS.o U (λt aO=>by rw[gC];exact H.o t aO) ?_;rw[gC,<-K.o])
 have S:ps.length-1<=ps.length:=U;have T:=z;have V:¬ cap=ps.length-1:=U;go_wp2_with refine wL (p _ _) rfl rfl rfl ?_
 go_ret;exact⟨_,_,rfl,by rw[c.o.2.2];exact c.o.1,by rw[c.o.2.2];omega,c.o.2.1,rfl⟩
def Qw(h:lr w b dg ps)(k:de):aA 163 #[b,aQ k] w λe w'=>(∃ c,e=.returned (I c))/\iz w b dg w':=by
 have u:=(ba w).alloc (ae k 43);have z:=aX w (ae k 43);have h1:=h.keep u;have l:=b6 h1 u;have B:=h.fQ
 go_in
 go_wp2_with fail;generalize w.alloc _=ao at *;refine(GN h1 k).mono ?_;rintro e aC ⟨r,y⟩;have h2:=l.out.1.keep r;have hk:=l.out.2.trans r;rcases y with rfl|⟨i,aw,rfl⟩
 .have a:=af (iz.lO hk (iz.same h2 (Keeps.refl _ _)));go_wp2;go_ret;exact⟨⟨_,rfl⟩,a.o⟩
 obtain⟨A,x,rfl,_,_⟩:=cS h2.row;obtain⟨g,rfl⟩:=pa h2.row U;have bt:=aS h2.hd;have f0:=bI h2.hd;have a:=b6 h2 hk;go_wp2_with fail;refine((UO h2.row i aw (i+1) rfl)).mono ?_;rintro e bm ⟨v',ys,rfl,t,C,s,m⟩;have q:=a.out.1.ne g rfl;have f:=s.heap a.out.1.hd (λe=>q e.symm);obtain⟨A,cap,rfl,_,_⟩:=cS t;have bt:=aS f;have f0:=bI f;have n:=bV f 0 (aq A ys.length cap);simp only[sU,rA]at n;have v:=(Keeps.refl (λj=>j=b) bm).setCell (p:=ad b 0 ab) rfl (aq A ys.length cap);go_wp2;go_ret;exact⟨⟨_,rfl⟩,((iz.lO a.out.2 ⟨_,ys,⟨n,b4 t v (λj d e=>by rw[m]at d;cases d;exact q e),U⟩,(s.mono (T:=λj=>j=b\/(aq (some (ad g 0 ab)) ps.length x).ownBlock=some j) λj _ e=>.inr (by rw[e];rfl)).trans (v.mono λj _ e=>.inl e),λj d=>.inl (by rw[m]at d;exact d)⟩))⟩
def QA(p:dI)(f:aa)(a:J)(c:w.cell? (ad a 0 ab)=some (I f)):aA 154 #[aQ p,a] w λr w'=>r=.returned (.bool (r9 f p))/\Below w w w':=by
 have f1:=qK c (ae p 296);have d:=gz (P:=prog) 296 10 w.heap.size 0 (lP p) _ _ isAgg296 sizeOf296 rfl (aX w (ae p 296)) (λj u z=>jZ);have b:=af (QC p f (w.alloc (ae p 296)));have gX:=af ((b3 w.heap.size w).alloc bs (ae p 296));generalize r9 f p=r at *
 go_in
 go_wp2_with ((with_reducible refine dp d rfl rfl ?_ ?_);exact rfl);refine aU b.o λaC aj=>?_;go_wp2;go_ret;exact⟨rfl,gX.o.trans (aj.mono gX.o.size)⟩
def Qx(h:lr w b dg ps)(f:aa):aA 92 #[b,I f] w λe w'=>(∃ c,e=.returned (I c))/\iz w b dg w':=by
 have u:=(ba w).alloc (ae #[I f] 3);have h1:=h.keep u;have B:∀ j,dg.ownBlock=some j->j<w.heap.size:=λj d=>o' h.row d;have r:=af (UP h1.row Aa (r9 f) 154 #[w.heap.size] (enters_of func154 aH rfl) (λW y x=>QA x f w.heap.size (bb (k:=0) (y.heap (aX w (ae #[I f] 3)) (λe=>oF _ (B _ e))) rfl)));have bt:=aS h1.hd;have f0:=bI h1.hd;obtain⟨A,v,rfl,_,_⟩:=cS h.row;have a:=b6 h1 u
 go_in
 go_wp2_with fail;refine r.o.mono ?_;rintro e bm ⟨v',rfl,i,n,l⟩;have g:=n.heap a.out.1.hd (λe=>a.out.1.ne _ e rfl);have s:=mH (λx=>!r9 f x) ps;obtain⟨ys,t⟩:=cO (ps.filter λx=>!r9 f x);rw[<-t]at i s;obtain⟨cB,cap,rfl,_,_⟩:=cS i;have bt:=aS g;have f0:=bI g;have m:=bV g 0 (aq cB ys.length cap);simp only[sU,rA]at m;have q:=(Keeps.refl (λj=>j=b) bm).setCell (p:=ad b 0 ab) rfl (aq cB ys.length cap);have z:=a.out.1.fQ;have cF:=af (iz.lO a.out.2 ⟨_,ys,⟨m,b4 i q (λj d e=>a.out.1.ne j (l▸d) e),U⟩,(n.mono (T:=λj=>j=b\/(aq A ps.length v).ownBlock=some j) λj _ e=>.inr e).trans (q.mono λj _ e=>.inl e),λj d=>.inl (l▸d)⟩);clear g m q i n l r a t s z;go_wp2;go_ret;exact⟨⟨_,rfl⟩,cF.o⟩
end Go.Proofs.YtalagblioepadaaGreatDoor
