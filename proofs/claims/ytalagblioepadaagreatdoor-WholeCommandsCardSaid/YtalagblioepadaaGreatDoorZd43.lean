/- The proof, part 43. -/
import Derived.Test.YtalagblioepadaaGreatDoorZd41
namespace Go.Proofs.YtalagblioepadaaGreatDoor
set_option linter.all false
open Proofs.Tryz List Go.RowKit Go.Shelf
set_option maxRecDepth 100000
set_option maxHeartbeats 1000000
variable{w w':aj}{b:J}{dq:ay}{ps:ah dS}
def XC(v:ay)(r:ah ay)(L:ah ay)(o:J)(a:o+(r.length+1)<=L.length):(L.set o v).take (o+1)++r++(L.set o v).drop (o+1+r.length)=L.take o++v :: r++L.drop (o+(r.length+1)):=by
 obtain⟨A,x,B,rfl,rfl⟩:∃ A x B,A.length=o/\L=A++x :: B:=⟨L.take o,L[o]'U,L.drop (o+1),b1,aM⟩;rw[set_append_right _ _ bx,Al,rT,take_append,drop_append,take_append,drop_append];simp[nV,Ef,show A.length+1+r.length-A.length=r.length+1 by omega];omega
theorem KD(g:J)(t:TypeId):∀ (bV:ah ay) (o:J) (a:a7 ay) (w:aj),w.heap[g]?=some (af a t (0,0))->o+bV.length<=a.size->
  (w.setCells g o bV).heap[g]?=some (af (a.toList.take o++bV++a.toList.drop (o+bV.length)).toArray t (0,0))/\Keeps (λj=>j=g) w (w.setCells g o bV)
 | [],o,a,w,h,_=>⟨by simp[World.setCells,h],Keeps.refl _ _⟩
 | v :: r,o,a,w,h,d=>by
  rw[dy]at d;obtain⟨h2,b⟩:=KD g t r (o+1) _ (w.setCell (ae g o ad) v) (b3 h o v) b1;refine⟨?_,((Keeps.refl (λj=>j=g) w).setCell (p:=ae g o ad) rfl v).trans b⟩;rw[World.setCells,h2]
  congr 3
  rw[Array.toList_setIfInBounds,dy];exact XC v r a.toList o xA
def q8(ps:ah dS)(i:J):ah dS:=ps.take i++ps.drop (i+1)++ps.drop (ps.length-1)
def Qz{g cap:J}(h:w.ownsRow 0 296 10 (aq (some (ae g 0 ad)) ps.length cap) ps.length (eh ps))(i:J)(ax:i<ps.length):(w.setCells g (i*10) (eh (ps.drop (i+1)))).ownsRow 0 296 10 (aq (some (ae g 0 ad)) ps.length cap) (q8 ps i).length (eh (q8 ps i))/\(q8 ps i).length=ps.length/\Keeps (λj=>j=g) w (w.setCells g (i*10) (eh (ps.drop (i+1))))/\
   (∀ j u,(eh (ps.drop (i+1)))[j]?=some u->w.cell? (ae g ((i+1)*10+j) ad)=some u)/\(∀ j,j<(eh (ps.drop (i+1))).length->(w.cell? (ae g (i*10+j) ad)).isSome=true/\w.frozen? (ae g (i*10+j) ad)=false):=by
 have⟨a,rest,aZ,an,ak,av,hm,aw⟩:=rr (enc:=dS.bu) h;have an:a.toList=eh ps++rest:=an;have k:eh ps=eh (ps.take (i+1))++eh (ps.drop (i+1)):=by
  conv=>lhs;rw[<-mo (i+1) ps]
  unfold eh;rw[rR]
 have f:=sB (ps.take (i+1));have d:=sB (ps.drop (i+1));rw[gB,oY U]at f;rw[gg]at d;have e:a.toList.length=cap*10:=by rw[pG,aw]
 have⟨h1,h2⟩:=KD g 296 (eh (ps.drop (i+1))) (i*10) a w aZ U;have c:(q8 ps i).length=ps.length:=by unfold q8;simp;omega
 refine⟨⟨by rw[sB],.inr ⟨g,cap,_,by rw[c],ak,h1,by rw[c];exact av,hm,?_,?_⟩⟩,c,h2,λj u l=>?_,λj p=>⟨?_,fO aZ _⟩⟩
 .simp only[hh,cx,gB,gg,e];omega
 .have t:ps.drop (ps.length-1)=[ps[ps.length-1]'U]:=by
   rw[pH U,Ef U]
  have m:(a.toList.take (i*10))=eh (ps.take i):=by
   rw[an,k,dL]
   have:eh (ps.take (i+1))=eh (ps.take i)++dS.bu ps[i]:=by
    unfold eh;rw[kY ax,rR,jc,flatMap_nil,eB]
   rw[this,dL];have b:=sB (ps.take i);rw[gB,oY U]at b;exact rU b
  have n:(a.toList.drop (i*10+(eh (ps.drop (i+1))).length)).take 10=eh (ps.drop (ps.length-1)):=by
   rw[d,show i*10+(ps.length-(i+1))*10=(ps.length-1)*10 by omega,an];have r:eh ps=eh (ps.take (ps.length-1))++eh (ps.drop (ps.length-1)):=by
    conv=>lhs;rw[<-mo (ps.length-1) ps]
    unfold eh;rw[rR]
   have b:=sB (ps.take (ps.length-1));rw[gB,oY U]at b;rw[r,dL,xa b];have q:=sB (ps.drop (ps.length-1));rw[gg]at q;exact rU U
  have o:eh (q8 ps i)=eh (ps.take i)++eh (ps.drop (i+1))++eh (ps.drop (ps.length-1)):=by unfold q8 eh;simp
  have s:(a.toList.take (i*10)++eh (ps.drop (i+1))).length=(ps.length-1)*10:=by
   rw[cx,gB,e,d];omega
  rw[c,take_append,s,nV U,show ps.length*10-(ps.length-1)*10=10 by omega,n,m,o]
 .have p:=(hD.1 l).1;refine bf aZ ?_;rw[<-mh,an,k,dL,lF U,jO U,f,show(i+1)*10+j-(i+1)*10=j by omega];exact l
 obtain⟨v,aU⟩:∃ v,a[i*10+j]?=some v:=⟨_,s4 U⟩;rw[bf aZ aU];rfl
def S1:∃ i,prog.info? 296=some i/\i.size=10:=by
 have⟨i,_,h1,_,h2,_⟩:=Ix;exact⟨i,h1,h2⟩
def Vs{g cap:J}(h:w.ownsRow 0 296 10 (aq (some (ae g 0 ad)) ps.length cap) ps.length (eh ps))(i:J)(ax:i<ps.length)(j:J)(q:i+1=j):aA 238 #[aq (some (ae g 0 ad)) ps.length cap,I i,I j] w λe w'=>∃ v' ys,e=.returned v'/\w'.ownsRow 0 296 10 v' ys.length (eh ys)/\ys.length<=ps.length/\Keeps (λj=>j=g) w w'/\v'.ownBlock=some g:=by
 have⟨G,C,F⟩:=S1;have⟨_,_,_,_,_,z,B,_⟩:=rr (enc:=dS.bu) h;have⟨h1,h2,d,k,l⟩:=Qz (b5 h (bb w).drew (λ_ _=>id)) i ax;have⟨b,f⟩:=cT (eh (ps.drop (i+1)));have r:b.length=(ps.length-(i+1))*10:=by rw[f,sB,gg]
 rw[<-f]at h1 d k l;rw[h2]at h1;obtain⟨aD,p,s,n⟩:=zb (P:=prog) (TS:=289) (enc:=dS.bu) (λ_=>rfl) underlying289 Kk rfl bt h1 (ps.length-1) U h2;obtain⟨L,m⟩:=cT (w.drew.setCells g (i*10) b);rw[<-m]at p d n;have v:∀ u∈b,u.oneCell'=true:=λu a=>by
  rw[f]at a;obtain⟨x,_,D⟩:=xj.1 a;exact CE x u D
 obtain⟨A,M,y⟩:∃ A:Addr,(if cap=j then some ((ae g 0 ad):Addr)else some (ae g (j*10) ad))=some A/\∀ t u,b[t]?=some u->w.drew.cell? (A.add t)=some u:=by
  by_cases an:cap=j
  .refine⟨(ae g 0 ad),by simp[an],λt u a=>?_⟩
   have:=(hD.1 a).1
   omega
  refine⟨(ae g (j*10) ad),by simp[an],λt u a=>?_⟩;rw[ij,<-q];exact k t u a
 have E:((q8 ps i).take (ps.length-1)).length=ps.length-1:=by rw[gB,h2];omega
 have c:=bW s (bD ((Keeps.refl (λj=>j=g) w).drew.trans (d.trans n)) E);have s1:Hid (b.length=(ps.length-j)*10):=ag (by rw[r,q]);have s2:=ag y;have gy:=ag v;have H:=ag l;have K:=ag m;have Q:j<=ps.length:=U;have N:i<=cap:=U;have O:j<=cap:=U;have R:i+(ps.length-j)=ps.length-1:=U;clear h h1 h2 d k l n s m f y v r B
 go_in
 go_wp2_with fail
 go_region_law (refine step_append_room rfl (.tmp 22) (.tmp 25) 289 rfl 296 G 10 underlying289 C F g 0 i cap vo A (ps.length-j) (cap-j) b vo s1.o s2.o gy.o U (λt aK=>by rw[gP];exact H.o t aK) ?_;rw[gP,<-K.o])
 have S:ps.length-1<=ps.length:=U;have T:=z;have V:¬ cap=ps.length-1:=U;go_wp2_with refine wZ (p _ _) rfl rfl rfl ?_
 go_ret;exact⟨_,_,rfl,by rw[c.o.2.2];exact c.o.1,by rw[c.o.2.2];omega,c.o.2.1,rfl⟩
def Rg(h:lJ w b dq ps)(k:cU):aA 163 #[b,aL k] w λe w'=>(∃ c,e=.returned (I c))/\iP w b dq w':=by
 have u:=(bb w).alloc (af k 43);have y:=aX w (af k 43);have h1:=h.keep u;have l:=bW h1 u;have z:=h.gn
 go_in
 go_wp2_with fail;generalize w.alloc _=ao at *;refine(Hq h1 k).mono ?_;rintro e aD ⟨r,x⟩;have h2:=l.out.1.keep r;have hk:=l.out.2.trans r;rcases x with rfl|⟨i,ax,rfl⟩
 .have a:=ag (iP.l5 hk (iP.same h2 (Keeps.refl _ _)));go_wp2;go_ret;exact⟨⟨_,rfl⟩,a.o⟩
 obtain⟨A,v,rfl,_,_⟩:=cS h2.row;obtain⟨g,rfl⟩:=nw h2.row U;have bz:=aO h2.hd;have f0:=bP h2.hd;have a:=bW h2 hk;go_wp2_with fail;refine((Vs h2.row i ax (i+1) rfl)).mono ?_;rintro e bq ⟨v',ys,rfl,t,B,s,m⟩;have q:=a.out.1.ne g rfl;have f:=s.heap a.out.1.hd (λe=>q e.symm);obtain⟨A,cap,rfl,_,_⟩:=cS t;have bz:=aO f;have f0:=bP f;have n:=b3 f 0 (aq A ys.length cap);simp only[tc,rT]at n;have cP:=(Keeps.refl (λj=>j=b) bq).setCell (p:=ae b 0 ad) rfl (aq A ys.length cap);go_wp2;go_ret;exact⟨⟨_,rfl⟩,((iP.l5 a.out.2 ⟨_,ys,⟨n,b5 t cP (λj d e=>by rw[m]at d;cases d;exact q e),U⟩,(s.mono (T:=λj=>j=b\/(aq (some (ae g 0 ad)) ps.length v).ownBlock=some j) λj _ e=>.inr (by rw[e];rfl)).trans (cP.mono λj _ e=>.inl e),λj d=>.inl (by rw[m]at d;exact d)⟩))⟩
def Rk(p:dS)(f:aa)(a:J)(c:w.cell? (ae a 0 ad)=some (I f)):aA 154 #[aL p,a] w λr w'=>r=.returned (.bool (sy f p))/\Below w w w':=by
 have f1:=q2 c (af p 296);have d:=gd (P:=prog) 296 10 w.heap.size 0 (l6 p) _ _ isAgg296 sizeOf296 rfl (aX w (af p 296)) (λj u z=>ke);have b:=ag (Rm p f (w.alloc (af p 296)));have hj:=ag ((b7 w.heap.size w).alloc bx (af p 296));generalize sy f p=r at *
 go_in
 go_wp2_with ((with_reducible refine dn d rfl rfl ?_ ?_);exact rfl);refine aW b.o λaD ak=>?_;go_wp2;go_ret;exact⟨rfl,hj.o.trans (ak.mono hj.o.size)⟩
def Rh(h:lJ w b dq ps)(f:aa):aA 92 #[b,I f] w λe w'=>(∃ c,e=.returned (I c))/\iP w b dq w':=by
 have t:=(bb w).alloc (af #[I f] 3);have h1:=h.keep t;have z:∀ j,dq.ownBlock=some j->j<w.heap.size:=λj d=>mH h.row d;have q:=ag (Vt h1.row AE (sy f) 154 #[w.heap.size] (enters_of func154 aI rfl) (λW v x=>Rk x f w.heap.size (bf (k:=0) (v.heap (aX w (af #[I f] 3)) (λe=>nW _ (z _ e))) rfl)));have bz:=aO h1.hd;have f0:=bP h1.hd;obtain⟨A,u,rfl,_,_⟩:=cS h.row;have a:=bW h1 t
 go_in
 go_wp2_with fail;refine q.o.mono ?_;rintro e bq ⟨v',rfl,i,n,l⟩;have g:=n.heap a.out.1.hd (λe=>a.out.1.ne _ e rfl);have r:=ml (λx=>!sy f x) ps;obtain⟨ys,s⟩:=cT (ps.filter λx=>!sy f x);rw[<-s]at i r;obtain⟨cG,cap,rfl,_,_⟩:=cS i;have bz:=aO g;have f0:=bP g;have m:=b3 g 0 (aq cG ys.length cap);simp only[tc,rT]at m;have cP:=(Keeps.refl (λj=>j=b) bq).setCell (p:=ae b 0 ad) rfl (aq cG ys.length cap);have y:=a.out.1.gn;have cI:=ag (iP.l5 a.out.2 ⟨_,ys,⟨m,b5 i cP (λj d e=>a.out.1.ne j (l▸d) e),U⟩,(n.mono (T:=λj=>j=b\/(aq A ps.length u).ownBlock=some j) λj _ e=>.inr e).trans (cP.mono λj _ e=>.inl e),λj d=>.inl (l▸d)⟩);clear g m cP i n l q a s r y;go_wp2;go_ret;exact⟨⟨_,rfl⟩,cI.o⟩
end Go.Proofs.YtalagblioepadaaGreatDoor
