/- The proof, part 43. -/
import Derived.Test.YtalagblioepadaaGreatDoorZb41
namespace Go.Proofs.YtalagblioepadaaGreatDoor
set_option linter.all false
open Proofs.Tryz List Go.RowKit Go.Shelf
set_option maxRecDepth 100000
set_option maxHeartbeats 1000000
variable{w w':ai}{b:J}{df:aw}{ps:ah dI}
def Wg(v:aw)(r:ah aw)(L:ah aw)(o:J)(a:o+(r.length+1)<=L.length):(L.set o v).take (o+1)++r++(L.set o v).drop (o+1+r.length)=L.take o++v :: r++L.drop (o+(r.length+1)):=by
 obtain⟨A,x,B,rfl,rfl⟩:∃ A x B,A.length=o/\L=A++x :: B:=⟨L.take o,L[o]'U,L.drop (o+1),bU,aI⟩;rw[set_append_right _ _ bA,Dy,ra,take_append,drop_append,take_append,drop_append];simp[nm,Dk,show A.length+1+r.length-A.length=r.length+1 by omega];omega
theorem Jy(g:J)(t:TypeId):∀ (bQ:ah aw) (o:J) (a:a6 aw) (w:ai),w.heap[g]?=some (ae a t (0,0))->o+bQ.length<=a.size->
  (w.setCells g o bQ).heap[g]?=some (ae (a.toList.take o++bQ++a.toList.drop (o+bQ.length)).toArray t (0,0))/\Keeps (λj=>j=g) w (w.setCells g o bQ)
 | [],o,a,w,h,_=>⟨by simp[World.setCells,h],Keeps.refl _ _⟩
 | v :: r,o,a,w,h,c=>by
  rw[dr]at c;obtain⟨h2,b⟩:=Jy g t r (o+1) _ (w.setCell (ad g o ab) v) (bW h o v) bU;refine⟨?_,((Keeps.refl (λj=>j=g) w).setCell (p:=ad g o ab) rfl v).trans b⟩;rw[World.setCells,h2]
  congr 3
  rw[Array.toList_setIfInBounds,dr];exact Wg v r a.toList o zO
def qw(ps:ah dI)(i:J):ah dI:=ps.take i++ps.drop (i+1)++ps.drop (ps.length-1)
def Pe{g cap:J}(h:w.ownsRow 0 296 10 (ao (some (ad g 0 ab)) ps.length cap) ps.length (d' ps))(i:J)(av:i<ps.length):(w.setCells g (i*10) (d' (ps.drop (i+1)))).ownsRow 0 296 10 (ao (some (ad g 0 ab)) ps.length cap) (qw ps i).length (d' (qw ps i))/\(qw ps i).length=ps.length/\Keeps (λj=>j=g) w (w.setCells g (i*10) (d' (ps.drop (i+1))))/\
   (∀ j u,(d' (ps.drop (i+1)))[j]?=some u->w.cell? (ad g ((i+1)*10+j) ab)=some u)/\(∀ j,j<(d' (ps.drop (i+1))).length->(w.cell? (ad g (i*10+j) ab)).isSome=true/\w.frozen? (ad g (i*10+j) ab)=false):=by
 have⟨a,rest,a1,aq,aj,au,hm,ax⟩:=r3 (enc:=dI.bt) h;have aq:a.toList=d' ps++rest:=aq;have k:d' ps=d' (ps.take (i+1))++d' (ps.drop (i+1)):=by
  conv=>lhs;rw[<-lR (i+1) ps]
  unfold d';rw[q8]
 have f:=rZ (ps.take (i+1));have d:=rZ (ps.drop (i+1));rw[gw,oq U]at f;rw[gd]at d;have e:a.toList.length=cap*10:=by rw[pe,ax]
 have⟨h1,h2⟩:=Jy g 296 (d' (ps.drop (i+1))) (i*10) a w a1 U;have c:(qw ps i).length=ps.length:=by unfold qw;simp;omega
 refine⟨⟨by rw[rZ],.inr ⟨g,cap,_,by rw[c],aj,h1,by rw[c];exact au,hm,?_,?_⟩⟩,c,h2,λj u l=>?_,λj p=>⟨?_,fJ a1 _⟩⟩
 .simp only[gR,cx,gw,gd,e];omega
 .have t:ps.drop (ps.length-1)=[ps[ps.length-1]'U]:=by
   rw[p9 U,Dk U]
  have m:(a.toList.take (i*10))=d' (ps.take i):=by
   rw[aq,k,dD]
   have:d' (ps.take (i+1))=d' (ps.take i)++dI.bt ps[i]:=by
    unfold d';rw[lS av,q8,iL,flatMap_nil,eX]
   rw[this,dD];have b:=rZ (ps.take i);rw[gw,oq U]at b;exact rb b
  have n:(a.toList.drop (i*10+(d' (ps.drop (i+1))).length)).take 10=d' (ps.drop (ps.length-1)):=by
   rw[d,show i*10+(ps.length-(i+1))*10=(ps.length-1)*10 by omega,aq];have r:d' ps=d' (ps.take (ps.length-1))++d' (ps.drop (ps.length-1)):=by
    conv=>lhs;rw[<-lR (ps.length-1) ps]
    unfold d';rw[q8]
   have b:=rZ (ps.take (ps.length-1));rw[gw,oq U]at b;rw[r,dD,wC b];have q:=rZ (ps.drop (ps.length-1));rw[gd]at q;exact rb U
  have o:d' (qw ps i)=d' (ps.take i)++d' (ps.drop (i+1))++d' (ps.drop (ps.length-1)):=by unfold qw d';simp
  have s:(a.toList.take (i*10)++d' (ps.drop (i+1))).length=(ps.length-1)*10:=by
   rw[cx,gw,e,d];omega
  rw[c,take_append,s,nm U,show ps.length*10-(ps.length-1)*10=10 by omega,n,m,o]
 .have p:=(hf.1 l).1;refine bb a1 ?_;rw[<-nc,aq,k,dD,mu U,jL U,f,show(i+1)*10+j-(i+1)*10=j by omega];exact l
 obtain⟨v,aX⟩:∃ v,a[i*10+j]?=some v:=⟨_,sw U⟩;rw[bb a1 aX];rfl
def RF:∃ i,prog.info? 296=some i/\i.size=10:=by
 have⟨i,_,h1,_,h2,_⟩:=Hp;exact⟨i,h1,h2⟩
def Uc{g cap:J}(h:w.ownsRow 0 296 10 (ao (some (ad g 0 ab)) ps.length cap) ps.length (d' ps))(i:J)(av:i<ps.length)(j:J)(q:i+1=j):az 238 #[ao (some (ad g 0 ab)) ps.length cap,I i,I j] w λe w'=>∃ v' ys,e=.returned v'/\w'.ownsRow 0 296 10 v' ys.length (d' ys)/\ys.length<=ps.length/\Keeps (λj=>j=g) w w'/\v'.ownBlock=some g:=by
 have⟨G,C,F⟩:=RF;have⟨_,_,_,_,_,z,B,_⟩:=r3 (enc:=dI.bt) h;have⟨h1,h2,d,k,l⟩:=Pe (b3 h (a_ w).drew (λ_ _=>id)) i av;have⟨b,f⟩:=cQ (d' (ps.drop (i+1)));have r:b.length=(ps.length-(i+1))*10:=by rw[f,rZ,gd]
 rw[<-f]at h1 d k l;rw[h2]at h1;obtain⟨aB,p,s,n⟩:=yz (P:=prog) (TS:=289) (enc:=dI.bt) (λ_=>rfl) underlying289 Jf rfl bq h1 (ps.length-1) U h2;obtain⟨L,m⟩:=cQ (w.drew.setCells g (i*10) b);rw[<-m]at p d n;have v:∀ u∈b,u.oneCell'=true:=λu a=>by
  rw[f]at a;obtain⟨x,_,D⟩:=wI.1 a;exact BM x u D
 obtain⟨A,M,y⟩:∃ A:Addr,(if cap=j then some ((ad g 0 ab):Addr)else some (ad g (j*10) ab))=some A/\∀ t u,b[t]?=some u->w.drew.cell? (A.add t)=some u:=by
  by_cases aq:cap=j
  .refine⟨(ad g 0 ab),by simp[aq],λt u a=>?_⟩
   have:=(hf.1 a).1
   omega
  refine⟨(ad g (j*10) ab),by simp[aq],λt u a=>?_⟩;rw[hN,<-q];exact k t u a
 have E:((qw ps i).take (ps.length-1)).length=ps.length-1:=by rw[gw,h2];omega
 have c:=b8 s (bD ((Keeps.refl (λj=>j=g) w).drew.trans (d.trans n)) E);have s1:Hid (b.length=(ps.length-j)*10):=af (by rw[r,q]);have s2:=af y;have gO:=af v;have H:=af l;have K:=af m;have Q:j<=ps.length:=U;have N:i<=cap:=U;have O:j<=cap:=U;have R:i+(ps.length-j)=ps.length-1:=U;clear h h1 h2 d k l n s m f y v r B
 go_in
 go_wp2_with fail
 go_region_law (refine step_append_room rfl (.tmp 22) (.tmp 25) 289 rfl 296 G 10 underlying289 C F g 0 i cap uK A (ps.length-j) (cap-j) b uK s1.o s2.o gO.o U (λt aN=>by rw[gv];exact H.o t aN) ?_;rw[gv,<-K.o])
 have S:ps.length-1<=ps.length:=U;have T:=z;have V:¬ cap=ps.length-1:=U;go_wp2_with refine wm (p _ _) rfl rfl rfl ?_
 go_ret;exact⟨_,_,rfl,by rw[c.o.2.2];exact c.o.1,by rw[c.o.2.2];omega,c.o.2.1,rfl⟩
def PW(h:k9 w b df ps)(k:dp):az 163 #[b,aM k] w λe w'=>(∃ c,e=.returned (I c))/\im w b df w':=by
 have u:=(a_ w).alloc (ae k 43);have z:=aW w (ae k 43);have h1:=h.keep u;have l:=b8 h1 u;have B:=h.fX
 go_in
 go_wp2_with fail;generalize w.alloc _=an at *;refine(Gg h1 k).mono ?_;rintro e aB ⟨r,y⟩;have h2:=l.out.1.keep r;have hk:=l.out.2.trans r;rcases y with rfl|⟨i,av,rfl⟩
 .have a:=af (im.lz hk (im.same h2 (Keeps.refl _ _)));go_wp2;go_ret;exact⟨⟨_,rfl⟩,a.o⟩
 obtain⟨A,x,rfl,_,_⟩:=cP h2.row;obtain⟨g,rfl⟩:=oY h2.row U;have bu:=aP h2.hd;have f0:=bJ h2.hd;have a:=b8 h2 hk;go_wp2_with fail;refine((Uc h2.row i av (i+1) rfl)).mono ?_;rintro e bn ⟨v',ys,rfl,t,C,s,m⟩;have q:=a.out.1.ne g rfl;have f:=s.heap a.out.1.hd (λe=>q e.symm);obtain⟨A,cap,rfl,_,_⟩:=cP t;have bu:=aP f;have f0:=bJ f;have n:=bW f 0 (ao A ys.length cap);simp only[sG,ra]at n;have v:=(Keeps.refl (λj=>j=b) bn).setCell (p:=ad b 0 ab) rfl (ao A ys.length cap);go_wp2;go_ret;exact⟨⟨_,rfl⟩,((im.lz a.out.2 ⟨_,ys,⟨n,b3 t v (λj d e=>by rw[m]at d;cases d;exact q e),U⟩,(s.mono (T:=λj=>j=b\/(ao (some (ad g 0 ab)) ps.length x).ownBlock=some j) λj _ e=>.inr (by rw[e];rfl)).trans (v.mono λj _ e=>.inl e),λj d=>.inl (by rw[m]at d;exact d)⟩))⟩
def P0(p:dI)(f:aa)(a:J)(c:w.cell? (ad a 0 ab)=some (I f)):az 154 #[aM p,a] w λr w'=>r=.returned (.bool (rW f p))/\Below w w w':=by
 have f1:=qt c (ae p 296);have d:=gq (P:=prog) 296 10 w.heap.size 0 (lA p) _ _ isAgg296 sizeOf296 rfl (aW w (ae p 296)) (λj u z=>jS);have b:=af (P2 p f (w.alloc (ae p 296)));have gS:=af ((bY w.heap.size w).alloc bA (ae p 296));generalize rW f p=r at *
 go_in
 go_wp2_with ((with_reducible refine dm d rfl rfl ?_ ?_);exact rfl);refine aT b.o λaB aj=>?_;go_wp2;go_ret;exact⟨rfl,gS.o.trans (aj.mono gS.o.size)⟩
def PX(h:k9 w b df ps)(f:aa):az 92 #[b,I f] w λe w'=>(∃ c,e=.returned (I c))/\im w b df w':=by
 have u:=(a_ w).alloc (ae #[I f] 3);have h1:=h.keep u;have B:∀ j,df.ownBlock=some j->j<w.heap.size:=λj d=>oX h.row d;have r:=af (Ud h1.row zM (rW f) 154 #[w.heap.size] (enters_of func154 aH rfl) (λW y x=>P0 x f w.heap.size (bb (k:=0) (y.heap (aW w (ae #[I f] 3)) (λe=>qd _ (B _ e))) rfl)));have bu:=aP h1.hd;have f0:=bJ h1.hd;obtain⟨A,v,rfl,_,_⟩:=cP h.row;have a:=b8 h1 u
 go_in
 go_wp2_with fail;refine r.o.mono ?_;rintro e bn ⟨v',rfl,i,n,l⟩;have g:=n.heap a.out.1.hd (λe=>a.out.1.ne _ e rfl);have s:=mv (λx=>!rW f x) ps;obtain⟨ys,t⟩:=cQ (ps.filter λx=>!rW f x);rw[<-t]at i s;obtain⟨cA,cap,rfl,_,_⟩:=cP i;have bu:=aP g;have f0:=bJ g;have m:=bW g 0 (ao cA ys.length cap);simp only[sG,ra]at m;have q:=(Keeps.refl (λj=>j=b) bn).setCell (p:=ad b 0 ab) rfl (ao cA ys.length cap);have z:=a.out.1.fX;have cE:=af (im.lz a.out.2 ⟨_,ys,⟨m,b3 i q (λj d e=>a.out.1.ne j (l▸d) e),U⟩,(n.mono (T:=λj=>j=b\/(ao A ps.length v).ownBlock=some j) λj _ e=>.inr e).trans (q.mono λj _ e=>.inl e),λj d=>.inl (l▸d)⟩);clear g m q i n l r a t s z;go_wp2;go_ret;exact⟨⟨_,rfl⟩,cE.o⟩
end Go.Proofs.YtalagblioepadaaGreatDoor
