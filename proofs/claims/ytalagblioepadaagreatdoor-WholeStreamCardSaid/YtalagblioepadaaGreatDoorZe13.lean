/- The proof, part 13. -/
import Derived.Test.YtalagblioepadaaGreatDoorZe10
import Derived.Test.YtalagblioepadaaGreatDoorZe09
import Derived.Test.YtalagblioepadaaGreatDoorZe05
import Derived.OwnWalkIn
import Derived.Shelf.RegionOpen
import Derived.LoopNIn
import Derived.LoopIn
import Derived.Deep.Cut
import Derived.RangeFuncBox
namespace Go.Proofs.YtalagblioepadaaGreatDoor
set_option linter.all false
open Proofs.Tryz List Go.RowKit
set_option maxRecDepth 100000
set_option maxHeartbeats 800000
variable{ww:Prop}
def CT(h:ww:=by have:=(al x ak).1;omega):=h
def qU(h:ww:=by simp only[maxLen];omega):=h
def zB(h:ww:=by have:=(c.lt k hk).1;omega):=h
def CR(h:ww:=by simpa using bX sd.o 0 _):=h
def HZ(h:ww:=by have:=(c.lt _ e.symm).1;omega):=h
variable{i toq:U}{S:J->ae}{α:Type}
section
attribute [local go_sem] Oper.semAt_some
variable{w:aj}{r B size first n:J}{A:ai U}
def afu(r:J)(w:aj):aB 310 #[r] w λe w'=>e=.returned (.func (.func 335) #[] #[w.heap.size])/\w.alloc (ab #[r] 119)=w':=by
 go_in
 go_wp2;go_ret;exact⟨rfl,rfl⟩
def ajr(L:List α)(k:J)(h:k<L.length):L.zipIdx=L.zipIdx.take k++(L[k],k) :: L.zipIdx.drop (k+1)/\L.zipIdx.take (k+1)=L.zipIdx.take k++[(L[k],k)]:=by
 have h2:k<L.zipIdx.length:=by simpa using h
 have e:L.zipIdx[k]=(L[k],k):=aM;refine⟨?_,?_⟩
 .rw[<-e,<-qO h2,n_]
 rw[l7 h2,e]
def Xq{L:ai U}(c:gw w r B size A first L.length)(y:Holds A first size L)(a:J)(S:a<w.heap.size)(an:w.cell? (ah a 0)=some (bM r))(f:J->ae)(g:¬ f a/\¬ f r/\¬ f B):q1 prog 335 #[a] (λp:U×J=>#[aa p.2,(bf p.1)]) L.zipIdx f (λ_=>False) w:=by
 intro l s W H hk X x D d;subst H;have lp:=bZ c.head;have Y:=bZ c.body;have bS:=c.f_;have Q:=c.most;refine h0.2 ?_
 go_in
 go_wp2_with fail
 go_loopw [3] (λv wr=>∃ k:J,k<=L.length/\v=aa k/\wr.cell? (ah a 0)=some (bM r)/\gw wr r B size A first L.length/\s (L.zipIdx.take k) wr/\w.heap.size+2<=wr.heap.size)
  (λv _=>L.length-(intOf v).toNat)
 case atStart=>exact⟨0,c3 _,rfl,hk.cell an id,c.keeps hk id id,zG,I⟩
 obtain⟨k,T,rfl,u,b,m,N⟩:=hrel;by_cases n:k<L.length
 .obtain⟨P,E⟩:=ajr L k n;have j:A[(first+k)%size]?=some L[k]:=(y k n).trans aM;obtain⟨q,C⟩:∃ q,(first+k)%size=q:=⟨_,rfl⟩;rw[C]at j;have bw:=b.bw;have R:=b.cell j;have V:=C▸gb _ c.pos;refine dU;go_upto_region 3 with((go_at_call 55;refine(F5 b).mono ?_;rintro e w' ⟨rfl,rfl⟩))
  refine xT;refine ai5 (adz _ _) 11 bc bc bc ?_;refine vk
  repeat (go_big_quiet_step ((go_at_call 283;first|exact Calls.quiet_of (wS (b.drew _) k q _ I I m'.o)|exact ke (wS (b.drew _) k q _ I I m'.o))))
  refine vm;have⟨fn,tmps,assign,body,a8,t⟩:=D (L.zipIdx.take k) (L[k],k) (L.zipIdx.drop (k+1)) (wr.drewN nq) P (x _ _ _ m ((ag.refl _ wr).drewN nq));refine Dn;refine VQ;have z:=(b.drew nq).keeps i (λh=>h.elim g.2.1 a1) (λh=>h.elim g.2.2 a1);have M:=i.size;gi_wp2;go_wp2;go_roundw
  case rel=>exact⟨k+1,I,cT,K,z,by rw[E];exact F,cu N M⟩
  simp[intOf];omega
 have G:L.zipIdx.take k=L.zipIdx:=o1 b_;go_wp2_with ((go_at_call 55;refine(F5 b).mono ?_;rintro e w' ⟨rfl,rfl⟩));go_end0;exact⟨⟨_,rfl⟩,by rw[<-G];exact m⟩
def My:(prog.info? 5).map (λi=>(i.zero,i.size,i.bytes))=some (some (bf 0),1,1):=bc
def zip_map(L:ai U):L.zipIdx.map (λp=>(bf p.1))=L.map (λx=>(bf x)):=by
 have:(λp:U×J=>((bf p.1):ay))=(λx=>(bf x)) ∘ Prod.fst:=rfl
 rw[this,<-map_map]
 congr 1
 exact zipIdx_map_fst 0 L
def afp{L:ai U}(g:gw w r B size A first L.length)(D:Holds A first size L):aB 263 #[r] w λe w'=>∃ a cap,e=au a L.length cap/\ey w' 1 a L.length cap (L.map λx=>(bf x))/\(∀ x,a=some x->w.heap.size<=x.block)/\Below w w w':=by
 obtain⟨M,av,G,H,K⟩:=pY My;have lp:=bZ g.head;have Y:=bZ g.body;have bS:=g.f_;have P:=g.most;refine(h0 (n:=0)).1 ?_;refine callsIn_of_wp_marks func263 rfl trivial ?_ rfl;simp only[ntmps263,iw,eA,gN,Nat.reduceAdd,Nat.reduceSub,uR,uS,u',uW,p2,l5];gi_wp2_with (fail);refine⟨trivial,rfl,h0.2 ((afu r _).mono ?_)⟩;rintro e aF ⟨rfl,F⟩;gi_wp2_with (fail);subst F
 have E:gw ((w.alloc (ab #[au none 0 0] 51)).alloc (ab #[r] 119)) r B size A first L.length:=
  g.keeps (S:=aH) (((ag.refl _ w).alloc _).alloc _) id id
 refine GY (gf:=335) (lb:=#[bM (w+1)]) rfl (enters_of func335 bc rfl)
  (λ_=>rfl) L.zipIdx (λk=>k=w.heap.size\/w.heap.size+3<k) (λ_=>False)
  (Xq E D (w.heap.size+1) aM (by go_simp) _ ⟨I,I,I⟩)
  b_ aM
  (λpre W=>(∃ v,W.heap[w.heap.size]?=some (ab #[v] 51 (0,0))/\W.ownsRow (w.heap.size+4) 5 1 v pre.length (pre.map λp=>(bf p.1)))/\Below w w W/\w.heap.size+2<=W.heap.size)
  (λpre A B ⟨⟨v,i,c⟩,f,q⟩ X hk=>⟨⟨v,hk.heap i (λh=>tu),b7 c hk (λb al h=>by have:=(c.lt b al).1;simp at h;omega)⟩,f.trans (hk.below f.size (λk h1 h2=>by simp at h2;omega)),cu q hk.size⟩)
  ⟨⟨_,b2 (aP _ _) _,il _ _ _ _⟩,((b9 _ w).alloc bu _).alloc aM _,aM⟩
  (λx=>{tmps:=#[bM r,undef,au none 0 0,bM w,undef,(bf x.1),bM r,.func (.func 335) #[] #[bM (w+1)],aa x.2,(bf x.1),undef,undef,undef,undef,undef],defers:=[]})
  ?assign ?body ?done
 case assign=>
  exact Ji
 case body=>
  refine Ux;have V:pre.length+1<=4096:=I;have C:=kz i;have R:=oU i;have y:=ad i;gi_wp2_with (gi_at_builtin;refine wpListIn_append_own _ rfl _ _ 51 rfl (w.heap.size+4) 5 M (bf 0) 1 1 underlying51 av G H K rfl bs _ _ _ rfl (c.alloc _) (ah j 0) 1 1 [(bf x.1)] rfl rfl (sa _ _ _) p7 qU I (by simp at s⊢;omega) ?_;intro v' aq d l _;have t:ag (λk=>k=w.heap.size\/w.heap.size+3<k) j aq:=((ag.refl _ j).alloc _).grown l (λk hk=>.inl (.inr zB));obtain⟨g',z,rfl⟩:=ownsRow_succ d;have h2:=(l.block w b_ (λe=>HZ)).trans (b2 y.o _);have Q:=kz h2;have T:=oU h2;have sd:=ad h2;clear h2 l);refine IG;refine⟨m,⟨_,CR,b7 d ((ag.refl (λk=>k=w) aq).setCell (p:=ah w 0) rfl _) (λb al h=>zA)⟩,f.trans (m.below f.size a1),?_⟩
  have:=t.size
  omega
 rintro W ⟨⟨v,i,c⟩,f,q⟩ u;have C:=kz i;rw[length_zipIdx,zip_map]at c;refine UM;refine⟨_,Cm rfl _ _ _,a,cap,rfl,a_.keeps (S:=λk=>k=w.heap.size+2) ((ag.refl _ W).putObj aM _) (λ_ x ak=>CT),λx ak=>CT,?_⟩;exact f.trans (((ag.refl (λk=>w.heap.size<=k) W).putObj b_ _).below f.size a1)
def afq(size:J)(h1:1<=size)(h2:size<=4096)(w:aj):aB 195 #[aa size] w λe w'=>e=aV #[bM (w+1),aa 0]/\gw w' (w.heap.size+1) w size (replicate size 0) 0 0/\Below w w w'/\w'.heap.size=w.heap.size+2:=by
 have⟨g,av,c,f,d⟩:=pY My;have hd:decide (1<=(size:U)/\(size:U)<=4096)=true:=b_;have b:=run_make (P:=prog) w 51 5 g (bf 0) underlying51 av c .i64 .i64 size size I (kA _) xt I;have a:madeCells ((bf 0):ay).cells size=((replicate size (0:U)).map λx=>(bf x)).toArray:=by
  apply Hb.1;rw[show((bf 0):ay).cells=#[(bf 0)]from rfl,Qw];simp
 rw[f,rY,HO,a]at b
 go_in
 go_wp2_with fail;refine bJ (BJ size w) ?_;rw[hd];go_wp2;go_ret2;refine⟨rfl,⟨?_,?_,aM,h1,h2,I,I,I⟩,((b9 _ w).alloc bu _).alloc aM _,aM⟩
 .have:=aP (w.alloc (ab ((replicate size (0:U)).map λx=>(bf x)).toArray 5)) (ab #[au (bT w) size size,aa 0,aa 0] 181)
  exact mO
 have:=b2 (aP w (ab ((replicate size (0:U)).map λx=>(bf x)).toArray 5)) (ab #[au (bT w) size size,aa 0,aa 0] 181)
 exact mO
end
section
attribute [local go_sem] Oper.semAt_some
def mq(L:ai U):ai ay:=L.map λx=>aa x
def abv:(prog.info? 3).map (λi=>(i.zero,i.size,i.bytes))=some (some (aa 0),1,8):=bc
variable{w:aj}
def agI(g:α->U)(gf:J)(lb:a6 ay)(y:∀ args w,(callFunc gf args).run prog w=.ok (.enter gf args) w)(L:List α)(M:L.length<=4096)(C:q1 prog gf lb (λx:α=>#[aa (g x)]) L (λk=>k=w.heap.size\/w.heap.size+2<k) (λ_=>False) (w.alloc (ab #[au none 0 0] 141))):aB 124 #[au none 0 0,.func (.func gf) #[] lb] w λe w'=>∃ v,e=.returned v/\w'.ownsRow (w.heap.size+3) 3 1 v L.length (mq (L.map g))/\Below w w w':=by
 obtain⟨G,av,D,E,F⟩:=pY abv;refine(h0 (n:=0)).1 ?_;refine callsIn_of_wp_marks func124 rfl trivial ?_ rfl;simp only[ntmps124,iw,eA,gN,Nat.reduceAdd,Nat.reduceSub,uR,uS,u',uW,p2,l5];gi_wp2_with (fail)
 refine GY (gf:=gf) (lb:=lb) rfl y (λ_=>rfl) L (λk=>k=w.heap.size\/w.heap.size+2<k) (λ_=>False) C
  b_ aM
  (λpre W=>(∃ v,W.heap[w.heap.size]?=some (ab #[v] 141 (0,0))/\W.ownsRow (w.heap.size+3) 3 1 v pre.length (mq (pre.map g)))/\Below w w W/\w.heap.size+1<=W.heap.size)
  (λpre A B ⟨⟨v,i,c⟩,f,q⟩ P hk=>⟨⟨v,hk.heap i (λh=>tu),b7 c hk (λb al h=>by have:=(c.lt b al).1;simp at h;omega)⟩,f.trans (hk.below f.size (λk h1 h2=>by simp at h2;omega)),cu q hk.size⟩)
  ⟨⟨_,aP _ _,il _ _ _ _⟩,(b9 _ w).alloc bu _,aM⟩
  (λx=>{tmps:=#[au none 0 0,.func (.func gf) #[] lb,bM w,undef,au none 0 0,aa (g x),.func (.func gf) #[] lb,aa (g x),undef,undef,undef,undef,undef],defers:=[]})
  ?assign ?body ?done
 case assign=>
  exact Ji
 case body=>
  refine Ux;have r:=kz i;have l:=ad i;gi_wp2_with (gi_at_builtin;refine wpListIn_append_own _ rfl _ _ 141 rfl (w.heap.size+3) 3 G (aa 0) 1 8 underlying141 av D E F rfl bs _ _ _ rfl (c.alloc _) (ah j 0) 1 1 [aa (g x)] rfl rfl (sa _ _ _) p7 qU I (by simp at s⊢;omega) ?_;intro v' aq d a _;have t:ag (λk=>k=w.heap.size\/w.heap.size+2<k) j aq:=((ag.refl _ j).alloc _).grown a (λk hk=>.inl (.inr zB));obtain⟨g',z,rfl⟩:=ownsRow_succ d;have h2:=(a.block w b_ (λe=>HZ)).trans (b2 l.o _);have H:=kz h2;have K:=oU h2;have sd:=ad h2;clear h2 a);refine IG;refine⟨m,⟨_,CR,by simpa[mq]using b7 d ((ag.refl (λk=>k=w) aq).setCell (p:=ah w 0) rfl _) (λb al h=>zA)⟩,f.trans (m.below f.size a1),?_⟩
  have:=t.size
  omega
 rintro W ⟨⟨v,i,c⟩,f,q⟩ u;have r:=kz i;refine UM;refine⟨_,Cm rfl _ _ _,_,rfl,b7 c ((ag.refl (λk=>k=w+1) W).putObj aM _) (λb al h=>by have:=(c.lt b al).1;omega),?_⟩;exact f.trans (((ag.refl (λk=>w.heap.size<=k) W).putObj aM _).below f.size a1)
def OV(g:α->U)(gf:J)(lb:a6 ay)(b:∀ args w,(callFunc gf args).run prog w=.ok (.enter gf args) w)(L:List α)(a:L.length<=4096)(c:q1 prog gf lb (λx:α=>#[aa (g x)]) L (λk=>k=w.heap.size\/w.heap.size+2<k) (λ_=>False) (w.alloc (ab #[au none 0 0] 141))):aB 78 #[.func (.func gf) #[] lb] w λe w'=>∃ v,e=.returned v/\w'.ownsRow (w.heap.size+3) 3 1 v L.length (mq (L.map g))/\Below w w w':=by
 go_in
 go_wp2_with fail;refine(agI g gf lb b L a c).mono ?_;rintro e w' ⟨v,rfl,d,al⟩;go_wp2;go_ret;exact⟨_,rfl,d,al⟩
end
section
def k'(w:aj)(r B size:J)(L:ai U):ae:=∃ A first,gw w r B size A first L.length/\Holds A first size L
variable{w:aj}{r B size:J}{L:ai U}
def k'.keeps{w':aj}(h:k' w r B size L)(hk:ag S w w')(b:¬ S r)(a:¬ S B):k' w' r B size L:=by
 exact IC
def k'.le(h:k' w r B size L):L.length<=size/\1<=size/\size<=4096/\r<w.heap.size/\B<w.heap.size/\r≠B:=by
 exact Im
def yt(h:k' w r B size L):aB 55 #[r] w λe w'=>e=aa L.length/\w=w':=by
 have⟨A,f,h1,h2⟩:=h;exact F5 h1
def abR(h:k' w r B size L)(aw:L.length<size)(v:U):aB 217 #[r,(bf v)] w λe w'=>e=aa 0/\k' w' r B size (L++[v])/\ag (λb=>b=r\/b=B) w w':=by
 obtain⟨A,f,h1,h2⟩:=h;refine aS (afs h1 aw _ rfl v) ?_;rintro w' ⟨a,c⟩;exact⟨rfl,⟨_,f,vg,h2.push h1.fst h1.ig aw v⟩,c⟩
def abS(h:k' w r B size L)(aw:L.length=size)(v:U):aB 217 #[r,(bf v)] w λe w'=>e=aa 8/\k' w' r B size L/\ag (λb=>b=r\/b=B) w w':=by
 obtain⟨A,f,h1,h2⟩:=h;refine aS (aft h1 aw v) ?_;rintro w' ⟨m,rfl⟩;exact⟨rfl,⟨_,f,h1.drew m,h2⟩,(ag.refl _ w).drewN m⟩
def abQ{v:U}(h:k' w r B size (v :: L)):aB 333 #[r] w λe w'=>e=aV #[(bf v),true]/\k' w' r B size L/\ag (λb=>b=r\/b=B) w w':=by
 obtain⟨A,f,h1,h2⟩:=h;have d:=h2 0 aM;rw[tj,kE h1.fst]at d;refine aS (afr h1 aM _ rfl v zG) ?_;rintro w' ⟨a,c⟩;exact⟨rfl,⟨_,_,vg,h2.pop h1.fst h1.f_ aM _⟩,c⟩
def abO(h:k' w r B size L):aB 263 #[r] w λe w'=>∃ a cap,e=au a L.length cap/\ey w' 1 a L.length cap (L.map λx=>(bf x))/\(∀ x,a=some x->w.heap.size<=x.block)/\Below w w w':=by
 have⟨A,f,h1,h2⟩:=h;exact afp h1 h2
def abP(size:J)(h1:1<=size)(h2:size<=4096)(w:aj):aB 195 #[aa size] w λe w'=>e=aV #[bM (w+1),aa 0]/\k' w' (w.heap.size+1) w size ([]:ai U)/\Below w w w'/\w'.heap.size=w.heap.size+2:=by
 refine aS (afq size h1 h2 w) ?_;rintro w' ⟨a,b⟩;exact⟨rfl,⟨_,0,a,λt aW=>absurd aW (lD _)⟩,b⟩
end
section
attribute [local go_sem] Oper.semAt_some
variable{w:aj}{r B size first n:J}{A:ai cl}
def aen:(prog.info? 9).map (λi=>(i.zero,i.size,i.bytes))=some (some (Value.string ByteArray.empty),1,16):=bc
def aez(size:J)(h1:1<=size)(h2:size<=4096)(w:aj):aB 83 #[aa size] w λe w'=>e=aV #[bM (w+1),aa 0]/\hy w' (w.heap.size+1) w size (replicate size ByteArray.empty) 0 0/\Below w w w'/\w'.heap.size=w.heap.size+2:=by
 have⟨g,av,c,f,d⟩:=pY aen;have hd:decide (1<=(size:U)/\(size:U)<=4096)=true:=b_;have b:=run_make (P:=prog) w 33 9 g (Value.string ByteArray.empty) underlying33 av c .i64 .i64 size size I (kA _) xt I;have a:madeCells ((Value.string ByteArray.empty):ay).cells size=((replicate size (ByteArray.empty:cl)).map λx=>(Value.string x)).toArray:=by
  apply Hb.1;rw[show((Value.string ByteArray.empty):ay).cells=#[(Value.string ByteArray.empty)]from rfl,Qw];simp
 rw[f,rY,HO,a]at b
 go_in
 go_wp2_with fail;refine bJ (aeE size w) ?_;rw[hd];go_wp2;go_ret2;refine⟨rfl,⟨?_,?_,aM,h1,h2,I,I,I⟩,((b9 _ w).alloc bu _).alloc aM _,aM⟩
 .have:=aP (w.alloc (ab ((replicate size (ByteArray.empty:cl)).map λx=>(Value.string x)).toArray 9)) (ab #[au (bT w) size size,aa 0,aa 0] 239)
  exact mO
 have:=b2 (aP w (ab ((replicate size (ByteArray.empty:cl)).map λx=>(Value.string x)).toArray 9)) (ab #[au (bT w) size size,aa 0,aa 0] 239)
 exact mO
end
section
def jL(w:aj)(r B size:J)(L:ai cl):ae:=∃ A first,hy w r B size A first L.length/\Holds A first size L
variable{w:aj}{r B size:J}{L:ai cl}
def jL.keeps{w':aj}(h:jL w r B size L)(hk:ag S w w')(b:¬ S r)(a:¬ S B):jL w' r B size L:=by
 exact IC
def jL.le(h:jL w r B size L):L.length<=size/\1<=size/\size<=4096/\r<w.heap.size/\B<w.heap.size/\r≠B:=by
 exact Im
def aeq(h:jL w r B size L):aB 82 #[r] w λe w'=>e=aa L.length/\w=w':=by
 have⟨A,f,h1,h2⟩:=h;exact aey h1
def aeo(h:jL w r B size L)(i:J)(x:U)(ak:x=i)(v:cl)(a_:L[i]?=some v):aB 165 #[r,aa x] w λe w'=>e=aV #[(Value.string v),true]/\∃ m,w'=w.drewN m:=by
 obtain⟨A,f,h1,h2⟩:=h;have av:=(ir.1 a_).1;exact NV h1 i _ x ak av rfl v ((h2 i av).trans a_)
def aep(h:jL w r B size L)(x:U)(ak:x<0\/(L.length:U)<=x):aB 165 #[r,aa x] w λe w'=>e=aV #[(Value.string ByteArray.empty),false]/\w=w':=by
 have⟨A,f,h1,h2⟩:=h;exact NW h1 x ak
def aes(h:jL w r B size L)(aw:L.length<size)(v:cl):aB 95 #[r,(Value.string v)] w λe w'=>e=aa 0/\jL w' r B size (L++[v])/\ag (λb=>b=r\/b=B) w w':=by
 obtain⟨A,f,h1,h2⟩:=h;refine aS (aeA h1 aw _ rfl v) ?_;rintro w' ⟨a,c⟩;exact⟨rfl,⟨_,f,vg,h2.push h1.fst h1.ig aw v⟩,c⟩
def aet(h:jL w r B size L)(aw:L.length=size)(v:cl):aB 95 #[r,(Value.string v)] w λe w'=>e=aa 8/\jL w' r B size L/\ag (λb=>b=r\/b=B) w w':=by
 obtain⟨A,f,h1,h2⟩:=h;refine aS (aeB h1 aw v) ?_;rintro w' ⟨m,rfl⟩;exact⟨rfl,⟨_,f,h1.drew m,h2⟩,(ag.refl _ w).drewN m⟩
def aeu(h:jL w r B size L)(i:J)(x:U)(ak:x=i)(v:cl)(a_:L[i]?=some v):aB 164 #[r,aa x] w λe w'=>e=aV #[(Value.string v),true]/\jL w' r B size (L.eraseIdx i)/\ag (λb=>b=r\/b=B) w w':=by
 obtain⟨A,f,h1,h2⟩:=h;have av:=(ir.1 a_).1;refine aS (aeC h1 h2 i x ak av v a_) ?_;rintro w' ⟨hk,cV,a,c⟩;exact⟨rfl,⟨cV,f,by rw[length_eraseIdx_of_lt av];exact a,c⟩,hk⟩
def aev(h:jL w r B size L)(x:U)(ak:x<0\/(L.length:U)<=x):aB 164 #[r,aa x] w λe w'=>e=aV #[(Value.string ByteArray.empty),false]/\w=w':=by
 have⟨A,f,h1,h2⟩:=h;exact aeD h1 x ak
def aer(size:J)(h1:1<=size)(h2:size<=4096)(w:aj):aB 83 #[aa size] w λe w'=>e=aV #[bM (w+1),aa 0]/\jL w' (w.heap.size+1) w size ([]:ai cl)/\Below w w w'/\w'.heap.size=w.heap.size+2:=by
 refine aS (aez size h1 h2 w) ?_;rintro w' ⟨a,b⟩;exact⟨rfl,⟨_,0,a,λt aW=>absurd aW (lD _)⟩,b⟩
end
def aew(w:aj):aB 82 #[.pointer none] w λe w'=>e=aa 0/\w=w':=by
 exact er
def NU(x:U)(w:aj):aB 165 #[.pointer none,aa x] w λe w'=>e=aV #[(Value.string ByteArray.empty),false]/\w=w':=by
 exact qV
def aex(x:U)(w:aj):aB 164 #[.pointer none,aa x] w λe w'=>e=aV #[(Value.string ByteArray.empty),false]/\w=w':=by
 refine cg;refine(NU x w).mono ?_;rintro e w' ⟨rfl,rfl⟩;go_wp2;exact qX
structure dd where
 a:ai cl
 b:ai cl
 lost:U
def dd.get(s:dd)(toq:U):ai cl:=if toq=0 then s.a else s.b
def dd.put(s:dd)(toq:U)(L:ai cl):dd:=if toq=0 then {s with a:=L}else {s with b:=L}
def jy(toq:U):ae:=toq=0\/toq=1
instance (toq:U):Decidable (jy toq):=by unfold jy;infer_instance
def sJ(c:J)(toq:U):J:=if toq=0 then c+2 else c+4
def tQ(c:J)(toq:U):J:=if toq=0 then c+1 else c+3
def iG(c:J)(b:J):ae:=c<=b/\b<=c+4
structure fK(w:aj)(c most:J)(s:dd):ae where
 head:w.heap[c]?=some (ab #[.pointer (some (eo (c+2) 0 db)),.pointer (some (eo (c+4) 0 db)),aa s.lost] 184 (0,0))
 yO:jL w (c+2) (c+1) most s.a
 oK:jL w (c+4) (c+3) most s.b
theorem fK.keeps{w w':aj}{c most:J}{s:dd}(h:fK w c most s)(hk:ag S w w')(aA:∀ b,iG c b->¬ S b):fK w' c most s:=
 ⟨hk.heap h.head (aA c ⟨I,I⟩),h.yO.keeps hk (aA _ ⟨I,I⟩) (aA _ ⟨I,I⟩),h.oK.keeps hk (aA _ ⟨I,I⟩) (aA _ ⟨I,I⟩)⟩
section
variable{w w':aj}{c most:J}{s:dd}
def fK.ring(h:fK w c most s)(toq:U):jL w (sJ c toq) (tQ c toq) most (s.get toq):=by
 unfold sJ tQ dd.get;split
 .exact h.yO
 exact h.oK
theorem fK.put(h:fK w c most s)(toq:U){L:ai cl}(a:jL w' (sJ c toq) (tQ c toq) most L)(hk:ag (λb=>b=sJ c toq\/b=tQ c toq) w w'):fK w' c most (s.put toq L):=by
 unfold sJ tQ at a hk;unfold dd.put;split
 .rename_i e;simp only[e,if_true]at a hk;exact⟨hk.heap h.head I,a,h.oK.keeps hk I I⟩
 rename_i e;simp only[e,if_false]at a hk;exact⟨hk.heap h.head I,h.yO.keeps hk I I,a⟩
def Lk(c:J)(toq:U)(b:J)(h:b=sJ c toq\/b=tQ c toq):iG c b:=by
 unfold sJ tQ at h;unfold iG;split at h<;>omega
def X'(h:fK w c most s)(toq:U)(aW:jy toq):aB 81 #[c,aa toq] w λe w'=>e=.returned (bM (sJ c toq))/\w=w':=by
 have bw:=aX h.head;rcases aW with rfl|rfl
 .exact er
 exact er
def Ya(c:J)(toq:U)(aW:¬ jy toq)(w:aj):aB 81 #[c,aa toq] w λe w'=>e=.returned (.pointer none)/\w=w':=by
 unfold jy at aW;by_cases a:toq<0
 .clear aW;exact er
 have h1:2<=toq:=I;exact er
def hB(s:dd)(toq i:U):cr cl:=if jy toq/\0<=i then(s.get toq)[i.toNat]? else none
def hb(s:dd)(toq i:U):dd:=if jy toq/\0<=i then s.put toq ((s.get toq).eraseIdx i.toNat)else s
def Gz(o:cr cl):ay:=.string (o.getD ByteArray.empty)
def dd.FR(s:dd)(toq:U):s.put toq (s.get toq)=s:=by unfold dd.put dd.get;split<;>rfl
def Em(aW:jy toq)(h:i<0\/((s.get toq).length:U)<=i):hB s toq i=none/\hb s toq i=s:=by
 unfold hB hb;by_cases a:0<=i
 .have:(s.get toq).length<=i.toNat:=I
  rw[aD ⟨aW,a⟩,aD ⟨aW,a⟩,eraseIdx_of_length_le this,dd.FR];exact⟨by simpa using this,rfl⟩
 rw[az (λh=>a h.2),az (λh=>a h.2)];exact o9
def X5(h:fK w c most s)(toq i:U):aB 99 #[c,aa toq,aa i] w λe w'=>e=aV #[Gz (hB s toq i),.bool (hB s toq i).isSome]/\∃ q,w'=w.drewN q:=by
 by_cases aW:jy toq
 .by_cases av:0<=i/\i<(s.get toq).length
  .refine RR;rw[a];refine tw;refine aS (aeo (h.ring toq) k _ rfl _ ((show(s.get toq)[k]?=some (s.get toq)[k]by simp))) ?_;rintro w' ⟨q,rfl⟩;exact Jg
  have b:i<0\/((s.get toq).length:U)<=i:=I;rw[(Em aW b).1];refine tw;refine bJ (aep (h.ring toq) i b) ?_;go_wp2;go_ret2;exact⟨rfl,0,rfl⟩
 have a:hB s toq i=none:=by unfold hB;rw[az (λh=>aW h.1)]
 rw[a];refine Dm;refine bJ (NU i w) ?_;go_wp2;go_ret2;exact⟨rfl,0,rfl⟩
def vR(h:fK w c most s)(toq i:U):aB 98 #[c,aa toq,aa i] w λe w'=>e=aV #[Gz (hB s toq i),.bool (hB s toq i).isSome]/\fK w' c most (hb s toq i)/\ag (iG c) w w':=by
 by_cases aW:jy toq
 .by_cases av:0<=i/\i<(s.get toq).length
  .refine RR;have d:hb s toq k=s.put toq ((s.get toq).eraseIdx k):=by unfold hb;rw[aD ⟨aW,av.1⟩];rfl
   rw[a,d];refine tw;refine aS (aeu (h.ring toq) k _ rfl _ ((show(s.get toq)[k]?=some (s.get toq)[k]by simp))) ?_;rintro w' ⟨j,hk⟩;go_wp2;exact Vg
  have b:i<0\/((s.get toq).length:U)<=i:=I;rw[(Em aW b).1,(Em aW b).2];refine tw;refine bJ (aev (h.ring toq) i b) ?_;go_wp2;go_ret2;exact xL
 have a:hB s toq i=none:=by unfold hB;rw[az (λh=>aW h.1)]
 have d:hb s toq i=s:=by unfold hb;rw[az (λh=>aW h.1)]
 rw[a,d];refine Dm;refine bJ (aex i w) ?_;go_wp2;go_ret2;exact xL
def yw(s:dd)(toq:U):U:=if jy toq then((s.get toq).length:U)else 0
def X7(h:fK w c most s)(toq:U):aB 54 #[c,aa toq] w λe w'=>e=aa (yw s toq)/\w=w':=by
 unfold yw;by_cases aW:jy toq
 .rw[aD aW];refine tw;refine bJ (aeq (h.ring toq)) ?_;exact iZ
 rw[az aW];refine Dm;refine bJ (aew w) ?_;exact iZ
theorem fK.O0(h:fK w c most s)(n:U):fK (w.setCell (ah c 2) (aa n)) c most {s with lost:=n}:=
 ⟨by simpa using bX h.head 2 (aa n),h.yO.keeps (S:=λb=>b=c) ((ag.refl (λb=>b=c) w).setCell (p:=ah c 2) rfl _) I I,h.oK.keeps (S:=λb=>b=c) ((ag.refl (λb=>b=c) w).setCell (p:=ah c 2) rfl _) I I⟩
def m_(s:dd)(toq i:U):dd:=if (hB s toq i).isSome then {hb s toq i with lost:=s.lost+1}else s
def GB(s:dd)(toq i:U):(hb s toq i).lost=s.lost:=by unfold hb dd.put;split<;>(try split)<;>rfl
def GC(h:hB s toq i=none):hb s toq i=s:=by
 unfold hB at h;unfold hb;split
 .rename_i an;rw[aD an]at h;rw[eraseIdx_of_length_le j0,dd.FR]
 rfl
def X6(h:fK w c most s)(a:0<=s.lost/\s.lost<=1000000)(toq i:U):aB 101 #[c,aa toq,aa i] w λe w'=>e=.returned (.bool (hB s toq i).isSome)/\fK w' c most (m_ s toq i)/\ag (iG c) w w':=by
 have C:=ad (vR h toq i);unfold m_;cases an:(hB s toq i)with
 | none=>
  rw[an,(GC an)]at C
  go_in
  refine tD;rintro aF ⟨h2,bK⟩;refine fB;exact⟨rfl,h2,bK⟩
 | some v=>
  rw[an]at C
  go_in
  refine tD;rintro aF ⟨h2,bK⟩;have bB:aF.cell? (ah c 2)=some (aa s.lost):=by rw[<-(GB s toq i)];exact bb h2.head rfl
  have f2:=bV h2.head;refine fB;exact⟨rfl,h2.O0 _,bK.setCell (p:=ah c 2) ⟨aM,aM⟩ _⟩
end
def wJ(t:cl):ae:=0<t.size/\t.size<=256
instance (t:cl):Decidable (wJ t):=by unfold wJ;infer_instance
def rM(toq:U)(t:cl):U:=if ¬ jy toq\/t.size=0 then 1 else if 256<t.size then 5 else 0
def uq(s:dd)(most:J)(toq:U)(t:cl):aY:=decide (jy toq/\wJ t/\(s.get toq).length<most)
def iK(s:dd)(most:J)(toq:U)(t:cl):dd:=if jy toq/\wJ t then(if (s.get toq).length<most then s.put toq (s.get toq++[t])else {s with lost:=s.lost+1})else s
section
variable{w w':aj}{c m most:J}{s:dd}
def Y7(t:cl)(h:t.size=0):t.toList.isEmpty=true:=by
 rw[ze,show t.data.toList=[]from p0.1 j0];rfl
def adt(t:cl)(h:0<t.size):t.toList.isEmpty=false:=by
 rw[ze];cases hd:t.data.toList with
 | nil=>
  have h1:t.data.toList.length=t.size:=aM;rw[hd]at h1;simp at h1;omega
 | cons a l=>rfl
def Gg{t:cl}(h:¬ (jy toq/\wJ t)):uq s most toq t=false/\iK s most toq t=s:=by
 unfold uq iK;rw[az h];exact⟨by simp;exact λh1 h2=>absurd ⟨h1,h2⟩ h,rfl⟩
def X8(h:fK w c most s)(m:0<=s.lost/\s.lost<=1000000)(toq:U)(t:cl)(n:t.size<=maxLen):aB 61 #[c,aa toq,.string t] w λe w'=>e=aV #[(uq s most toq t),aa (rM toq t)]/\fK w' c most (iK s most toq t)/\ag (iG c) w w':=by
 by_cases aW:jy toq
 .by_cases g:t.size=0
  .have a:rM toq t=1:=by unfold rM;rw[aD (.inr g)]
   have d:=Gg (s:=s) (most:=most) (toq:=toq) (t:=t) (λaT=>by have:=aT.2.1;omega);rw[a,d.1,d.2];have k:=Y7 t g;exact Tx
  have k:=adt t I;by_cases h1:256<t.size
  .have a:rM toq t=5:=by unfold rM;rw[az (by simp[aW,g]),aD h1]
   have d:=Gg (s:=s) (most:=most) (toq:=toq) (t:=t) (λaT=>by have:=aT.2.2;omega);rw[a,d.1,d.2];exact Tx
  have a:rM toq t=0:=by unfold rM;rw[az (by simp[aW,g]),az h1]
  have i:wJ t:=⟨I,I⟩;by_cases f:(s.get toq).length<most
  .have al:uq s most toq t=true:=by unfold uq;simp[aW,i,f]
   have an:iK s most toq t=s.put toq (s.get toq++[t]):=by unfold iK;rw[aD ⟨aW,i⟩,aD f]
   rw[a,al,an];refine tw;refine aS (aes (h.ring toq) f t) ?_;rintro w' ⟨j,hk⟩;refine aK;exact Vg
  have al:uq s most toq t=false:=by unfold uq;simp[f]
  have an:iK s most toq t={s with lost:=s.lost+1}:=by unfold iK;rw[aD ⟨aW,i⟩,az f]
  rw[a,al,an];have l:(s.get toq).length=most:=by have:=(h.ring toq).le.1;omega
  refine tw;refine aS (aet (h.ring toq) l t) ?_;rintro aF ⟨j,hk⟩;have h2:=h.put toq j hk;rw[dd.FR]at h2;have bB:=aX h2.head;have f2:=bV h2.head;refine aK;go_ret2;exact⟨rfl,h2.O0 _,(hk.mono (λb _ al=>Lk c toq b al)).setCell (p:=ah c 2) ⟨aM,aM⟩ _⟩
 have a:rM toq t=1:=by unfold rM;rw[aD (.inl aW)]
 have d:=Gg (s:=s) (most:=most) (toq:=toq) (t:=t) (λaT=>aW aT.1);rw[a,d.1,d.2];refine Dm;go_ret2;exact xL
end
section
variable{w w':aj}{c m most:J}{s:dd}
def J5(bo w:aj)(c most:J)(k:J):ae:=Below bo bo w/\bo.heap.size<=c/\
 ((k=0/\w.heap[c]?=some (ab #[.pointer none,.pointer none,aa 0] 184 (0,0))/\w.heap.size=c+1)\/
 (k=1/\w.heap[c]?=some (ab #[.pointer (some (eo (c+2) 0 db)),.pointer none,aa 0] 184 (0,0))/\jL w (c+2) (c+1) most ([]:ai cl)/\w.heap.size=c+3)\/
 (k=2/\fK w c most ⟨[],[],0⟩))
def KM(most:J)(h1:1<=most)(h2:most<=64)(w:aj):aB 57 #[aa most] w λe w'=>e=aV #[w.heap.size,aa 0]/\fK w' w most ⟨[],[],0⟩/\Below w w w':=by
 have j:=ad (show J5 w (w.alloc (ab #[.pointer none,.pointer none,aa 0] 184)) w most 0 from⟨(b9 _ w).alloc bu _,dm _,.inl ⟨rfl,aP _ _,aM⟩⟩)
 go_in
 go_wp2_with fail;go_loopw [16] (λi wr=>∃ k:J,k<=2/\i=aa k/\Hid (J5 w wr w most k)) (λi _=>2-(intOf i).toNat)
 case atStart=>exact⟨0,I,rfl,j⟩
 obtain⟨k,hk,rfl,l⟩:=hrel;obtain⟨bS,f,n⟩:=l.out;rcases n with⟨rfl,aT,aA⟩|⟨rfl,aT,m,aA⟩|⟨rfl,an⟩
 .refine Uv;have o:=ad aA;refine Ui;go_roundw
  case rel=>
   have hk:=(ag.refl (λb=>b=w) aF).setCell (p:=ah w 0) rfl (w.heap.size+2:J);refine⟨1,I,rfl,bS.trans ((a.mono I).setCell aM _),f,.inr (.inl ⟨rfl,bX c 0 (w.heap.size+2:J),d.keeps hk I I,?_⟩)⟩;rw[World.size_setCell,g]
  simp[intOf]
 .refine Uv;refine Ui;go_roundw
  case rel=>
   have hk:=(ag.refl (λb=>b=w) aF).setCell (p:=ah w 1) rfl (w.heap.size+4:J);exact⟨2,I,rfl,bS.trans ((a.mono I).setCell aM _),f,.inr (.inr ⟨rfl,⟨bX c 1 (w.heap.size+4:J),(m.keeps (S:=λb=>w.heap.size+3<=b) (ag.bU a (λ_ _ h=>h)) I I).keeps hk I I,d.keeps hk I I⟩⟩)⟩
  simp[intOf]
 refine aK;go_ret2;exact⟨rfl,an,bS⟩
end
end Go.Proofs.YtalagblioepadaaGreatDoor
