/- The proof, part 14. -/
import Derived.Test.YtalagblioepadaaGreatDoorZd08
import Derived.Test.YtalagblioepadaaGreatDoorZd07
import Derived.Test.YtalagblioepadaaGreatDoorZd03
import Derived.OwnWalkIn
import Derived.Shelf.RegionOpen
import Derived.LoopNIn
import Derived.LoopIn
import Derived.Deep.Cut
import Derived.RangeFuncBox
namespace Go.Proofs.YtalagblioepadaaGreatDoor
set_option linter.all false
open Proofs.Tryz List Go.RowKit
set_option maxRecDepth 100000
set_option maxHeartbeats 800000
def Ax{p:al}(h:p:=by have:=(ak x g).1;omega):p:=h
def pR{p:al}(h:p:=by simp only[maxLen];omega):p:=h
def vn{p:al}(h:p:=by have:=(d.lt k hk).1;omega):p:=h
def Av{p:al}(h:p:=by have:=(s.lt b ak).1;omega):p:=h
def xy{p:al}(h:p:=by simpa using b3 Q.out 0 _):p:=h
def xx{p:al}(h:p:=by have:=(d.lt _ e.symm).1;omega):p:=h
def OI{p:al}(h:p:=by
 go_wp2_with fail;refine bE (q1 h toq aK) ?_;go_wp2_with fail;go_ret2;exact⟨rfl,h,Keeps.refl _ _⟩
 ):p:=h
def MR{p:al}(h:p:=by
 go_ret2;exact⟨rfl,h.put toq j hk,hk.mono (λb _ ak=>Hd c toq b ak)⟩
 ):p:=h
section
attribute [local go_sem] Oper.semAt_some
variable{w:aj}{r B size first n:J}{A:ah aa}
def Wl(r:J)(w:aj):aA 310 #[r] w λe w'=>e=.returned (.func (.func 335) #[] #[w.heap.size])/\w.alloc (af #[r] 119)=w':=by
 go_in
 go_wp2;go_ret;exact⟨rfl,rfl⟩
def aaa{α:Type}(L:List α)(k:J)(h:k<L.length):L.zipIdx=L.zipIdx.take k++(L[k],k) :: L.zipIdx.drop (k+1)/\L.zipIdx.take (k+1)=L.zipIdx.take k++[(L[k],k)]:=by
 have h2:k<L.zipIdx.length:=by simpa using h
 have e:L.zipIdx[k]=(L[k],k):=aM;refine⟨?_,?_⟩
 .rw[<-e,<-pH h2,mo]
 rw[kY h2,e]
def O7{L:ah aa}(c:RingAt w r B size A first L.length)(E:Holds A first size L)(b:J)(Y:b<w.heap.size)(an:w.cell? (ae b 0 ad)=some (.pointer (some (ae r 0 ad))))(f:J->al)(i:¬ f b/\¬ f r/\¬ f B):p0 prog 335 #[b] (λp:aa×J=>#[I p.2,(aH p.1)]) L.zipIdx f (λ_=>False) w:=by
 intro l z W O hk a' C H d;subst O;have kn:=bT c.head;have gf:=bT c.body;have bR:=c.fi;have V:=c.most;refine gU.2 ?_
 go_in
 go_wp2_with fail
 go_loopw [3] (λv wr=>∃ k:J,k<=L.length/\v=I k/\wr.cell? (ae b 0 ad)=some (.pointer (some (ae r 0 ad)))/\RingAt wr r B size A first L.length/\z (L.zipIdx.take k) wr/\w.heap.size+2<=wr.heap.size)
  (λv _=>L.length-(intOf v).toNat)
 case atStart=>exact⟨0,de _,rfl,hk.cell an id,c.keeps hk id id,xB,U⟩
 obtain⟨k,Z,rfl,M,a,t,Q⟩:=hrel;by_cases u:k<L.length
 .obtain⟨R,S⟩:=aaa L k u;have s:A[(first+k)%size]?=some L[k]:=(E k u).trans aM;obtain⟨q,j⟩:∃ q,(first+k)%size=q:=⟨_,rfl⟩;rw[j]at s;have bz:=a.bz;have X:=a.cell s;have ab:=j▸e8 _ c.pos;have m:=ag j;go_upto_region 3 with((go_at_call 55;refine(CP a).mono ?_;rintro e w' ⟨rfl,rfl⟩))
  refine(oR (n:=0)).1 ?_;refine ZP (UQ _ _) 11 aI aI aI ?_;simp only[hY,iE,hX,hF]
  repeat (go_big_quiet_step ((go_at_call 283;first|exact Calls.quiet_of (uD (a.drew _) k q _ U U m.o)|exact hv (uD (a.drew _) k q _ U U m.o))))
  refine wpQuiet_nil ?_;intro _ x;obtain⟨nq,y⟩:=x;subst y;obtain⟨fn,tmps,assign,body,fr,G⟩:=H (L.zipIdx.take k) (L[k],k) (L.zipIdx.drop (k+1)) (wr.drewN nq) R (C _ _ _ t ((Keeps.refl _ wr).drewN nq));gi_wp2;refine⟨rfl,G.mono ?_⟩;rintro e T ⟨rfl,D,g⟩;have K:=g.cell (p:=ae b 0 ad) M (λh=>h.elim i.1 (λh=>m_));have F:=(a.drew nq).keeps g (λh=>h.elim i.2.1 a8) (λh=>h.elim i.2.2 a8);have P:=g.size;gi_wp2;go_wp2;go_roundw
  case rel=>exact⟨k+1,U,by go_num,K,F,by rw[S];exact D,ca Q P⟩
  simp[intOf];omega
 have N:L.zipIdx.take k=L.zipIdx:=nV b1;go_wp2_with ((go_at_call 55;refine(CP a).mono ?_;rintro e w' ⟨rfl,rfl⟩));go_end0;exact⟨⟨_,rfl⟩,by rw[<-N];exact t⟩
def Iw:(prog.info? 5).map (λi=>(i.zero,i.size,i.bytes))=some (some (aH 0),1,1):=aI
def zip_map(L:ah aa):L.zipIdx.map (λp=>(aH p.1))=L.map (λx=>(aH x)):=by
 have:(λp:aa×J=>((aH p.1):ay))=(λx=>(aH x)) ∘ Prod.fst:=rfl
 rw[this,<-map_map]
 congr 1
 exact zipIdx_map_fst 0 L
def Wg{L:ah aa}(i:RingAt w r B size A first L.length)(F:Holds A first size L):aA 263 #[r] w λe w'=>∃ a cap,e=.returned (aq a L.length cap)/\eb w' 1 a L.length cap (L.map λx=>(aH x))/\(∀ x,a=some x->w.heap.size<=x.block)/\Below w w w':=by
 obtain⟨T,ax,O,P,R⟩:=nP Iw;have kn:=bT i.head;have hd:=bT i.body;have bR:=i.fi;have V:=i.most;refine(gU (n:=0)).1 ?_;refine callsIn_of_wp_marks func263 rfl trivial ?_ rfl;simp only[ntmps263,hh,dy,fg,Nat.reduceAdd,Nat.reduceSub,s5,s6,tb,s8,nT,kV];gi_wp2_with (fail);refine⟨trivial,rfl,gU.2 ((Wl r _).mono ?_)⟩;rintro e aD ⟨rfl,N⟩;gi_wp2_with (fail);subst N
 have G:RingAt ((w.alloc (af #[aq none 0 0] 51)).alloc (af #[r] 119)) r B size A first L.length:=
  i.keeps (S:=aG) (((Keeps.refl _ w).alloc _).alloc _) id id
 refine DF (gf:=335) (lb:=#[.pointer (some (ae (w+1) 0 ad))]) rfl (enters_of func335 aI rfl)
  (λ_=>rfl) L.zipIdx (λk=>k=w.heap.size\/w.heap.size+3<k) (λ_=>False)
  (O7 G F (w.heap.size+1) aM (by go_simp) _ ⟨U,U,U⟩)
  b1 aM
  (λpre W=>(∃ v,W.heap[w.heap.size]?=some (af #[v] 51 (0,0))/\W.ownsRow (w.heap.size+4) 5 1 v pre.length (pre.map λp=>(aH p.1)))/\Below w w W/\w.heap.size+2<=W.heap.size)
  (λpre A B ⟨⟨v,f,d⟩,c,q⟩ fr hk=>⟨⟨v,hk.heap f (λh=>m_),b5 d hk (λb ak h=>by have:=(d.lt b ak).1;simp at h;omega)⟩,c.trans (hk.below c.size (λk h1 h2=>by simp at h2;omega)),ca q hk.size⟩)
  ⟨⟨_,cw (aX _ _) _,gx _ _ _ _⟩,((b7 _ w).alloc bx _).alloc aM _,aM⟩
  (λx=>{tmps:=#[.pointer (some (ae r 0 ad)),undef,aq none 0 0,.pointer (some (ae w 0 ad)),undef,(aH x.1),.pointer (some (ae r 0 ad)),.func (.func 335) #[] #[.pointer (some (ae (w+1) 0 ad))],I x.2,(aH x.1),undef,undef,undef,undef,undef],defers:=[]})
  ?assign ?body ?done
 case assign=>
  intro l x W K E;gi_wp2;exact E
 case body=>
  rintro l pre x rest j ab g ⟨⟨v,f,d⟩,c,q⟩ M;have H:=c5 length g;simp at H;have a':pre.length+1<=4096:=U;have C:=jN f;have Y:=nO f;have z:=ag f;gi_wp2_with (gi_at_builtin;refine wpListIn_append_own _ rfl _ _ 51 rfl (w.heap.size+4) 5 T (aH 0) 1 1 underlying51 ax O P R rfl bt _ _ _ rfl (d.alloc _) (ae j 0 ad) 1 1 [(aH x.1)] rfl rfl (oQ _ _ _) mZ pR U (by simp at M⊢;omega) ?_;intro v' ao s m _;have t:Keeps (λk=>k=w.heap.size\/w.heap.size+3<k) j ao:=((Keeps.refl _ j).alloc _).grown m (λk hk=>.inl (.inr vn));obtain⟨g',y,rfl⟩:=ownsRow_succ s;have h2:=(m.block w.heap.size b1 (λe=>xx)).trans (cw z.o _);have X:=jN h2;have Z:=nO h2;have Q:=ag h2;clear h2 m);have u:=t.setCell (p:=ae w 0 ad) (.inl rfl) (aq (some (ae g' 0 ad)) (pre.length+1) y);refine⟨u,⟨_,xy,b5 s ((Keeps.refl (λk=>k=w) ao).setCell (p:=ae w 0 ad) rfl _) (λb ak h=>Av)⟩,c.trans (u.below c.size a8),?_⟩
  have:=t.size
  omega
 rintro W ⟨⟨v,f,d⟩,c,q⟩ D;have C:=jN f;rw[length_zipIdx,zip_map]at d;obtain⟨a,cap,rfl,aU,ak⟩:=cS d;gi_wp2;refine⟨aM,.inl ⟨_,_,rfl,run_takeDeferred D,?_⟩⟩;refine⟨_,zV rfl _ _ _,a,cap,rfl,aU.keeps (S:=λk=>k=w.heap.size+2) ((Keeps.refl _ W).putObj aM _) (λ_ x g=>Ax),λx g=>Ax,?_⟩;exact c.trans (((Keeps.refl (λk=>w.heap.size<=k) W).putObj b1 _).below c.size a8)
def Wh(size:J)(h1:1<=size)(h2:size<=4096)(w:aj):aA 195 #[I size] w λe w'=>e=aY #[.pointer (some (ae (w+1) 0 ad)),I 0]/\RingAt w' (w.heap.size+1) w.heap.size size (replicate size 0) 0 0/\Below w w w'/\w'.heap.size=w.heap.size+2:=by
 have⟨g,ax,c,f,d⟩:=nP Iw;have hd:decide (1<=(size:aa)/\(size:aa)<=4096)=true:=b1;have b:=run_make (P:=prog) w 51 5 g (aH 0) underlying51 ax c .i64 .i64 size size U (jw _) vu U;have a:madeCells ((aH 0):ay).cells size=((replicate size (0:aa)).map λx=>(aH x)).toArray:=by
  apply DR.1;rw[show((aH 0):ay).cells=#[(aH 0)]from rfl,Mf];simp
 rw[f,rN,Ak,a]at b
 go_in
 go_wp2_with fail;refine bE (za size w) ?_;rw[hd];go_wp2;go_ret2;refine⟨rfl,⟨?_,?_,aM,h1,h2,U,U,U⟩,((b7 _ w).alloc bx _).alloc aM _,aM⟩
 .have:=aX (w.alloc (af ((replicate size (0:aa)).map λx=>(aH x)).toArray 5)) (af #[aq (some (ae w 0 ad)) size size,I 0,I 0] 181)
  simpa using this
 have:=cw (aX w (af ((replicate size (0:aa)).map λx=>(aH x)).toArray 5)) (af #[aq (some (ae w 0 ad)) size size,I 0,I 0] 181)
 simpa using this
end
section
attribute [local go_sem] Oper.semAt_some
def lh(L:ah aa):ah ay:=L.map λx=>I x
def SX:(prog.info? 3).map (λi=>(i.zero,i.size,i.bytes))=some (some (I 0),1,8):=aI
variable{w:aj}
def Xz{α:Type}(g:α->aa)(gf:J)(lb:a7 ay)(D:∀ args w,(callFunc gf args).run prog w=.ok (.enter gf args) w)(L:List α)(T:L.length<=4096)(E:p0 prog gf lb (λx:α=>#[I (g x)]) L (λk=>k=w.heap.size\/w.heap.size+2<k) (λ_=>False) (w.alloc (af #[aq none 0 0] 141))):aA 124 #[aq none 0 0,.func (.func gf) #[] lb] w λe w'=>∃ v,e=.returned v/\w'.ownsRow (w.heap.size+3) 3 1 v L.length (lh (L.map g))/\Below w w w':=by
 obtain⟨P,ax,M,N,O⟩:=nP SX;refine(gU (n:=0)).1 ?_;refine callsIn_of_wp_marks func124 rfl trivial ?_ rfl;simp only[ntmps124,hh,dy,fg,Nat.reduceAdd,Nat.reduceSub,s5,s6,tb,s8,nT,kV];gi_wp2_with (fail)
 refine DF (gf:=gf) (lb:=lb) rfl D (λ_=>rfl) L (λk=>k=w.heap.size\/w.heap.size+2<k) (λ_=>False) E
  b1 aM
  (λpre W=>(∃ v,W.heap[w.heap.size]?=some (af #[v] 141 (0,0))/\W.ownsRow (w.heap.size+3) 3 1 v pre.length (lh (pre.map g)))/\Below w w W/\w.heap.size+1<=W.heap.size)
  (λpre A B ⟨⟨v,f,d⟩,c,m⟩ X hk=>⟨⟨v,hk.heap f (λh=>m_),b5 d hk (λb ak h=>by have:=(d.lt b ak).1;simp at h;omega)⟩,c.trans (hk.below c.size (λk h1 h2=>by simp at h2;omega)),ca m hk.size⟩)
  ⟨⟨_,aX _ _,gx _ _ _ _⟩,(b7 _ w).alloc bx _,aM⟩
  (λx=>{tmps:=#[aq none 0 0,.func (.func gf) #[] lb,.pointer (some (ae w 0 ad)),undef,aq none 0 0,I (g x),.func (.func gf) #[] lb,I (g x),undef,undef,undef,undef,undef],defers:=[]})
  ?assign ?body ?done
 case assign=>
  intro l x W K C;gi_wp2;exact C
 case body=>
  rintro l pre x rest i V H ⟨⟨v,f,d⟩,c,m⟩ G;have F:=c5 length H;simp at F;have y:=jN f;have u:=ag f;gi_wp2_with (gi_at_builtin;refine wpListIn_append_own _ rfl _ _ 141 rfl (w.heap.size+3) 3 P (I 0) 1 8 underlying141 ax M N O rfl bt _ _ _ rfl (d.alloc _) (ae i 0 ad) 1 1 [I (g x)] rfl rfl (oQ _ _ _) mZ pR U (by simp at G⊢;omega) ?_;intro v' ao s j _;have q:Keeps (λk=>k=w.heap.size\/w.heap.size+2<k) i ao:=((Keeps.refl _ i).alloc _).grown j (λk hk=>.inl (.inr vn));obtain⟨g',t,rfl⟩:=ownsRow_succ s;have h2:=(j.block w.heap.size b1 (λe=>xx)).trans (cw u.o _);have R:=jN h2;have S:=nO h2;have Q:=ag h2;clear h2 j);have r:=q.setCell (p:=ae w 0 ad) (.inl rfl) (aq (some (ae g' 0 ad)) (pre.length+1) t);refine⟨r,⟨_,xy,by simpa[lh]using b5 s ((Keeps.refl (λk=>k=w) ao).setCell (p:=ae w 0 ad) rfl _) (λb ak h=>Av)⟩,c.trans (r.below c.size a8),?_⟩
  have:=q.size
  omega
 rintro W ⟨⟨v,f,d⟩,c,m⟩ z;have y:=jN f;obtain⟨a,cap,rfl,aU,ak⟩:=cS d;gi_wp2;refine⟨aM,.inl ⟨_,_,rfl,run_takeDeferred z,?_⟩⟩;refine⟨_,zV rfl _ _ _,_,rfl,b5 d ((Keeps.refl (λk=>k=w+1) W).putObj aM _) (λb ak h=>by have:=(d.lt b ak).1;omega),?_⟩;exact c.trans (((Keeps.refl (λk=>w.heap.size<=k) W).putObj aM _).below c.size a8)
def KC{α:Type}(g:α->aa)(gf:J)(lb:a7 ay)(b:∀ args w,(callFunc gf args).run prog w=.ok (.enter gf args) w)(L:List α)(a:L.length<=4096)(c:p0 prog gf lb (λx:α=>#[I (g x)]) L (λk=>k=w.heap.size\/w.heap.size+2<k) (λ_=>False) (w.alloc (af #[aq none 0 0] 141))):aA 78 #[.func (.func gf) #[] lb] w λe w'=>∃ v,e=.returned v/\w'.ownsRow (w.heap.size+3) 3 1 v L.length (lh (L.map g))/\Below w w w':=by
 go_in
 go_wp2_with fail;refine(Xz g gf lb b L a c).mono ?_;rintro e w' ⟨v,rfl,d,ak⟩;go_wp2;go_ret;exact⟨_,rfl,d,ak⟩
end
section
def kh(w:aj)(r B size:J)(L:ah aa):al:=∃ A first,RingAt w r B size A first L.length/\Holds A first size L
variable{w:aj}{r B size:J}{L:ah aa}
def kh.keeps{w':aj}{S:J->al}(h:kh w r B size L)(hk:Keeps S w w')(b:¬ S r)(a:¬ S B):kh w' r B size L:=by
 exact EF
def kh.le(h:kh w r B size L):L.length<=size/\1<=size/\size<=4096/\r<w.heap.size/\B<w.heap.size/\r≠B:=by
 exact EB
def wm(h:kh w r B size L):aA 55 #[r] w λe w'=>e=.returned (I L.length)/\w=w':=by
 have⟨A,f,h1,h2⟩:=h;exact CP h1
def Tf(h:kh w r B size L)(av:L.length<size)(v:aa):aA 217 #[r,(aH v)] w λe w'=>e=.returned (I 0)/\kh w' r B size (L++[v])/\Keeps (λb=>b=r\/b=B) w w':=by
 obtain⟨A,f,h1,h2⟩:=h;refine aW (Wj h1 av _ rfl v) ?_;rintro w' ⟨a,c⟩;exact⟨rfl,⟨_,f,tl,h2.push h1.fst h1.gX av v⟩,c⟩
def Tg(h:kh w r B size L)(av:L.length=size)(v:aa):aA 217 #[r,(aH v)] w λe w'=>e=.returned (I 8)/\kh w' r B size L/\Keeps (λb=>b=r\/b=B) w w':=by
 obtain⟨A,f,h1,h2⟩:=h;refine aW (Wk h1 av v) ?_;rintro w' ⟨m,rfl⟩;exact⟨rfl,⟨_,f,h1.drew m,h2⟩,(Keeps.refl _ w).drewN m⟩
def Te{v:aa}(h:kh w r B size (v :: L)):aA 333 #[r] w λe w'=>e=aY #[(aH v),true]/\kh w' r B size L/\Keeps (λb=>b=r\/b=B) w w':=by
 obtain⟨A,f,h1,h2⟩:=h;have d:=h2 0 aM;rw[rV,jy h1.fst]at d;refine aW (Wi h1 aM _ rfl v xB) ?_;rintro w' ⟨a,c⟩;exact⟨rfl,⟨_,_,tl,h2.pop h1.fst h1.fi aM _⟩,c⟩
def Tc(h:kh w r B size L):aA 263 #[r] w λe w'=>∃ a cap,e=.returned (aq a L.length cap)/\eb w' 1 a L.length cap (L.map λx=>(aH x))/\(∀ x,a=some x->w.heap.size<=x.block)/\Below w w w':=by
 have⟨A,f,h1,h2⟩:=h;exact Wg h1 h2
def Td(size:J)(h1:1<=size)(h2:size<=4096)(w:aj):aA 195 #[I size] w λe w'=>e=aY #[.pointer (some (ae (w+1) 0 ad)),I 0]/\kh w' (w.heap.size+1) w.heap.size size ([]:ah aa)/\Below w w w'/\w'.heap.size=w.heap.size+2:=by
 refine aW (Wh size h1 h2 w) ?_;rintro w' ⟨a,b⟩;exact⟨rfl,⟨_,0,a,λt aK=>absurd aK (kZ _)⟩,b⟩
end
section
attribute [local go_sem] Oper.semAt_some
variable{w:aj}{r B size first n:J}{A:ah ch}
def Vy:(prog.info? 9).map (λi=>(i.zero,i.size,i.bytes))=some (some (Value.string ByteArray.empty),1,16):=aI
def VJ(size:J)(h1:1<=size)(h2:size<=4096)(w:aj):aA 83 #[I size] w λe w'=>e=aY #[.pointer (some (ae (w+1) 0 ad)),I 0]/\QRingAt w' (w.heap.size+1) w.heap.size size (replicate size ByteArray.empty) 0 0/\Below w w w'/\w'.heap.size=w.heap.size+2:=by
 have⟨g,ax,c,f,d⟩:=nP Vy;have hd:decide (1<=(size:aa)/\(size:aa)<=4096)=true:=b1;have b:=run_make (P:=prog) w 33 9 g (Value.string ByteArray.empty) underlying33 ax c .i64 .i64 size size U (jw _) vu U;have a:madeCells ((Value.string ByteArray.empty):ay).cells size=((replicate size (ByteArray.empty:ch)).map λx=>(Value.string x)).toArray:=by
  apply DR.1;rw[show((Value.string ByteArray.empty):ay).cells=#[(Value.string ByteArray.empty)]from rfl,Mf];simp
 rw[f,rN,Ak,a]at b
 go_in
 go_wp2_with fail;refine bE (VO size w) ?_;rw[hd];go_wp2;go_ret2;refine⟨rfl,⟨?_,?_,aM,h1,h2,U,U,U⟩,((b7 _ w).alloc bx _).alloc aM _,aM⟩
 .have:=aX (w.alloc (af ((replicate size (ByteArray.empty:ch)).map λx=>(Value.string x)).toArray 9)) (af #[aq (some (ae w 0 ad)) size size,I 0,I 0] 239)
  simpa using this
 have:=cw (aX w (af ((replicate size (ByteArray.empty:ch)).map λx=>(Value.string x)).toArray 9)) (af #[aq (some (ae w 0 ad)) size size,I 0,I 0] 239)
 simpa using this
end
section
def iS(w:aj)(r B size:J)(L:ah ch):al:=∃ A first,QRingAt w r B size A first L.length/\Holds A first size L
variable{w:aj}{r B size:J}{L:ah ch}
def iS.keeps{w':aj}{S:J->al}(h:iS w r B size L)(hk:Keeps S w w')(b:¬ S r)(a:¬ S B):iS w' r B size L:=by
 exact EF
def iS.le(h:iS w r B size L):L.length<=size/\1<=size/\size<=4096/\r<w.heap.size/\B<w.heap.size/\r≠B:=by
 exact EB
def VB(h:iS w r B size L):aA 82 #[r] w λe w'=>e=.returned (I L.length)/\w=w':=by
 have⟨A,f,h1,h2⟩:=h;exact VI h1
def Vz(h:iS w r B size L)(i:J)(x:aa)(a:x=i)(v:ch)(aU:L[i]?=some v):aA 165 #[r,I x] w λe w'=>e=aY #[(Value.string v),true]/\∃ m,w'=w.drewN m:=by
 obtain⟨A,f,h1,h2⟩:=h;have ax:=(hD.1 aU).1;exact JR h1 i _ x a ax rfl v ((h2 i ax).trans aU)
def VA(h:iS w r B size L)(x:aa)(a:x<0\/(L.length:aa)<=x):aA 165 #[r,I x] w λe w'=>e=aY #[(Value.string ByteArray.empty),false]/\w=w':=by
 have⟨A,f,h1,h2⟩:=h;exact JS h1 x a
def VC(h:iS w r B size L)(av:L.length<size)(v:ch):aA 95 #[r,(Value.string v)] w λe w'=>e=.returned (I 0)/\iS w' r B size (L++[v])/\Keeps (λb=>b=r\/b=B) w w':=by
 obtain⟨A,f,h1,h2⟩:=h;refine aW (VK h1 av _ rfl v) ?_;rintro w' ⟨a,c⟩;exact⟨rfl,⟨_,f,tl,h2.push h1.fst h1.gX av v⟩,c⟩
def VD(h:iS w r B size L)(av:L.length=size)(v:ch):aA 95 #[r,(Value.string v)] w λe w'=>e=.returned (I 8)/\iS w' r B size L/\Keeps (λb=>b=r\/b=B) w w':=by
 obtain⟨A,f,h1,h2⟩:=h;refine aW (VL h1 av v) ?_;rintro w' ⟨m,rfl⟩;exact⟨rfl,⟨_,f,h1.drew m,h2⟩,(Keeps.refl _ w).drewN m⟩
def VE(h:iS w r B size L)(i:J)(x:aa)(d:x=i)(v:ch)(aU:L[i]?=some v):aA 164 #[r,I x] w λe w'=>e=aY #[(Value.string v),true]/\iS w' r B size (L.eraseIdx i)/\Keeps (λb=>b=r\/b=B) w w':=by
 obtain⟨A,f,h1,h2⟩:=h;have ax:=(hD.1 aU).1;refine aW (VM h1 h2 i x d ax v aU) ?_;rintro w' ⟨hk,cG,a,c⟩;exact⟨rfl,⟨cG,f,by rw[length_eraseIdx_of_lt ax];exact a,c⟩,hk⟩
def VF(h:iS w r B size L)(x:aa)(a:x<0\/(L.length:aa)<=x):aA 164 #[r,I x] w λe w'=>e=aY #[(Value.string ByteArray.empty),false]/\w=w':=by
 have⟨A,f,h1,h2⟩:=h;exact VN h1 x a
def JP(size:J)(h1:1<=size)(h2:size<=4096)(w:aj):aA 83 #[I size] w λe w'=>e=aY #[.pointer (some (ae (w+1) 0 ad)),I 0]/\iS w' (w.heap.size+1) w.heap.size size ([]:ah ch)/\Below w w w'/\w'.heap.size=w.heap.size+2:=by
 refine aW (VJ size h1 h2 w) ?_;rintro w' ⟨a,b⟩;exact⟨rfl,⟨_,0,a,λt aK=>absurd aK (kZ _)⟩,b⟩
end
def VG(w:aj):aA 82 #[.pointer none] w λe w'=>e=.returned (I 0)/\w=w':=by
 go_in
 go_wp2;go_ret;exact⟨rfl,rfl⟩
def JQ(x:aa)(w:aj):aA 165 #[.pointer none,I x] w λe w'=>e=aY #[(Value.string ByteArray.empty),false]/\w=w':=by
 go_in
 go_wp2;go_ret2;exact⟨rfl,rfl⟩
def VH(x:aa)(w:aj):aA 164 #[.pointer none,I x] w λe w'=>e=aY #[(Value.string ByteArray.empty),false]/\w=w':=by
 go_in
 go_wp2_with fail;refine(JQ x w).mono ?_;rintro e w' ⟨rfl,rfl⟩;go_wp2;go_ret2;exact⟨rfl,rfl⟩
structure cY where
 a:ah ch
 b:ah ch
 lost:aa
def cY.get(s:cY)(toq:aa):ah ch:=if toq=0 then s.a else s.b
def cY.put(s:cY)(toq:aa)(L:ah ch):cY:=if toq=0 then {s with a:=L}else {s with b:=L}
def iJ(toq:aa):al:=toq=0\/toq=1
instance (toq:aa):Decidable (iJ toq):=by unfold iJ;infer_instance
def q9(c:J)(toq:aa):J:=if toq=0 then c+2 else c+4
def sf(c:J)(toq:aa):J:=if toq=0 then c+1 else c+3
def ht(c:J)(b:J):al:=c<=b/\b<=c+4
structure eY(w:aj)(c most:J)(s:cY):al where
 head:w.heap[c]?=some (af #[.pointer (some (ae (c+2) 0 ad)),.pointer (some (ae (c+4) 0 ad)),I s.lost] 184 (0,0))
 wI:iS w (c+2) (c+1) most s.a
 nz:iS w (c+4) (c+3) most s.b
theorem eY.keeps{w w':aj}{c most:J}{s:cY}{S:J->al}(h:eY w c most s)(hk:Keeps S w w')(aw:∀ b,ht c b->¬ S b):eY w' c most s:=
 ⟨hk.heap h.head (aw c ⟨U,U⟩),h.wI.keeps hk (aw _ ⟨U,U⟩) (aw _ ⟨U,U⟩),h.nz.keeps hk (aw _ ⟨U,U⟩) (aw _ ⟨U,U⟩)⟩
section
variable{w w':aj}{c most:J}{s:cY}
def eY.ring(h:eY w c most s)(toq:aa):iS w (q9 c toq) (sf c toq) most (s.get toq):=by
 unfold q9 sf cY.get;split
 .exact h.wI
 exact h.nz
theorem eY.put(h:eY w c most s)(toq:aa){L:ah ch}(a:iS w' (q9 c toq) (sf c toq) most L)(hk:Keeps (λb=>b=q9 c toq\/b=sf c toq) w w'):eY w' c most (s.put toq L):=by
 unfold q9 sf at a hk;unfold cY.put;split
 .rename_i e;simp only[e,if_true]at a hk;exact⟨hk.heap h.head U,a,h.nz.keeps hk U U⟩
 rename_i e;simp only[e,if_false]at a hk;exact⟨hk.heap h.head U,h.wI.keeps hk U U,a⟩
def Hd(c:J)(toq:aa)(b:J)(h:b=q9 c toq\/b=sf c toq):ht c b:=by
 unfold q9 sf at h;unfold ht;split at h<;>omega
def q1(h:eY w c most s)(toq:aa)(aK:iJ toq):aA 81 #[c,I toq] w λe w'=>e=.returned (.pointer (some (ae (q9 c toq) 0 ad)))/\w=w':=by
 have bz:=aO h.head;rcases aK with rfl|rfl
 .go_in
  go_wp2;go_ret;exact⟨rfl,rfl⟩
 go_in
 go_wp2;go_ret;exact⟨rfl,rfl⟩
def xY(c:J)(toq:aa)(aK:¬ iJ toq)(w:aj):aA 81 #[c,I toq] w λe w'=>e=.returned (.pointer none)/\w=w':=by
 unfold iJ at aK;by_cases a:toq<0
 .clear aK
  go_in
  go_wp2;go_ret;exact⟨rfl,rfl⟩
 have h1:2<=toq:=U
 go_in
 go_wp2;go_ret;exact⟨rfl,rfl⟩
def fX(s:cY)(toq i:aa):b_ ch:=if iJ toq/\0<=i then(s.get toq)[i.toNat]? else none
def fS(s:cY)(toq i:aa):cY:=if iJ toq/\0<=i then s.put toq ((s.get toq).eraseIdx i.toNat)else s
def Df(o:b_ ch):ay:=.string (o.getD ByteArray.empty)
def cY.CF(s:cY)(toq:aa):s.put toq (s.get toq)=s:=by unfold cY.put cY.get;split<;>rfl
def A'{toq i:aa}(aK:iJ toq)(h:i<0\/((s.get toq).length:aa)<=i):fX s toq i=none/\fS s toq i=s:=by
 unfold fX fS;by_cases a:0<=i
 .have:(s.get toq).length<=i.toNat:=U
  rw[aE ⟨aK,a⟩,aE ⟨aK,a⟩,eraseIdx_of_length_le this,cY.CF];exact⟨by simpa using this,rfl⟩
 rw[aB (λh=>a h.2),aB (λh=>a h.2)];exact⟨rfl,rfl⟩
def Gu(h:eY w c most s)(toq i:aa):aA 99 #[c,I toq,I i] w λe w'=>e=aY #[Df (fX s toq i),.bool (fX s toq i).isSome]/\∃ q,w'=w.drewN q:=by
 by_cases aK:iJ toq
 .by_cases ax:0<=i/\i<(s.get toq).length
  .obtain⟨k,rfl⟩:=mj ax.1;have hk:k<(s.get toq).length:=U;have a:fX s toq k=some (s.get toq)[k]:=by unfold fX;rw[aE ⟨aK,ax.1⟩];simp[hk]
   rw[a]
   go_in
   go_wp2_with fail;refine bE (q1 h toq aK) ?_;go_wp2_with fail;refine aW (Vz (h.ring toq) k _ rfl _ ((show(s.get toq)[k]?=some (s.get toq)[k]by simp))) ?_;rintro w' ⟨q,rfl⟩;go_wp2;go_ret2;exact⟨rfl,_,rfl⟩
  have b:i<0\/((s.get toq).length:aa)<=i:=U;rw[(A' aK b).1]
  go_in
  go_wp2_with fail;refine bE (q1 h toq aK) ?_;go_wp2_with fail;refine bE (VA (h.ring toq) i b) ?_;go_wp2;go_ret2;exact⟨rfl,0,rfl⟩
 have a:fX s toq i=none:=by unfold fX;rw[aB (λh=>aK h.1)]
 rw[a]
 go_in
 go_wp2_with fail;refine bE (xY c toq aK w) ?_;go_wp2_with fail;refine bE (JQ i w) ?_;go_wp2;go_ret2;exact⟨rfl,0,rfl⟩
def tH(h:eY w c most s)(toq i:aa):aA 98 #[c,I toq,I i] w λe w'=>e=aY #[Df (fX s toq i),.bool (fX s toq i).isSome]/\eY w' c most (fS s toq i)/\Keeps (ht c) w w':=by
 by_cases aK:iJ toq
 .by_cases ax:0<=i/\i<(s.get toq).length
  .obtain⟨k,rfl⟩:=mj ax.1;have hk:k<(s.get toq).length:=U;have a:fX s toq k=some (s.get toq)[k]:=by unfold fX;rw[aE ⟨aK,ax.1⟩];simp[hk]
   have d:fS s toq k=s.put toq ((s.get toq).eraseIdx k):=by unfold fS;rw[aE ⟨aK,ax.1⟩];rfl
   rw[a,d]
   go_in
   go_wp2_with fail;refine bE (q1 h toq aK) ?_;go_wp2_with fail;refine aW (VE (h.ring toq) k _ rfl _ ((show(s.get toq)[k]?=some (s.get toq)[k]by simp))) ?_;rintro w' ⟨j,hk⟩;go_wp2;exact MR
  have b:i<0\/((s.get toq).length:aa)<=i:=U;rw[(A' aK b).1,(A' aK b).2]
  go_in
  go_wp2_with fail;refine bE (q1 h toq aK) ?_;go_wp2_with fail;refine bE (VF (h.ring toq) i b) ?_;go_wp2;go_ret2;exact⟨rfl,h,Keeps.refl _ _⟩
 have a:fX s toq i=none:=by unfold fX;rw[aB (λh=>aK h.1)]
 have d:fS s toq i=s:=by unfold fS;rw[aB (λh=>aK h.1)]
 rw[a,d]
 go_in
 go_wp2_with fail;refine bE (xY c toq aK w) ?_;go_wp2_with fail;refine bE (VH i w) ?_;go_wp2;go_ret2;exact⟨rfl,h,Keeps.refl _ _⟩
def wq(s:cY)(toq:aa):aa:=if iJ toq then((s.get toq).length:aa)else 0
def PK(h:eY w c most s)(toq:aa):aA 54 #[c,I toq] w λe w'=>e=.returned (I (wq s toq))/\w=w':=by
 unfold wq;by_cases aK:iJ toq
 .rw[aE aK]
  go_in
  go_wp2_with fail;refine bE (q1 h toq aK) ?_;go_wp2_with fail;refine bE (VB (h.ring toq)) ?_;go_wp2;go_ret;exact⟨rfl,rfl⟩
 rw[aB aK]
 go_in
 go_wp2_with fail;refine bE (xY c toq aK w) ?_;go_wp2_with fail;refine bE (VG w) ?_;go_wp2;go_ret;exact⟨rfl,rfl⟩
theorem eY.KH(h:eY w c most s)(n:aa):eY (w.setCell (ae c 2 ad) (I n)) c most {s with lost:=n}:=
 ⟨by simpa using b3 h.head 2 (I n),h.wI.keeps (S:=λb=>b=c) ((Keeps.refl (λb=>b=c) w).setCell (p:=ae c 2 ad) rfl _) U U,h.nz.keeps (S:=λb=>b=c) ((Keeps.refl (λb=>b=c) w).setCell (p:=ae c 2 ad) rfl _) U U⟩
def lS(s:cY)(toq i:aa):cY:=if (fX s toq i).isSome then {fS s toq i with lost:=s.lost+1}else s
def Dh(s:cY)(toq i:aa):(fS s toq i).lost=s.lost:=by unfold fS cY.put;split<;>(try split)<;>rfl
def Di{toq i:aa}(h:fX s toq i=none):fS s toq i=s:=by
 unfold fX at h;unfold fS;split
 .rename_i an;rw[aE an]at h;rw[eraseIdx_of_length_le ic,cY.CF]
 rfl
def PJ(h:eY w c most s)(d:0<=s.lost/\s.lost<=1000000)(toq i:aa):aA 101 #[c,I toq,I i] w λe w'=>e=.returned (.bool (fX s toq i).isSome)/\eY w' c most (lS s toq i)/\Keeps (ht c) w w':=by
 have a:=ag (tH h toq i);unfold lS;cases an:(fX s toq i)with
 | none=>
  rw[an,(Di an)]at a
  go_in
  go_wp2_with fail;refine aW a.out ?_;rintro aD ⟨h2,b⟩;go_wp2;go_ret;exact⟨rfl,h2,b⟩
 | some v=>
  rw[an]at a
  go_in
  go_wp2_with fail;refine aW a.out ?_;rintro aD ⟨h2,b⟩;have bw:aD.cell? (ae c 2 ad)=some (I s.lost):=by rw[<-(Dh s toq i)];exact bf h2.head rfl
  have f2:=bP h2.head;go_wp2;go_ret;exact⟨rfl,h2.KH _,b.setCell (p:=ae c 2 ad) ⟨aM,aM⟩ _⟩
end
def ur(t:ch):al:=0<t.size/\t.size<=256
instance (t:ch):Decidable (ur t):=by unfold ur;infer_instance
def qt(toq:aa)(t:ch):aa:=if ¬ iJ toq\/t.size=0 then 1 else if 256<t.size then 5 else 0
def sH(s:cY)(most:J)(toq:aa)(t:ch):a1:=decide (iJ toq/\ur t/\(s.get toq).length<most)
def hT(s:cY)(most:J)(toq:aa)(t:ch):cY:=if iJ toq/\ur t then(if (s.get toq).length<most then s.put toq (s.get toq++[t])else {s with lost:=s.lost+1})else s
section
variable{w w':aj}{c m most:J}{s:cY}
def QH(t:ch)(h:t.size=0):t.toList.isEmpty=true:=by
 rw[w6,show t.data.toList=[]from jP.1 ic];rfl
def UK(t:ch)(h:0<t.size):t.toList.isEmpty=false:=by
 rw[w6];cases hd:t.data.toList with
 | nil=>
  have h1:t.data.toList.length=t.size:=aM;rw[hd]at h1;simp at h1;omega
 | cons a l=>rfl
def C0{toq:aa}{t:ch}(h:¬ (iJ toq/\ur t)):sH s most toq t=false/\hT s most toq t=s:=by
 unfold sH hT;rw[aB h];exact⟨by simp;exact λh1 h2=>absurd ⟨h1,h2⟩ h,rfl⟩
def PL(h:eY w c most s)(m:0<=s.lost/\s.lost<=1000000)(toq:aa)(t:ch)(n:t.size<=maxLen):aA 61 #[c,I toq,.string t] w λe w'=>e=aY #[(sH s most toq t),I (qt toq t)]/\eY w' c most (hT s most toq t)/\Keeps (ht c) w w':=by
 by_cases aK:iJ toq
 .by_cases g:t.size=0
  .have a:qt toq t=1:=by unfold qt;rw[aE (.inr g)]
   have d:=C0 (s:=s) (most:=most) (toq:=toq) (t:=t) (λaS=>by have:=aS.2.1;omega);rw[a,d.1,d.2];have k:=QH t g
   go_in
   exact OI
  have k:=UK t U;by_cases h1:256<t.size
  .have a:qt toq t=5:=by unfold qt;rw[aB (by simp[aK,g]),aE h1]
   have d:=C0 (s:=s) (most:=most) (toq:=toq) (t:=t) (λaS=>by have:=aS.2.2;omega);rw[a,d.1,d.2]
   go_in
   exact OI
  have a:qt toq t=0:=by unfold qt;rw[aB (by simp[aK,g]),aB h1]
  have i:ur t:=⟨U,U⟩;by_cases f:(s.get toq).length<most
  .have ak:sH s most toq t=true:=by unfold sH;simp[aK,i,f]
   have an:hT s most toq t=s.put toq (s.get toq++[t]):=by unfold hT;rw[aE ⟨aK,i⟩,aE f]
   rw[a,ak,an]
   go_in
   go_wp2_with fail;refine bE (q1 h toq aK) ?_;go_wp2_with fail;refine aW (VC (h.ring toq) f t) ?_;rintro w' ⟨j,hk⟩;go_wp2_with fail;exact MR
  have ak:sH s most toq t=false:=by unfold sH;simp[f]
  have an:hT s most toq t={s with lost:=s.lost+1}:=by unfold hT;rw[aE ⟨aK,i⟩,aB f]
  rw[a,ak,an];have l:(s.get toq).length=most:=by have:=(h.ring toq).le.1;omega
  go_in
  go_wp2_with fail;refine bE (q1 h toq aK) ?_;go_wp2_with fail;refine aW (VD (h.ring toq) l t) ?_;rintro aD ⟨j,hk⟩;have h2:=h.put toq j hk;rw[cY.CF]at h2;have bw:=aO h2.head;have f2:=bP h2.head;go_wp2_with fail;go_ret2;exact⟨rfl,h2.KH _,(hk.mono (λb _ ak=>Hd c toq b ak)).setCell (p:=ae c 2 ad) ⟨aM,aM⟩ _⟩
 have a:qt toq t=1:=by unfold qt;rw[aE (.inl aK)]
 have d:=C0 (s:=s) (most:=most) (toq:=toq) (t:=t) (λaS=>aK aS.1);rw[a,d.1,d.2]
 go_in
 go_wp2_with fail;refine bE (xY c toq aK w) ?_;go_wp2_with fail;go_ret2;exact⟨rfl,h,Keeps.refl _ _⟩
end
section
variable{w w':aj}{c m most:J}{s:cY}
def FK(bn w:aj)(c most:J)(k:J):al:=Below bn bn w/\bn.heap.size<=c/\
 ((k=0/\w.heap[c]?=some (af #[.pointer none,.pointer none,I 0] 184 (0,0))/\w.heap.size=c+1)\/
 (k=1/\w.heap[c]?=some (af #[.pointer (some (ae (c+2) 0 ad)),.pointer none,I 0] 184 (0,0))/\iS w (c+2) (c+1) most ([]:ah ch)/\w.heap.size=c+3)\/
 (k=2/\eY w c most ⟨[],[],0⟩))
def Gv(most:J)(h1:1<=most)(h2:most<=64)(w:aj):aA 57 #[I most] w λe w'=>e=aY #[w.heap.size,I 0]/\eY w' w.heap.size most ⟨[],[],0⟩/\Below w w w':=by
 have j:=ag (show FK w (w.alloc (af #[.pointer none,.pointer none,I 0] 184)) w.heap.size most 0 from⟨(b7 _ w).alloc bx _,df _,.inl ⟨rfl,aX _ _,aM⟩⟩)
 go_in
 go_wp2_with fail;go_loopw [16] (λi wr=>∃ k:J,k<=2/\i=I k/\Hid (FK w wr w.heap.size most k)) (λi _=>2-(intOf i).toNat)
 case atStart=>exact⟨0,U,rfl,j⟩
 obtain⟨k,hk,rfl,l⟩:=hrel;obtain⟨bR,g,n⟩:=l.out;rcases n with⟨rfl,aS,aw⟩|⟨rfl,aS,m,aw⟩|⟨rfl,an⟩
 .go_wp2_with fail;refine aW (JP most h1 U wr) ?_;rintro aD ⟨d,a,f⟩;rw[aw]at d f a;have o:=ag aw;have c:=(a.block w.heap.size U).trans aS;have f0:=bP c;have bz:=aO c;rw[aw];go_wp2_with fail;go_roundw
  case rel=>
   have hk:=(Keeps.refl (λb=>b=w) aD).setCell (p:=ae w 0 ad) rfl (w.heap.size+2:J);refine⟨1,U,rfl,bR.trans ((a.mono U).setCell aM _),g,.inr (.inl ⟨rfl,b3 c 0 (w.heap.size+2:J),d.keeps hk U U,?_⟩)⟩;rw[World.size_setCell,f]
  simp[intOf]
 .go_wp2_with fail;refine aW (JP most h1 U wr) ?_;rintro aD ⟨d,a,f⟩;rw[aw]at d f a;have c:=(a.block w.heap.size U).trans aS;have f0:=bP c;have bz:=aO c;rw[aw];go_wp2_with fail;go_roundw
  case rel=>
   have hk:=(Keeps.refl (λb=>b=w) aD).setCell (p:=ae w 1 ad) rfl (w.heap.size+4:J);exact⟨2,U,rfl,bR.trans ((a.mono U).setCell aM _),g,.inr (.inr ⟨rfl,⟨b3 c 1 (w.heap.size+4:J),(m.keeps (S:=λb=>w.heap.size+3<=b) (Keeps.bJ a (λ_ _ h=>h)) U U).keeps hk U U,d.keeps hk U U⟩⟩)⟩
  simp[intOf]
 go_wp2_with fail;go_ret2;exact⟨rfl,an,bR⟩
end
end Go.Proofs.YtalagblioepadaaGreatDoor
