/- The proof, part 14. -/
import Derived.Test.YtalagblioepadaaGreatDoorZb08
import Derived.Test.YtalagblioepadaaGreatDoorZb07
import Derived.Test.YtalagblioepadaaGreatDoorZb03
import Derived.OwnWalkIn
import Derived.Shelf.RegionOpen
import Derived.LoopNIn
import Derived.LoopIn
import Derived.Deep.Cut
import Derived.RangeFuncBox
namespace Go.Proofs.YtalagblioepadaaGreatDoor
set_option linter.all false
open Proofs.Tryz List Go.RowKit
set_option maxRecDepth 100000
set_option maxHeartbeats 800000
def zG{p:ak}(h:p:=by have:=(aj x g).1;omega):p:=h
def pj{p:ak}(h:p:=by simp only[maxLen];omega):p:=h
def uJ{p:ak}(h:p:=by have:=(d.lt k hk).1;omega):p:=h
def zF{p:ak}(h:p:=by have:=(s.lt b aj).1;omega):p:=h
def wW{p:ak}(h:p:=by simpa using bW Q.out 0 _):p:=h
def wV{p:ak}(h:p:=by have:=(d.lt _ e.symm).1;omega):p:=h
def Nn{p:ak}(h:p:=by
 go_wp2_with fail;refine br (qs h toq aN) ?_;go_wp2_with fail;go_ret2;exact⟨rfl,h,Keeps.refl _ _⟩
 ):p:=h
def LC{p:ak}(h:p:=by
 go_ret2;exact⟨rfl,h.put toq j hk,hk.mono (λb _ aj=>F4 c toq b aj)⟩
 ):p:=h
section
attribute [local go_sem] Oper.semAt_some
variable{w:ai}{r B size first n:J}{A:ah aa}
def U5(r:J)(w:ai):az 310 #[r] w λe w'=>e=.returned (.func (.func 335) #[] #[w.heap.size])/\w.alloc (ae #[r] 119)=w':=by
 go_in
 go_wp2;go_ret;exact⟨rfl,rfl⟩
def YO{α:Type}(L:List α)(k:J)(h:k<L.length):L.zipIdx=L.zipIdx.take k++(L[k],k) :: L.zipIdx.drop (k+1)/\L.zipIdx.take (k+1)=L.zipIdx.take k++[(L[k],k)]:=by
 have h2:k<L.zipIdx.length:=by simpa using h
 have e:L.zipIdx[k]=(L[k],k):=aI;refine⟨?_,?_⟩
 .rw[<-e,<-p9 h2,lR]
 rw[lS h2,e]
def NO{L:ah aa}(c:RingAt w r B size A first L.length)(E:Holds A first size L)(b:J)(Y:b<w.heap.size)(aq:w.cell? (ad b 0 ab)=some (.pointer (some (ad r 0 ab))))(f:J->ak)(i:¬ f b/\¬ f r/\¬ f B):pt prog 335 #[b] (λp:aa×J=>#[I p.2,(aF p.1)]) L.zipIdx f (λ_=>False) w:=by
 intro l z W O hk fr C H d;subst O;have j1:=bR c.head;have g':=bR c.body;have bP:=c.e6;have V:=c.most;refine gD.2 ?_
 go_in
 go_wp2_with fail
 go_loopw [3] (λv wr=>∃ k:J,k<=L.length/\v=I k/\wr.cell? (ad b 0 ab)=some (.pointer (some (ad r 0 ab)))/\RingAt wr r B size A first L.length/\z (L.zipIdx.take k) wr/\w.heap.size+2<=wr.heap.size)
  (λv _=>L.length-(intOf v).toNat)
 case atStart=>exact⟨0,c' _,rfl,hk.cell aq id,c.keeps hk id id,wZ,U⟩
 obtain⟨k,Z,rfl,M,a,t,Q⟩:=hrel;by_cases u:k<L.length
 .obtain⟨R,S⟩:=YO L k u;have s:A[(first+k)%size]?=some L[k]:=(E k u).trans aI;obtain⟨q,j⟩:∃ q,(first+k)%size=q:=⟨_,rfl⟩;rw[j]at s;have bu:=a.bu;have X:=a.cell s;have a':=j▸eW _ c.pos;have m:=af j;go_upto_region 3 with((go_at_call 55;refine(BX a).mono ?_;rintro e w' ⟨rfl,rfl⟩))
  refine(ob (n:=0)).1 ?_;refine Ys (TA _ _) 11 aH aH aH ?_;simp only[hI,il,hG,hA]
  repeat (go_big_quiet_step ((go_at_call 283;first|exact Calls.quiet_of (tV (a.drew _) k q _ U U m.o)|exact iF (tV (a.drew _) k q _ U U m.o))))
  refine wpQuiet_nil ?_;intro _ x;obtain⟨nq,y⟩:=x;subst y;obtain⟨fn,tmps,assign,body,gf,G⟩:=H (L.zipIdx.take k) (L[k],k) (L.zipIdx.drop (k+1)) (wr.drewN nq) R (C _ _ _ t ((Keeps.refl _ wr).drewN nq));gi_wp2;refine⟨rfl,G.mono ?_⟩;rintro e T ⟨rfl,D,g⟩;have K:=g.cell (p:=ad b 0 ab) M (λh=>h.elim i.1 (λh=>mx));have F:=(a.drew nq).keeps g (λh=>h.elim i.2.1 a7) (λh=>h.elim i.2.2 a7);have P:=g.size;gi_wp2;go_wp2;go_roundw
  case rel=>exact⟨k+1,U,by go_num,K,F,by rw[S];exact D,b7 Q P⟩
  simp[intOf];omega
 have N:L.zipIdx.take k=L.zipIdx:=nm bU;go_wp2_with ((go_at_call 55;refine(BX a).mono ?_;rintro e w' ⟨rfl,rfl⟩));go_end0;exact⟨⟨_,rfl⟩,by rw[<-N];exact t⟩
def Ho:(prog.info? 5).map (λi=>(i.zero,i.size,i.bytes))=some (some (aF 0),1,1):=aH
def zip_map(L:ah aa):L.zipIdx.map (λp=>(aF p.1))=L.map (λx=>(aF x)):=by
 have:(λp:aa×J=>((aF p.1):aw))=(λx=>(aF x)) ∘ Prod.fst:=rfl
 rw[this,<-map_map]
 congr 1
 exact zipIdx_map_fst 0 L
def U0{L:ah aa}(i:RingAt w r B size A first L.length)(F:Holds A first size L):az 263 #[r] w λe w'=>∃ a cap,e=.returned (ao a L.length cap)/\dQ w' 1 a L.length cap (L.map λx=>(aF x))/\(∀ x,a=some x->w.heap.size<=x.block)/\Below w w w':=by
 obtain⟨T,av,O,P,R⟩:=ng Ho;have j1:=bR i.head;have l':=bR i.body;have bP:=i.e6;have V:=i.most;refine(gD (n:=0)).1 ?_;refine callsIn_of_wp_marks func263 rfl trivial ?_ rfl;simp only[ntmps263,gR,dr,e2,Nat.reduceAdd,Nat.reduceSub,sx,sy,sF,sA,oi,ku];gi_wp2_with (fail);refine⟨trivial,rfl,gD.2 ((U5 r _).mono ?_)⟩;rintro e aB ⟨rfl,N⟩;gi_wp2_with (fail);subst N
 have G:RingAt ((w.alloc (ae #[ao none 0 0] 51)).alloc (ae #[r] 119)) r B size A first L.length:=
  i.keeps (S:=aG) (((Keeps.refl _ w).alloc _).alloc _) id id
 refine CI (gf:=335) (lb:=#[.pointer (some (ad (w+1) 0 ab))]) rfl (enters_of func335 aH rfl)
  (λ_=>rfl) L.zipIdx (λk=>k=w.heap.size\/w.heap.size+3<k) (λ_=>False)
  (NO G F (w.heap.size+1) aI (by go_simp) _ ⟨U,U,U⟩)
  bU aI
  (λpre W=>(∃ v,W.heap[w.heap.size]?=some (ae #[v] 51 (0,0))/\W.ownsRow (w.heap.size+4) 5 1 v pre.length (pre.map λp=>(aF p.1)))/\Below w w W/\w.heap.size+2<=W.heap.size)
  (λpre A B ⟨⟨v,f,d⟩,c,q⟩ hd hk=>⟨⟨v,hk.heap f (λh=>mx),b3 d hk (λb aj h=>by have:=(d.lt b aj).1;simp at h;omega)⟩,c.trans (hk.below c.size (λk h1 h2=>by simp at h2;omega)),b7 q hk.size⟩)
  ⟨⟨_,cm (aW _ _) _,gB _ _ _ _⟩,((bY _ w).alloc bA _).alloc aI _,aI⟩
  (λx=>{tmps:=#[.pointer (some (ad r 0 ab)),undef,ao none 0 0,.pointer (some (ad w 0 ab)),undef,(aF x.1),.pointer (some (ad r 0 ab)),.func (.func 335) #[] #[.pointer (some (ad (w+1) 0 ab))],I x.2,(aF x.1),undef,undef,undef,undef,undef],defers:=[]})
  ?assign ?body ?done
 case assign=>
  intro l x W K E;gi_wp2;exact E
 case body=>
  rintro l pre x rest j a' g ⟨⟨v,f,d⟩,c,q⟩ M;have H:=cV length g;simp at H;have fr:pre.length+1<=4096:=U;have C:=jl f;have Y:=nf f;have z:=af f;gi_wp2_with (gi_at_builtin;refine wpListIn_append_own _ rfl _ _ 51 rfl (w.heap.size+4) 5 T (aF 0) 1 1 underlying51 av O P R rfl bq _ _ _ rfl (d.alloc _) (ad j 0 ab) 1 1 [(aF x.1)] rfl rfl (oa _ _ _) mw pj U (by simp at M⊢;omega) ?_;intro v' an s m _;have t:Keeps (λk=>k=w.heap.size\/w.heap.size+3<k) j an:=((Keeps.refl _ j).alloc _).grown m (λk hk=>.inl (.inr uJ));obtain⟨g',y,rfl⟩:=ownsRow_succ s;have h2:=(m.block w.heap.size bU (λe=>wV)).trans (cm z.o _);have X:=jl h2;have Z:=nf h2;have Q:=af h2;clear h2 m);have u:=t.setCell (p:=ad w 0 ab) (.inl rfl) (ao (some (ad g' 0 ab)) (pre.length+1) y);refine⟨u,⟨_,wW,b3 s ((Keeps.refl (λk=>k=w) an).setCell (p:=ad w 0 ab) rfl _) (λb aj h=>zF)⟩,c.trans (u.below c.size a7),?_⟩
  have:=t.size
  omega
 rintro W ⟨⟨v,f,d⟩,c,q⟩ D;have C:=jl f;rw[length_zipIdx,zip_map]at d;obtain⟨a,cap,rfl,aX,aj⟩:=cP d;gi_wp2;refine⟨aI,.inl ⟨_,_,rfl,run_takeDeferred D,?_⟩⟩;refine⟨_,zb rfl _ _ _,a,cap,rfl,aX.keeps (S:=λk=>k=w.heap.size+2) ((Keeps.refl _ W).putObj aI _) (λ_ x g=>zG),λx g=>zG,?_⟩;exact c.trans (((Keeps.refl (λk=>w.heap.size<=k) W).putObj bU _).below c.size a7)
def U1(size:J)(h1:1<=size)(h2:size<=4096)(w:ai):az 195 #[I size] w λe w'=>e=aV #[.pointer (some (ad (w+1) 0 ab)),I 0]/\RingAt w' (w.heap.size+1) w.heap.size size (replicate size 0) 0 0/\Below w w w'/\w'.heap.size=w.heap.size+2:=by
 have⟨g,av,c,f,d⟩:=ng Ho;have hd:decide (1<=(size:aa)/\(size:aa)<=4096)=true:=bU;have b:=run_make (P:=prog) w 51 5 g (aF 0) underlying51 av c .i64 .i64 size size U (jm _) uQ U;have a:madeCells ((aF 0):aw).cells size=((replicate size (0:aa)).map λx=>(aF x)).toArray:=by
  apply CX.1;rw[show((aF 0):aw).cells=#[(aF 0)]from rfl,K8];simp
 rw[f,q4,zy,a]at b
 go_in
 go_wp2_with fail;refine br (yy size w) ?_;rw[hd];go_wp2;go_ret2;refine⟨rfl,⟨?_,?_,aI,h1,h2,U,U,U⟩,((bY _ w).alloc bA _).alloc aI _,aI⟩
 .have:=aW (w.alloc (ae ((replicate size (0:aa)).map λx=>(aF x)).toArray 5)) (ae #[ao (some (ad w 0 ab)) size size,I 0,I 0] 181)
  simpa using this
 have:=cm (aW w (ae ((replicate size (0:aa)).map λx=>(aF x)).toArray 5)) (ae #[ao (some (ad w 0 ab)) size size,I 0,I 0] 181)
 simpa using this
end
section
attribute [local go_sem] Oper.semAt_some
def kP(L:ah aa):ah aw:=L.map λx=>I x
def RB:(prog.info? 3).map (λi=>(i.zero,i.size,i.bytes))=some (some (I 0),1,8):=aH
variable{w:ai}
def Wd{α:Type}(g:α->aa)(gf:J)(lb:a6 aw)(D:∀ args w,(callFunc gf args).run prog w=.ok (.enter gf args) w)(L:List α)(T:L.length<=4096)(E:pt prog gf lb (λx:α=>#[I (g x)]) L (λk=>k=w.heap.size\/w.heap.size+2<k) (λ_=>False) (w.alloc (ae #[ao none 0 0] 141))):az 124 #[ao none 0 0,.func (.func gf) #[] lb] w λe w'=>∃ v,e=.returned v/\w'.ownsRow (w.heap.size+3) 3 1 v L.length (kP (L.map g))/\Below w w w':=by
 obtain⟨P,av,M,N,O⟩:=ng RB;refine(gD (n:=0)).1 ?_;refine callsIn_of_wp_marks func124 rfl trivial ?_ rfl;simp only[ntmps124,gR,dr,e2,Nat.reduceAdd,Nat.reduceSub,sx,sy,sF,sA,oi,ku];gi_wp2_with (fail)
 refine CI (gf:=gf) (lb:=lb) rfl D (λ_=>rfl) L (λk=>k=w.heap.size\/w.heap.size+2<k) (λ_=>False) E
  bU aI
  (λpre W=>(∃ v,W.heap[w.heap.size]?=some (ae #[v] 141 (0,0))/\W.ownsRow (w.heap.size+3) 3 1 v pre.length (kP (pre.map g)))/\Below w w W/\w.heap.size+1<=W.heap.size)
  (λpre A B ⟨⟨v,f,d⟩,c,m⟩ X hk=>⟨⟨v,hk.heap f (λh=>mx),b3 d hk (λb aj h=>by have:=(d.lt b aj).1;simp at h;omega)⟩,c.trans (hk.below c.size (λk h1 h2=>by simp at h2;omega)),b7 m hk.size⟩)
  ⟨⟨_,aW _ _,gB _ _ _ _⟩,(bY _ w).alloc bA _,aI⟩
  (λx=>{tmps:=#[ao none 0 0,.func (.func gf) #[] lb,.pointer (some (ad w 0 ab)),undef,ao none 0 0,I (g x),.func (.func gf) #[] lb,I (g x),undef,undef,undef,undef,undef],defers:=[]})
  ?assign ?body ?done
 case assign=>
  intro l x W K C;gi_wp2;exact C
 case body=>
  rintro l pre x rest i V H ⟨⟨v,f,d⟩,c,m⟩ G;have F:=cV length H;simp at F;have y:=jl f;have u:=af f;gi_wp2_with (gi_at_builtin;refine wpListIn_append_own _ rfl _ _ 141 rfl (w.heap.size+3) 3 P (I 0) 1 8 underlying141 av M N O rfl bq _ _ _ rfl (d.alloc _) (ad i 0 ab) 1 1 [I (g x)] rfl rfl (oa _ _ _) mw pj U (by simp at G⊢;omega) ?_;intro v' an s j _;have q:Keeps (λk=>k=w.heap.size\/w.heap.size+2<k) i an:=((Keeps.refl _ i).alloc _).grown j (λk hk=>.inl (.inr uJ));obtain⟨g',t,rfl⟩:=ownsRow_succ s;have h2:=(j.block w.heap.size bU (λe=>wV)).trans (cm u.o _);have R:=jl h2;have S:=nf h2;have Q:=af h2;clear h2 j);have r:=q.setCell (p:=ad w 0 ab) (.inl rfl) (ao (some (ad g' 0 ab)) (pre.length+1) t);refine⟨r,⟨_,wW,by simpa[kP]using b3 s ((Keeps.refl (λk=>k=w) an).setCell (p:=ad w 0 ab) rfl _) (λb aj h=>zF)⟩,c.trans (r.below c.size a7),?_⟩
  have:=q.size
  omega
 rintro W ⟨⟨v,f,d⟩,c,m⟩ z;have y:=jl f;obtain⟨a,cap,rfl,aX,aj⟩:=cP d;gi_wp2;refine⟨aI,.inl ⟨_,_,rfl,run_takeDeferred z,?_⟩⟩;refine⟨_,zb rfl _ _ _,_,rfl,b3 d ((Keeps.refl (λk=>k=w+1) W).putObj aI _) (λb aj h=>by have:=(d.lt b aj).1;omega),?_⟩;exact c.trans (((Keeps.refl (λk=>w.heap.size<=k) W).putObj aI _).below c.size a7)
def Jx{α:Type}(g:α->aa)(gf:J)(lb:a6 aw)(b:∀ args w,(callFunc gf args).run prog w=.ok (.enter gf args) w)(L:List α)(a:L.length<=4096)(c:pt prog gf lb (λx:α=>#[I (g x)]) L (λk=>k=w.heap.size\/w.heap.size+2<k) (λ_=>False) (w.alloc (ae #[ao none 0 0] 141))):az 78 #[.func (.func gf) #[] lb] w λe w'=>∃ v,e=.returned v/\w'.ownsRow (w.heap.size+3) 3 1 v L.length (kP (L.map g))/\Below w w w':=by
 go_in
 go_wp2_with fail;refine(Wd g gf lb b L a c).mono ?_;rintro e w' ⟨v,rfl,d,aj⟩;go_wp2;go_ret;exact⟨_,rfl,d,aj⟩
end
section
def jV(w:ai)(r B size:J)(L:ah aa):ak:=∃ A first,RingAt w r B size A first L.length/\Holds A first size L
variable{w:ai}{r B size:J}{L:ah aa}
def jV.keeps{w':ai}{S:J->ak}(h:jV w r B size L)(hk:Keeps S w w')(b:¬ S r)(a:¬ S B):jV w' r B size L:=by
 exact DJ
def jV.le(h:jV w r B size L):L.length<=size/\1<=size/\size<=4096/\r<w.heap.size/\B<w.heap.size/\r≠B:=by
 exact DF
def vG(h:jV w r B size L):az 55 #[r] w λe w'=>e=.returned (I L.length)/\w=w':=by
 have⟨A,f,h1,h2⟩:=h;exact BX h1
def RV(h:jV w r B size L)(au:L.length<size)(v:aa):az 217 #[r,(aF v)] w λe w'=>e=.returned (I 0)/\jV w' r B size (L++[v])/\Keeps (λb=>b=r\/b=B) w w':=by
 obtain⟨A,f,h1,h2⟩:=h;refine aT (U3 h1 au _ rfl v) ?_;rintro w' ⟨a,c⟩;exact⟨rfl,⟨_,f,sR,h2.push h1.fst h1.gG au v⟩,c⟩
def RW(h:jV w r B size L)(au:L.length=size)(v:aa):az 217 #[r,(aF v)] w λe w'=>e=.returned (I 8)/\jV w' r B size L/\Keeps (λb=>b=r\/b=B) w w':=by
 obtain⟨A,f,h1,h2⟩:=h;refine aT (U4 h1 au v) ?_;rintro w' ⟨m,rfl⟩;exact⟨rfl,⟨_,f,h1.drew m,h2⟩,(Keeps.refl _ w).drewN m⟩
def RU{v:aa}(h:jV w r B size (v :: L)):az 333 #[r] w λe w'=>e=aV #[(aF v),true]/\jV w' r B size L/\Keeps (λb=>b=r\/b=B) w w':=by
 obtain⟨A,f,h1,h2⟩:=h;have d:=h2 0 aI;rw[re,ja h1.fst]at d;refine aT (U2 h1 aI _ rfl v wZ) ?_;rintro w' ⟨a,c⟩;exact⟨rfl,⟨_,_,sR,h2.pop h1.fst h1.e6 aI _⟩,c⟩
def RS(h:jV w r B size L):az 263 #[r] w λe w'=>∃ a cap,e=.returned (ao a L.length cap)/\dQ w' 1 a L.length cap (L.map λx=>(aF x))/\(∀ x,a=some x->w.heap.size<=x.block)/\Below w w w':=by
 have⟨A,f,h1,h2⟩:=h;exact U0 h1 h2
def RT(size:J)(h1:1<=size)(h2:size<=4096)(w:ai):az 195 #[I size] w λe w'=>e=aV #[.pointer (some (ad (w+1) 0 ab)),I 0]/\jV w' (w.heap.size+1) w.heap.size size ([]:ah aa)/\Below w w w'/\w'.heap.size=w.heap.size+2:=by
 refine aT (U1 size h1 h2 w) ?_;rintro w' ⟨a,b⟩;exact⟨rfl,⟨_,0,a,λt aN=>absurd aN (k7 _)⟩,b⟩
end
section
attribute [local go_sem] Oper.semAt_some
variable{w:ai}{r B size first n:J}{A:ah cc}
def Uj:(prog.info? 9).map (λi=>(i.zero,i.size,i.bytes))=some (some (Value.string ByteArray.empty),1,16):=aH
def Uu(size:J)(h1:1<=size)(h2:size<=4096)(w:ai):az 83 #[I size] w λe w'=>e=aV #[.pointer (some (ad (w+1) 0 ab)),I 0]/\QRingAt w' (w.heap.size+1) w.heap.size size (replicate size ByteArray.empty) 0 0/\Below w w w'/\w'.heap.size=w.heap.size+2:=by
 have⟨g,av,c,f,d⟩:=ng Uj;have hd:decide (1<=(size:aa)/\(size:aa)<=4096)=true:=bU;have b:=run_make (P:=prog) w 33 9 g (Value.string ByteArray.empty) underlying33 av c .i64 .i64 size size U (jm _) uQ U;have a:madeCells ((Value.string ByteArray.empty):aw).cells size=((replicate size (ByteArray.empty:cc)).map λx=>(Value.string x)).toArray:=by
  apply CX.1;rw[show((Value.string ByteArray.empty):aw).cells=#[(Value.string ByteArray.empty)]from rfl,K8];simp
 rw[f,q4,zy,a]at b
 go_in
 go_wp2_with fail;refine br (Uz size w) ?_;rw[hd];go_wp2;go_ret2;refine⟨rfl,⟨?_,?_,aI,h1,h2,U,U,U⟩,((bY _ w).alloc bA _).alloc aI _,aI⟩
 .have:=aW (w.alloc (ae ((replicate size (ByteArray.empty:cc)).map λx=>(Value.string x)).toArray 9)) (ae #[ao (some (ad w 0 ab)) size size,I 0,I 0] 239)
  simpa using this
 have:=cm (aW w (ae ((replicate size (ByteArray.empty:cc)).map λx=>(Value.string x)).toArray 9)) (ae #[ao (some (ad w 0 ab)) size size,I 0,I 0] 239)
 simpa using this
end
section
def iu(w:ai)(r B size:J)(L:ah cc):ak:=∃ A first,QRingAt w r B size A first L.length/\Holds A first size L
variable{w:ai}{r B size:J}{L:ah cc}
def iu.keeps{w':ai}{S:J->ak}(h:iu w r B size L)(hk:Keeps S w w')(b:¬ S r)(a:¬ S B):iu w' r B size L:=by
 exact DJ
def iu.le(h:iu w r B size L):L.length<=size/\1<=size/\size<=4096/\r<w.heap.size/\B<w.heap.size/\r≠B:=by
 exact DF
def Um(h:iu w r B size L):az 82 #[r] w λe w'=>e=.returned (I L.length)/\w=w':=by
 have⟨A,f,h1,h2⟩:=h;exact Ut h1
def Uk(h:iu w r B size L)(i:J)(x:aa)(a:x=i)(v:cc)(aX:L[i]?=some v):az 165 #[r,I x] w λe w'=>e=aV #[(Value.string v),true]/\∃ m,w'=w.drewN m:=by
 obtain⟨A,f,h1,h2⟩:=h;have av:=(hf.1 aX).1;exact IL h1 i _ x a av rfl v ((h2 i av).trans aX)
def Ul(h:iu w r B size L)(x:aa)(a:x<0\/(L.length:aa)<=x):az 165 #[r,I x] w λe w'=>e=aV #[(Value.string ByteArray.empty),false]/\w=w':=by
 have⟨A,f,h1,h2⟩:=h;exact IM h1 x a
def Un(h:iu w r B size L)(au:L.length<size)(v:cc):az 95 #[r,(Value.string v)] w λe w'=>e=.returned (I 0)/\iu w' r B size (L++[v])/\Keeps (λb=>b=r\/b=B) w w':=by
 obtain⟨A,f,h1,h2⟩:=h;refine aT (Uv h1 au _ rfl v) ?_;rintro w' ⟨a,c⟩;exact⟨rfl,⟨_,f,sR,h2.push h1.fst h1.gG au v⟩,c⟩
def Uo(h:iu w r B size L)(au:L.length=size)(v:cc):az 95 #[r,(Value.string v)] w λe w'=>e=.returned (I 8)/\iu w' r B size L/\Keeps (λb=>b=r\/b=B) w w':=by
 obtain⟨A,f,h1,h2⟩:=h;refine aT (Uw h1 au v) ?_;rintro w' ⟨m,rfl⟩;exact⟨rfl,⟨_,f,h1.drew m,h2⟩,(Keeps.refl _ w).drewN m⟩
def Up(h:iu w r B size L)(i:J)(x:aa)(d:x=i)(v:cc)(aX:L[i]?=some v):az 164 #[r,I x] w λe w'=>e=aV #[(Value.string v),true]/\iu w' r B size (L.eraseIdx i)/\Keeps (λb=>b=r\/b=B) w w':=by
 obtain⟨A,f,h1,h2⟩:=h;have av:=(hf.1 aX).1;refine aT (Ux h1 h2 i x d av v aX) ?_;rintro w' ⟨hk,cA,a,c⟩;exact⟨rfl,⟨cA,f,by rw[length_eraseIdx_of_lt av];exact a,c⟩,hk⟩
def Uq(h:iu w r B size L)(x:aa)(a:x<0\/(L.length:aa)<=x):az 164 #[r,I x] w λe w'=>e=aV #[(Value.string ByteArray.empty),false]/\w=w':=by
 have⟨A,f,h1,h2⟩:=h;exact Uy h1 x a
def IJ(size:J)(h1:1<=size)(h2:size<=4096)(w:ai):az 83 #[I size] w λe w'=>e=aV #[.pointer (some (ad (w+1) 0 ab)),I 0]/\iu w' (w.heap.size+1) w.heap.size size ([]:ah cc)/\Below w w w'/\w'.heap.size=w.heap.size+2:=by
 refine aT (Uu size h1 h2 w) ?_;rintro w' ⟨a,b⟩;exact⟨rfl,⟨_,0,a,λt aN=>absurd aN (k7 _)⟩,b⟩
end
def Ur(w:ai):az 82 #[.pointer none] w λe w'=>e=.returned (I 0)/\w=w':=by
 go_in
 go_wp2;go_ret;exact⟨rfl,rfl⟩
def IK(x:aa)(w:ai):az 165 #[.pointer none,I x] w λe w'=>e=aV #[(Value.string ByteArray.empty),false]/\w=w':=by
 go_in
 go_wp2;go_ret2;exact⟨rfl,rfl⟩
def Us(x:aa)(w:ai):az 164 #[.pointer none,I x] w λe w'=>e=aV #[(Value.string ByteArray.empty),false]/\w=w':=by
 go_in
 go_wp2_with fail;refine(IK x w).mono ?_;rintro e w' ⟨rfl,rfl⟩;go_wp2;go_ret2;exact⟨rfl,rfl⟩
structure cT where
 a:ah cc
 b:ah cc
 lost:aa
def cT.get(s:cT)(toq:aa):ah cc:=if toq=0 then s.a else s.b
def cT.put(s:cT)(toq:aa)(L:ah cc):cT:=if toq=0 then {s with a:=L}else {s with b:=L}
def ij(toq:aa):ak:=toq=0\/toq=1
instance (toq:aa):Decidable (ij toq):=by unfold ij;infer_instance
def qx(c:J)(toq:aa):J:=if toq=0 then c+2 else c+4
def rH(c:J)(toq:aa):J:=if toq=0 then c+1 else c+3
def g_(c:J)(b:J):ak:=c<=b/\b<=c+4
structure eM(w:ai)(c most:J)(s:cT):ak where
 head:w.heap[c]?=some (ae #[.pointer (some (ad (c+2) 0 ab)),.pointer (some (ad (c+4) 0 ab)),I s.lost] 184 (0,0))
 vW:iu w (c+2) (c+1) most s.a
 mQ:iu w (c+4) (c+3) most s.b
theorem eM.keeps{w w':ai}{c most:J}{s:cT}{S:J->ak}(h:eM w c most s)(hk:Keeps S w w')(ax:∀ b,g_ c b->¬ S b):eM w' c most s:=
 ⟨hk.heap h.head (ax c ⟨U,U⟩),h.vW.keeps hk (ax _ ⟨U,U⟩) (ax _ ⟨U,U⟩),h.mQ.keeps hk (ax _ ⟨U,U⟩) (ax _ ⟨U,U⟩)⟩
section
variable{w w':ai}{c most:J}{s:cT}
def eM.ring(h:eM w c most s)(toq:aa):iu w (qx c toq) (rH c toq) most (s.get toq):=by
 unfold qx rH cT.get;split
 .exact h.vW
 exact h.mQ
theorem eM.put(h:eM w c most s)(toq:aa){L:ah cc}(a:iu w' (qx c toq) (rH c toq) most L)(hk:Keeps (λb=>b=qx c toq\/b=rH c toq) w w'):eM w' c most (s.put toq L):=by
 unfold qx rH at a hk;unfold cT.put;split
 .rename_i e;simp only[e,if_true]at a hk;exact⟨hk.heap h.head U,a,h.mQ.keeps hk U U⟩
 rename_i e;simp only[e,if_false]at a hk;exact⟨hk.heap h.head U,h.vW.keeps hk U U,a⟩
def F4(c:J)(toq:aa)(b:J)(h:b=qx c toq\/b=rH c toq):g_ c b:=by
 unfold qx rH at h;unfold g_;split at h<;>omega
def qs(h:eM w c most s)(toq:aa)(aN:ij toq):az 81 #[c,I toq] w λe w'=>e=.returned (.pointer (some (ad (qx c toq) 0 ab)))/\w=w':=by
 have bu:=aP h.head;rcases aN with rfl|rfl
 .go_in
  go_wp2;go_ret;exact⟨rfl,rfl⟩
 go_in
 go_wp2;go_ret;exact⟨rfl,rfl⟩
def xl(c:J)(toq:aa)(aN:¬ ij toq)(w:ai):az 81 #[c,I toq] w λe w'=>e=.returned (.pointer none)/\w=w':=by
 unfold ij at aN;by_cases a:toq<0
 .clear aN
  go_in
  go_wp2;go_ret;exact⟨rfl,rfl⟩
 have h1:2<=toq:=U
 go_in
 go_wp2;go_ret;exact⟨rfl,rfl⟩
def fL(s:cT)(toq i:aa):b4 cc:=if ij toq/\0<=i then(s.get toq)[i.toNat]? else none
def fD(s:cT)(toq i:aa):cT:=if ij toq/\0<=i then s.put toq ((s.get toq).eraseIdx i.toNat)else s
def Cl(o:b4 cc):aw:=.string (o.getD ByteArray.empty)
def cT.BN(s:cT)(toq:aa):s.put toq (s.get toq)=s:=by unfold cT.put cT.get;split<;>rfl
def Ak{toq i:aa}(aN:ij toq)(h:i<0\/((s.get toq).length:aa)<=i):fL s toq i=none/\fD s toq i=s:=by
 unfold fL fD;by_cases a:0<=i
 .have:(s.get toq).length<=i.toNat:=U
  rw[aD ⟨aN,a⟩,aD ⟨aN,a⟩,eraseIdx_of_length_le this,cT.BN];exact⟨by simpa using this,rfl⟩
 rw[aA (λh=>a h.2),aA (λh=>a h.2)];exact⟨rfl,rfl⟩
def Fs(h:eM w c most s)(toq i:aa):az 99 #[c,I toq,I i] w λe w'=>e=aV #[Cl (fL s toq i),.bool (fL s toq i).isSome]/\∃ q,w'=w.drewN q:=by
 by_cases aN:ij toq
 .by_cases av:0<=i/\i<(s.get toq).length
  .obtain⟨k,rfl⟩:=lQ av.1;have hk:k<(s.get toq).length:=U;have a:fL s toq k=some (s.get toq)[k]:=by unfold fL;rw[aD ⟨aN,av.1⟩];simp[hk]
   rw[a]
   go_in
   go_wp2_with fail;refine br (qs h toq aN) ?_;go_wp2_with fail;refine aT (Uk (h.ring toq) k _ rfl _ ((show(s.get toq)[k]?=some (s.get toq)[k]by simp))) ?_;rintro w' ⟨q,rfl⟩;go_wp2;go_ret2;exact⟨rfl,_,rfl⟩
  have b:i<0\/((s.get toq).length:aa)<=i:=U;rw[(Ak aN b).1]
  go_in
  go_wp2_with fail;refine br (qs h toq aN) ?_;go_wp2_with fail;refine br (Ul (h.ring toq) i b) ?_;go_wp2;go_ret2;exact⟨rfl,0,rfl⟩
 have a:fL s toq i=none:=by unfold fL;rw[aA (λh=>aN h.1)]
 rw[a]
 go_in
 go_wp2_with fail;refine br (xl c toq aN w) ?_;go_wp2_with fail;refine br (IK i w) ?_;go_wp2;go_ret2;exact⟨rfl,0,rfl⟩
def te(h:eM w c most s)(toq i:aa):az 98 #[c,I toq,I i] w λe w'=>e=aV #[Cl (fL s toq i),.bool (fL s toq i).isSome]/\eM w' c most (fD s toq i)/\Keeps (g_ c) w w':=by
 by_cases aN:ij toq
 .by_cases av:0<=i/\i<(s.get toq).length
  .obtain⟨k,rfl⟩:=lQ av.1;have hk:k<(s.get toq).length:=U;have a:fL s toq k=some (s.get toq)[k]:=by unfold fL;rw[aD ⟨aN,av.1⟩];simp[hk]
   have d:fD s toq k=s.put toq ((s.get toq).eraseIdx k):=by unfold fD;rw[aD ⟨aN,av.1⟩];rfl
   rw[a,d]
   go_in
   go_wp2_with fail;refine br (qs h toq aN) ?_;go_wp2_with fail;refine aT (Up (h.ring toq) k _ rfl _ ((show(s.get toq)[k]?=some (s.get toq)[k]by simp))) ?_;rintro w' ⟨j,hk⟩;go_wp2;exact LC
  have b:i<0\/((s.get toq).length:aa)<=i:=U;rw[(Ak aN b).1,(Ak aN b).2]
  go_in
  go_wp2_with fail;refine br (qs h toq aN) ?_;go_wp2_with fail;refine br (Uq (h.ring toq) i b) ?_;go_wp2;go_ret2;exact⟨rfl,h,Keeps.refl _ _⟩
 have a:fL s toq i=none:=by unfold fL;rw[aA (λh=>aN h.1)]
 have d:fD s toq i=s:=by unfold fD;rw[aA (λh=>aN h.1)]
 rw[a,d]
 go_in
 go_wp2_with fail;refine br (xl c toq aN w) ?_;go_wp2_with fail;refine br (Us i w) ?_;go_wp2;go_ret2;exact⟨rfl,h,Keeps.refl _ _⟩
def rT(s:cT)(toq:aa):aa:=if ij toq then((s.get toq).length:aa)else 0
def Ou(h:eM w c most s)(toq:aa):az 54 #[c,I toq] w λe w'=>e=.returned (I (rT s toq))/\w=w':=by
 unfold rT;by_cases aN:ij toq
 .rw[aD aN]
  go_in
  go_wp2_with fail;refine br (qs h toq aN) ?_;go_wp2_with fail;refine br (Um (h.ring toq)) ?_;go_wp2;go_ret;exact⟨rfl,rfl⟩
 rw[aA aN]
 go_in
 go_wp2_with fail;refine br (xl c toq aN w) ?_;go_wp2_with fail;refine br (Ur w) ?_;go_wp2;go_ret;exact⟨rfl,rfl⟩
theorem eM.JC(h:eM w c most s)(n:aa):eM (w.setCell (ad c 2 ab) (I n)) c most {s with lost:=n}:=
 ⟨by simpa using bW h.head 2 (I n),h.vW.keeps (S:=λb=>b=c) ((Keeps.refl (λb=>b=c) w).setCell (p:=ad c 2 ab) rfl _) U U,h.mQ.keeps (S:=λb=>b=c) ((Keeps.refl (λb=>b=c) w).setCell (p:=ad c 2 ab) rfl _) U U⟩
def lh(s:cT)(toq i:aa):cT:=if (fL s toq i).isSome then {fD s toq i with lost:=s.lost+1}else s
def Cn(s:cT)(toq i:aa):(fD s toq i).lost=s.lost:=by unfold fD cT.put;split<;>(try split)<;>rfl
def Co{toq i:aa}(h:fL s toq i=none):fD s toq i=s:=by
 unfold fL at h;unfold fD;split
 .rename_i aq;rw[aD aq]at h;rw[eraseIdx_of_length_le h8,cT.BN]
 rfl
def Ot(h:eM w c most s)(d:0<=s.lost/\s.lost<=1000000)(toq i:aa):az 101 #[c,I toq,I i] w λe w'=>e=.returned (.bool (fL s toq i).isSome)/\eM w' c most (lh s toq i)/\Keeps (g_ c) w w':=by
 have a:=af (te h toq i);unfold lh;cases aq:(fL s toq i)with
 | none=>
  rw[aq,(Co aq)]at a
  go_in
  go_wp2_with fail;refine aT a.out ?_;rintro aB ⟨h2,b⟩;go_wp2;go_ret;exact⟨rfl,h2,b⟩
 | some v=>
  rw[aq]at a
  go_in
  go_wp2_with fail;refine aT a.out ?_;rintro aB ⟨h2,b⟩;have bs:aB.cell? (ad c 2 ab)=some (I s.lost):=by rw[<-(Cn s toq i)];exact bb h2.head rfl
  have f2:=bJ h2.head;go_wp2;go_ret;exact⟨rfl,h2.JC _,b.setCell (p:=ad c 2 ab) ⟨aI,aI⟩ _⟩
end
def tK(t:cc):ak:=0<t.size/\t.size<=256
instance (t:cc):Decidable (tK t):=by unfold tK;infer_instance
def pY(toq:aa)(t:cc):aa:=if ¬ ij toq\/t.size=0 then 1 else if 256<t.size then 5 else 0
def r5(s:cT)(most:J)(toq:aa)(t:cc):aY:=decide (ij toq/\tK t/\(s.get toq).length<most)
def hv(s:cT)(most:J)(toq:aa)(t:cc):cT:=if ij toq/\tK t then(if (s.get toq).length<most then s.put toq (s.get toq++[t])else {s with lost:=s.lost+1})else s
section
variable{w w':ai}{c m most:J}{s:cT}
def Pn(t:cc)(h:t.size=0):t.toList.isEmpty=true:=by
 rw[wx,show t.data.toList=[]from jn.1 h8];rfl
def Tu(t:cc)(h:0<t.size):t.toList.isEmpty=false:=by
 rw[wx];cases hd:t.data.toList with
 | nil=>
  have h1:t.data.toList.length=t.size:=aI;rw[hd]at h1;simp at h1;omega
 | cons a l=>rfl
def B7{toq:aa}{t:cc}(h:¬ (ij toq/\tK t)):r5 s most toq t=false/\hv s most toq t=s:=by
 unfold r5 hv;rw[aA h];exact⟨by simp;exact λh1 h2=>absurd ⟨h1,h2⟩ h,rfl⟩
def Ov(h:eM w c most s)(m:0<=s.lost/\s.lost<=1000000)(toq:aa)(t:cc)(n:t.size<=maxLen):az 61 #[c,I toq,.string t] w λe w'=>e=aV #[(r5 s most toq t),I (pY toq t)]/\eM w' c most (hv s most toq t)/\Keeps (g_ c) w w':=by
 by_cases aN:ij toq
 .by_cases g:t.size=0
  .have a:pY toq t=1:=by unfold pY;rw[aD (.inr g)]
   have d:=B7 (s:=s) (most:=most) (toq:=toq) (t:=t) (λaR=>by have:=aR.2.1;omega);rw[a,d.1,d.2];have k:=Pn t g
   go_in
   exact Nn
  have k:=Tu t U;by_cases h1:256<t.size
  .have a:pY toq t=5:=by unfold pY;rw[aA (by simp[aN,g]),aD h1]
   have d:=B7 (s:=s) (most:=most) (toq:=toq) (t:=t) (λaR=>by have:=aR.2.2;omega);rw[a,d.1,d.2]
   go_in
   exact Nn
  have a:pY toq t=0:=by unfold pY;rw[aA (by simp[aN,g]),aA h1]
  have i:tK t:=⟨U,U⟩;by_cases f:(s.get toq).length<most
  .have aj:r5 s most toq t=true:=by unfold r5;simp[aN,i,f]
   have aq:hv s most toq t=s.put toq (s.get toq++[t]):=by unfold hv;rw[aD ⟨aN,i⟩,aD f]
   rw[a,aj,aq]
   go_in
   go_wp2_with fail;refine br (qs h toq aN) ?_;go_wp2_with fail;refine aT (Un (h.ring toq) f t) ?_;rintro w' ⟨j,hk⟩;go_wp2_with fail;exact LC
  have aj:r5 s most toq t=false:=by unfold r5;simp[f]
  have aq:hv s most toq t={s with lost:=s.lost+1}:=by unfold hv;rw[aD ⟨aN,i⟩,aA f]
  rw[a,aj,aq];have l:(s.get toq).length=most:=by have:=(h.ring toq).le.1;omega
  go_in
  go_wp2_with fail;refine br (qs h toq aN) ?_;go_wp2_with fail;refine aT (Uo (h.ring toq) l t) ?_;rintro aB ⟨j,hk⟩;have h2:=h.put toq j hk;rw[cT.BN]at h2;have bs:=aP h2.head;have f2:=bJ h2.head;go_wp2_with fail;go_ret2;exact⟨rfl,h2.JC _,(hk.mono (λb _ aj=>F4 c toq b aj)).setCell (p:=ad c 2 ab) ⟨aI,aI⟩ _⟩
 have a:pY toq t=1:=by unfold pY;rw[aD (.inl aN)]
 have d:=B7 (s:=s) (most:=most) (toq:=toq) (t:=t) (λaR=>aN aR.1);rw[a,d.1,d.2]
 go_in
 go_wp2_with fail;refine br (xl c toq aN w) ?_;go_wp2_with fail;go_ret2;exact⟨rfl,h,Keeps.refl _ _⟩
end
section
variable{w w':ai}{c m most:J}{s:cT}
def EJ(bl w:ai)(c most:J)(k:J):ak:=Below bl bl w/\bl.heap.size<=c/\
 ((k=0/\w.heap[c]?=some (ae #[.pointer none,.pointer none,I 0] 184 (0,0))/\w.heap.size=c+1)\/
 (k=1/\w.heap[c]?=some (ae #[.pointer (some (ad (c+2) 0 ab)),.pointer none,I 0] 184 (0,0))/\iu w (c+2) (c+1) most ([]:ah cc)/\w.heap.size=c+3)\/
 (k=2/\eM w c most ⟨[],[],0⟩))
def Ft(most:J)(h1:1<=most)(h2:most<=64)(w:ai):az 57 #[I most] w λe w'=>e=aV #[w.heap.size,I 0]/\eM w' w.heap.size most ⟨[],[],0⟩/\Below w w w':=by
 have j:=af (show EJ w (w.alloc (ae #[.pointer none,.pointer none,I 0] 184)) w.heap.size most 0 from⟨(bY _ w).alloc bA _,c9 _,.inl ⟨rfl,aW _ _,aI⟩⟩)
 go_in
 go_wp2_with fail;go_loopw [16] (λi wr=>∃ k:J,k<=2/\i=I k/\Hid (EJ w wr w.heap.size most k)) (λi _=>2-(intOf i).toNat)
 case atStart=>exact⟨0,U,rfl,j⟩
 obtain⟨k,hk,rfl,l⟩:=hrel;obtain⟨bP,g,n⟩:=l.out;rcases n with⟨rfl,aR,ax⟩|⟨rfl,aR,m,ax⟩|⟨rfl,aq⟩
 .go_wp2_with fail;refine aT (IJ most h1 U wr) ?_;rintro aB ⟨d,a,f⟩;rw[ax]at d f a;have o:=af ax;have c:=(a.block w.heap.size U).trans aR;have f0:=bJ c;have bu:=aP c;rw[ax];go_wp2_with fail;go_roundw
  case rel=>
   have hk:=(Keeps.refl (λb=>b=w) aB).setCell (p:=ad w 0 ab) rfl (w.heap.size+2:J);refine⟨1,U,rfl,bP.trans ((a.mono U).setCell aI _),g,.inr (.inl ⟨rfl,bW c 0 (w.heap.size+2:J),d.keeps hk U U,?_⟩)⟩;rw[World.size_setCell,f]
  simp[intOf]
 .go_wp2_with fail;refine aT (IJ most h1 U wr) ?_;rintro aB ⟨d,a,f⟩;rw[ax]at d f a;have c:=(a.block w.heap.size U).trans aR;have f0:=bJ c;have bu:=aP c;rw[ax];go_wp2_with fail;go_roundw
  case rel=>
   have hk:=(Keeps.refl (λb=>b=w) aB).setCell (p:=ad w 1 ab) rfl (w.heap.size+4:J);exact⟨2,U,rfl,bP.trans ((a.mono U).setCell aI _),g,.inr (.inr ⟨rfl,⟨bW c 1 (w.heap.size+4:J),(m.keeps (S:=λb=>w.heap.size+3<=b) (Keeps.bE a (λ_ _ h=>h)) U U).keeps hk U U,d.keeps hk U U⟩⟩)⟩
  simp[intOf]
 go_wp2_with fail;go_ret2;exact⟨rfl,aq,bP⟩
end
end Go.Proofs.YtalagblioepadaaGreatDoor
