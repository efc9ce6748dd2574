/- The proof, part 14. -/
import Derived.Test.YtalagblioepadaaGreatDoorZc08
import Derived.Test.YtalagblioepadaaGreatDoorZc07
import Derived.Test.YtalagblioepadaaGreatDoorZc03
import Derived.OwnWalkIn
import Derived.Shelf.RegionOpen
import Derived.LoopNIn
import Derived.LoopIn
import Derived.Deep.Cut
import Derived.RangeFuncBox
namespace Go.Proofs.YtalagblioepadaaGreatDoor
set_option linter.all false
open Proofs.Tryz List Go.RowKit
set_option maxRecDepth 100000
set_option maxHeartbeats 800000
def z1{p:ak}(h:p:=by have:=(aj x g).1;omega):p:=h
def pB{p:ak}(h:p:=by simp only[maxLen];omega):p:=h
def uY{p:ak}(h:p:=by have:=(d.lt k hk).1;omega):p:=h
def zZ{p:ak}(h:p:=by have:=(s.lt b aj).1;omega):p:=h
def xf{p:ak}(h:p:=by simpa using bV Q.out 0 _):p:=h
def xe{p:ak}(h:p:=by have:=(d.lt _ e.symm).1;omega):p:=h
def NW{p:ak}(h:p:=by
 go_wp2_with fail;refine bA (qI h toq aO) ?_;go_wp2_with fail;go_ret2;exact⟨rfl,h,Keeps.refl _ _⟩
 ):p:=h
def L'{p:ak}(h:p:=by
 go_ret2;exact⟨rfl,h.put toq j hk,hk.mono (λb _ aj=>Gy c toq b aj)⟩
 ):p:=h
section
attribute [local go_sem] Oper.semAt_some
variable{w:ai}{r B size first n:J}{A:ah aa}
def VE(r:J)(w:ai):aA 310 #[r] w λe w'=>e=.returned (.func (.func 335) #[] #[w.heap.size])/\w.alloc (ae #[r] 119)=w':=by
 go_in
 go_wp2;go_ret;exact⟨rfl,rfl⟩
def Zq{α:Type}(L:List α)(k:J)(h:k<L.length):L.zipIdx=L.zipIdx.take k++(L[k],k) :: L.zipIdx.drop (k+1)/\L.zipIdx.take (k+1)=L.zipIdx.take k++[(L[k],k)]:=by
 have h2:k<L.zipIdx.length:=by simpa using h
 have e:L.zipIdx[k]=(L[k],k):=aK;refine⟨?_,?_⟩
 .rw[<-e,<-qm h2,l5]
 rw[l6 h2,e]
def Oj{L:ah aa}(c:RingAt w r B size A first L.length)(E:Holds A first size L)(b:J)(Y:b<w.heap.size)(al:w.cell? (ad b 0 ab)=some (.pointer (some (ad r 0 ab))))(f:J->ak)(i:¬ f b/\¬ f r/\¬ f B):pI prog 335 #[b] (λp:aa×J=>#[I p.2,(aF p.1)]) L.zipIdx f (λ_=>False) w:=by
 intro l z W O hk fr C H d;subst O;have j9:=bP c.head;have g':=bP c.body;have bO:=c.fb;have V:=c.most;refine gK.2 ?_
 go_in
 go_wp2_with fail
 go_loopw [3] (λv wr=>∃ k:J,k<=L.length/\v=I k/\wr.cell? (ad b 0 ab)=some (.pointer (some (ad r 0 ab)))/\RingAt wr r B size A first L.length/\z (L.zipIdx.take k) wr/\w.heap.size+2<=wr.heap.size)
  (λv _=>L.length-(intOf v).toNat)
 case atStart=>exact⟨0,c' _,rfl,hk.cell al id,c.keeps hk id id,xh,U⟩
 obtain⟨k,Z,rfl,M,a,t,Q⟩:=hrel;by_cases u:k<L.length
 .obtain⟨R,S⟩:=Zq L k u;have s:A[(first+k)%size]?=some L[k]:=(E k u).trans aK;obtain⟨q,j⟩:∃ q,(first+k)%size=q:=⟨_,rfl⟩;rw[j]at s;have bt:=a.bt;have X:=a.cell s;have a':=j▸e2 _ c.pos;have m:=af j;go_upto_region 3 with((go_at_call 55;refine(Cj a).mono ?_;rintro e w' ⟨rfl,rfl⟩))
  refine(oz (n:=0)).1 ?_;refine Y6 (Uc _ _) 11 aH aH aH ?_;simp only[hV,iy,hU,hI]
  repeat (go_big_quiet_step ((go_at_call 283;first|exact Calls.quiet_of (uk (a.drew _) k q _ U U m.o)|exact iK (uk (a.drew _) k q _ U U m.o))))
  refine wpQuiet_nil ?_;intro _ x;obtain⟨nq,y⟩:=x;subst y;obtain⟨fn,tmps,assign,body,gf,G⟩:=H (L.zipIdx.take k) (L[k],k) (L.zipIdx.drop (k+1)) (wr.drewN nq) R (C _ _ _ t ((Keeps.refl _ wr).drewN nq));gi_wp2;refine⟨rfl,G.mono ?_⟩;rintro e T ⟨rfl,D,g⟩;have K:=g.cell (p:=ad b 0 ab) M (λh=>h.elim i.1 (λh=>mK));have F:=(a.drew nq).keeps g (λh=>h.elim i.2.1 a7) (λh=>h.elim i.2.2 a7);have P:=g.size;gi_wp2;go_wp2;go_roundw
  case rel=>exact⟨k+1,U,by go_num,K,F,by rw[S];exact D,b7 Q P⟩
  simp[intOf];omega
 have N:L.zipIdx.take k=L.zipIdx:=nF bT;go_wp2_with ((go_at_call 55;refine(Cj a).mono ?_;rintro e w' ⟨rfl,rfl⟩));go_end0;exact⟨⟨_,rfl⟩,by rw[<-N];exact t⟩
def HQ:(prog.info? 5).map (λi=>(i.zero,i.size,i.bytes))=some (some (aF 0),1,1):=aH
def zip_map(L:ah aa):L.zipIdx.map (λp=>(aF p.1))=L.map (λx=>(aF x)):=by
 have:(λp:aa×J=>((aF p.1):ax))=(λx=>(aF x)) ∘ Prod.fst:=rfl
 rw[this,<-map_map]
 congr 1
 exact zipIdx_map_fst 0 L
def Vz{L:ah aa}(i:RingAt w r B size A first L.length)(F:Holds A first size L):aA 263 #[r] w λe w'=>∃ a cap,e=.returned (aq a L.length cap)/\dR w' 1 a L.length cap (L.map λx=>(aF x))/\(∀ x,a=some x->w.heap.size<=x.block)/\Below w w w':=by
 obtain⟨T,aw,O,P,R⟩:=ny HQ;have j9:=bP i.head;have l':=bP i.body;have bO:=i.fb;have V:=i.most;refine(gK (n:=0)).1 ?_;refine callsIn_of_wp_marks func263 rfl trivial ?_ rfl;simp only[ntmps263,gW,ds,e_,Nat.reduceAdd,Nat.reduceSub,sJ,sK,sT,sM,nD,kF];gi_wp2_with (fail);refine⟨trivial,rfl,gK.2 ((VE r _).mono ?_)⟩;rintro e aC ⟨rfl,N⟩;gi_wp2_with (fail);subst N
 have G:RingAt ((w.alloc (ae #[aq none 0 0] 51)).alloc (ae #[r] 119)) r B size A first L.length:=
  i.keeps (S:=aI) (((Keeps.refl _ w).alloc _).alloc _) id id
 refine C_ (gf:=335) (lb:=#[.pointer (some (ad (w+1) 0 ab))]) rfl (enters_of func335 aH rfl)
  (λ_=>rfl) L.zipIdx (λk=>k=w.heap.size\/w.heap.size+3<k) (λ_=>False)
  (Oj G F (w.heap.size+1) aK (by go_simp) _ ⟨U,U,U⟩)
  bT aK
  (λpre W=>(∃ v,W.heap[w.heap.size]?=some (ae #[v] 51 (0,0))/\W.ownsRow (w.heap.size+4) 5 1 v pre.length (pre.map λp=>(aF p.1)))/\Below w w W/\w.heap.size+2<=W.heap.size)
  (λpre A B ⟨⟨v,f,d⟩,c,q⟩ hd hk=>⟨⟨v,hk.heap f (λh=>mK),b4 d hk (λb aj h=>by have:=(d.lt b aj).1;simp at h;omega)⟩,c.trans (hk.below c.size (λk h1 h2=>by simp at h2;omega)),b7 q hk.size⟩)
  ⟨⟨_,cm (aX _ _) _,gI _ _ _ _⟩,((b3 _ w).alloc bs _).alloc aK _,aK⟩
  (λx=>{tmps:=#[.pointer (some (ad r 0 ab)),undef,aq none 0 0,.pointer (some (ad w 0 ab)),undef,(aF x.1),.pointer (some (ad r 0 ab)),.func (.func 335) #[] #[.pointer (some (ad (w+1) 0 ab))],I x.2,(aF x.1),undef,undef,undef,undef,undef],defers:=[]})
  ?assign ?body ?done
 case assign=>
  intro l x W K E;gi_wp2;exact E
 case body=>
  rintro l pre x rest j a' g ⟨⟨v,f,d⟩,c,q⟩ M;have H:=cV length g;simp at H;have fr:pre.length+1<=4096:=U;have C:=jv f;have Y:=nx f;have z:=af f;gi_wp2_with (gi_at_builtin;refine wpListIn_append_own _ rfl _ _ 51 rfl (w.heap.size+4) 5 T (aF 0) 1 1 underlying51 aw O P R rfl bq _ _ _ rfl (d.alloc _) (ad j 0 ab) 1 1 [(aF x.1)] rfl rfl (oy _ _ _) mJ pB U (by simp at M⊢;omega) ?_;intro v' ao s m _;have t:Keeps (λk=>k=w.heap.size\/w.heap.size+3<k) j ao:=((Keeps.refl _ j).alloc _).grown m (λk hk=>.inl (.inr uY));obtain⟨g',y,rfl⟩:=ownsRow_succ s;have h2:=(m.block w.heap.size bT (λe=>xe)).trans (cm z.o _);have X:=jv h2;have Z:=nx h2;have Q:=af h2;clear h2 m);have u:=t.setCell (p:=ad w 0 ab) (.inl rfl) (aq (some (ad g' 0 ab)) (pre.length+1) y);refine⟨u,⟨_,xf,b4 s ((Keeps.refl (λk=>k=w) ao).setCell (p:=ad w 0 ab) rfl _) (λb aj h=>zZ)⟩,c.trans (u.below c.size a7),?_⟩
  have:=t.size
  omega
 rintro W ⟨⟨v,f,d⟩,c,q⟩ D;have C:=jv f;rw[length_zipIdx,zip_map]at d;obtain⟨a,cap,rfl,aW,aj⟩:=cS d;gi_wp2;refine⟨aK,.inl ⟨_,_,rfl,run_takeDeferred D,?_⟩⟩;refine⟨_,zz rfl _ _ _,a,cap,rfl,aW.keeps (S:=λk=>k=w.heap.size+2) ((Keeps.refl _ W).putObj aK _) (λ_ x g=>z1),λx g=>z1,?_⟩;exact c.trans (((Keeps.refl (λk=>w.heap.size<=k) W).putObj bT _).below c.size a7)
def VA(size:J)(h1:1<=size)(h2:size<=4096)(w:ai):aA 195 #[I size] w λe w'=>e=aV #[.pointer (some (ad (w+1) 0 ab)),I 0]/\RingAt w' (w.heap.size+1) w.heap.size size (replicate size 0) 0 0/\Below w w w'/\w'.heap.size=w.heap.size+2:=by
 have⟨g,aw,c,f,d⟩:=ny HQ;have hd:decide (1<=(size:aa)/\(size:aa)<=4096)=true:=bT;have b:=run_make (P:=prog) w 51 5 g (aF 0) underlying51 aw c .i64 .i64 size size U (jw _) vd U;have a:madeCells ((aF 0):ax).cells size=((replicate size (0:aa)).map λx=>(aF x)).toArray:=by
  apply Dl.1;rw[show((aF 0):ax).cells=#[(aF 0)]from rfl,LD];simp
 rw[f,rq,zS,a]at b
 go_in
 go_wp2_with fail;refine bA (yU size w) ?_;rw[hd];go_wp2;go_ret2;refine⟨rfl,⟨?_,?_,aK,h1,h2,U,U,U⟩,((b3 _ w).alloc bs _).alloc aK _,aK⟩
 .have:=aX (w.alloc (ae ((replicate size (0:aa)).map λx=>(aF x)).toArray 5)) (ae #[aq (some (ad w 0 ab)) size size,I 0,I 0] 181)
  simpa using this
 have:=cm (aX w (ae ((replicate size (0:aa)).map λx=>(aF x)).toArray 5)) (ae #[aq (some (ad w 0 ab)) size size,I 0,I 0] 181)
 simpa using this
end
section
attribute [local go_sem] Oper.semAt_some
def k1(L:ah aa):ah ax:=L.map λx=>I x
def Sc:(prog.info? 3).map (λi=>(i.zero,i.size,i.bytes))=some (some (I 0),1,8):=aH
variable{w:ai}
def WQ{α:Type}(g:α->aa)(gf:J)(lb:a6 ax)(D:∀ args w,(callFunc gf args).run prog w=.ok (.enter gf args) w)(L:List α)(T:L.length<=4096)(E:pI prog gf lb (λx:α=>#[I (g x)]) L (λk=>k=w.heap.size\/w.heap.size+2<k) (λ_=>False) (w.alloc (ae #[aq none 0 0] 141))):aA 124 #[aq none 0 0,.func (.func gf) #[] lb] w λe w'=>∃ v,e=.returned v/\w'.ownsRow (w.heap.size+3) 3 1 v L.length (k1 (L.map g))/\Below w w w':=by
 obtain⟨P,aw,M,N,O⟩:=ny Sc;refine(gK (n:=0)).1 ?_;refine callsIn_of_wp_marks func124 rfl trivial ?_ rfl;simp only[ntmps124,gW,ds,e_,Nat.reduceAdd,Nat.reduceSub,sJ,sK,sT,sM,nD,kF];gi_wp2_with (fail)
 refine C_ (gf:=gf) (lb:=lb) rfl D (λ_=>rfl) L (λk=>k=w.heap.size\/w.heap.size+2<k) (λ_=>False) E
  bT aK
  (λpre W=>(∃ v,W.heap[w.heap.size]?=some (ae #[v] 141 (0,0))/\W.ownsRow (w.heap.size+3) 3 1 v pre.length (k1 (pre.map g)))/\Below w w W/\w.heap.size+1<=W.heap.size)
  (λpre A B ⟨⟨v,f,d⟩,c,m⟩ X hk=>⟨⟨v,hk.heap f (λh=>mK),b4 d hk (λb aj h=>by have:=(d.lt b aj).1;simp at h;omega)⟩,c.trans (hk.below c.size (λk h1 h2=>by simp at h2;omega)),b7 m hk.size⟩)
  ⟨⟨_,aX _ _,gI _ _ _ _⟩,(b3 _ w).alloc bs _,aK⟩
  (λx=>{tmps:=#[aq none 0 0,.func (.func gf) #[] lb,.pointer (some (ad w 0 ab)),undef,aq none 0 0,I (g x),.func (.func gf) #[] lb,I (g x),undef,undef,undef,undef,undef],defers:=[]})
  ?assign ?body ?done
 case assign=>
  intro l x W K C;gi_wp2;exact C
 case body=>
  rintro l pre x rest i V H ⟨⟨v,f,d⟩,c,m⟩ G;have F:=cV length H;simp at F;have y:=jv f;have u:=af f;gi_wp2_with (gi_at_builtin;refine wpListIn_append_own _ rfl _ _ 141 rfl (w.heap.size+3) 3 P (I 0) 1 8 underlying141 aw M N O rfl bq _ _ _ rfl (d.alloc _) (ad i 0 ab) 1 1 [I (g x)] rfl rfl (oy _ _ _) mJ pB U (by simp at G⊢;omega) ?_;intro v' ao s j _;have q:Keeps (λk=>k=w.heap.size\/w.heap.size+2<k) i ao:=((Keeps.refl _ i).alloc _).grown j (λk hk=>.inl (.inr uY));obtain⟨g',t,rfl⟩:=ownsRow_succ s;have h2:=(j.block w.heap.size bT (λe=>xe)).trans (cm u.o _);have R:=jv h2;have S:=nx h2;have Q:=af h2;clear h2 j);have r:=q.setCell (p:=ad w 0 ab) (.inl rfl) (aq (some (ad g' 0 ab)) (pre.length+1) t);refine⟨r,⟨_,xf,by simpa[k1]using b4 s ((Keeps.refl (λk=>k=w) ao).setCell (p:=ad w 0 ab) rfl _) (λb aj h=>zZ)⟩,c.trans (r.below c.size a7),?_⟩
  have:=q.size
  omega
 rintro W ⟨⟨v,f,d⟩,c,m⟩ z;have y:=jv f;obtain⟨a,cap,rfl,aW,aj⟩:=cS d;gi_wp2;refine⟨aK,.inl ⟨_,_,rfl,run_takeDeferred z,?_⟩⟩;refine⟨_,zz rfl _ _ _,_,rfl,b4 d ((Keeps.refl (λk=>k=w+1) W).putObj aK _) (λb aj h=>by have:=(d.lt b aj).1;omega),?_⟩;exact c.trans (((Keeps.refl (λk=>w.heap.size<=k) W).putObj aK _).below c.size a7)
def JZ{α:Type}(g:α->aa)(gf:J)(lb:a6 ax)(b:∀ args w,(callFunc gf args).run prog w=.ok (.enter gf args) w)(L:List α)(a:L.length<=4096)(c:pI prog gf lb (λx:α=>#[I (g x)]) L (λk=>k=w.heap.size\/w.heap.size+2<k) (λ_=>False) (w.alloc (ae #[aq none 0 0] 141))):aA 78 #[.func (.func gf) #[] lb] w λe w'=>∃ v,e=.returned v/\w'.ownsRow (w.heap.size+3) 3 1 v L.length (k1 (L.map g))/\Below w w w':=by
 go_in
 go_wp2_with fail;refine(WQ g gf lb b L a c).mono ?_;rintro e w' ⟨v,rfl,d,aj⟩;go_wp2;go_ret;exact⟨_,rfl,d,aj⟩
end
section
def j2(w:ai)(r B size:J)(L:ah aa):ak:=∃ A first,RingAt w r B size A first L.length/\Holds A first size L
variable{w:ai}{r B size:J}{L:ah aa}
def j2.keeps{w':ai}{S:J->ak}(h:j2 w r B size L)(hk:Keeps S w w')(b:¬ S r)(a:¬ S B):j2 w' r B size L:=by
 exact D9
def j2.le(h:j2 w r B size L):L.length<=size/\1<=size/\size<=4096/\r<w.heap.size/\B<w.heap.size/\r≠B:=by
 exact D5
def vU(h:j2 w r B size L):aA 55 #[r] w λe w'=>e=.returned (I L.length)/\w=w':=by
 have⟨A,f,h1,h2⟩:=h;exact Cj h1
def Sy(h:j2 w r B size L)(ar:L.length<size)(v:aa):aA 217 #[r,(aF v)] w λe w'=>e=.returned (I 0)/\j2 w' r B size (L++[v])/\Keeps (λb=>b=r\/b=B) w w':=by
 obtain⟨A,f,h1,h2⟩:=h;refine aU (VC h1 ar _ rfl v) ?_;rintro w' ⟨a,c⟩;exact⟨rfl,⟨_,f,s5,h2.push h1.fst h1.gM ar v⟩,c⟩
def Sz(h:j2 w r B size L)(ar:L.length=size)(v:aa):aA 217 #[r,(aF v)] w λe w'=>e=.returned (I 8)/\j2 w' r B size L/\Keeps (λb=>b=r\/b=B) w w':=by
 obtain⟨A,f,h1,h2⟩:=h;refine aU (VD h1 ar v) ?_;rintro w' ⟨m,rfl⟩;exact⟨rfl,⟨_,f,h1.drew m,h2⟩,(Keeps.refl _ w).drewN m⟩
def Sx{v:aa}(h:j2 w r B size (v :: L)):aA 333 #[r] w λe w'=>e=aV #[(aF v),true]/\j2 w' r B size L/\Keeps (λb=>b=r\/b=B) w w':=by
 obtain⟨A,f,h1,h2⟩:=h;have d:=h2 0 aK;rw[rC,jh h1.fst]at d;refine aU (VB h1 aK _ rfl v xh) ?_;rintro w' ⟨a,c⟩;exact⟨rfl,⟨_,_,s5,h2.pop h1.fst h1.fb aK _⟩,c⟩
def Sv(h:j2 w r B size L):aA 263 #[r] w λe w'=>∃ a cap,e=.returned (aq a L.length cap)/\dR w' 1 a L.length cap (L.map λx=>(aF x))/\(∀ x,a=some x->w.heap.size<=x.block)/\Below w w w':=by
 have⟨A,f,h1,h2⟩:=h;exact Vz h1 h2
def Sw(size:J)(h1:1<=size)(h2:size<=4096)(w:ai):aA 195 #[I size] w λe w'=>e=aV #[.pointer (some (ad (w+1) 0 ab)),I 0]/\j2 w' (w.heap.size+1) w.heap.size size ([]:ah aa)/\Below w w w'/\w'.heap.size=w.heap.size+2:=by
 refine aU (VA size h1 h2 w) ?_;rintro w' ⟨a,b⟩;exact⟨rfl,⟨_,0,a,λt aO=>absurd aO (lp _)⟩,b⟩
end
section
attribute [local go_sem] Oper.semAt_some
variable{w:ai}{r B size first n:J}{A:ah cc}
def UW:(prog.info? 9).map (λi=>(i.zero,i.size,i.bytes))=some (some (Value.string ByteArray.empty),1,16):=aH
def U7(size:J)(h1:1<=size)(h2:size<=4096)(w:ai):aA 83 #[I size] w λe w'=>e=aV #[.pointer (some (ad (w+1) 0 ab)),I 0]/\QRingAt w' (w.heap.size+1) w.heap.size size (replicate size ByteArray.empty) 0 0/\Below w w w'/\w'.heap.size=w.heap.size+2:=by
 have⟨g,aw,c,f,d⟩:=ny UW;have hd:decide (1<=(size:aa)/\(size:aa)<=4096)=true:=bT;have b:=run_make (P:=prog) w 33 9 g (Value.string ByteArray.empty) underlying33 aw c .i64 .i64 size size U (jw _) vd U;have a:madeCells ((Value.string ByteArray.empty):ax).cells size=((replicate size (ByteArray.empty:cc)).map λx=>(Value.string x)).toArray:=by
  apply Dl.1;rw[show((Value.string ByteArray.empty):ax).cells=#[(Value.string ByteArray.empty)]from rfl,LD];simp
 rw[f,rq,zS,a]at b
 go_in
 go_wp2_with fail;refine bA (Va size w) ?_;rw[hd];go_wp2;go_ret2;refine⟨rfl,⟨?_,?_,aK,h1,h2,U,U,U⟩,((b3 _ w).alloc bs _).alloc aK _,aK⟩
 .have:=aX (w.alloc (ae ((replicate size (ByteArray.empty:cc)).map λx=>(Value.string x)).toArray 9)) (ae #[aq (some (ad w 0 ab)) size size,I 0,I 0] 239)
  simpa using this
 have:=cm (aX w (ae ((replicate size (ByteArray.empty:cc)).map λx=>(Value.string x)).toArray 9)) (ae #[aq (some (ad w 0 ab)) size size,I 0,I 0] 239)
 simpa using this
end
section
def iC(w:ai)(r B size:J)(L:ah cc):ak:=∃ A first,QRingAt w r B size A first L.length/\Holds A first size L
variable{w:ai}{r B size:J}{L:ah cc}
def iC.keeps{w':ai}{S:J->ak}(h:iC w r B size L)(hk:Keeps S w w')(b:¬ S r)(a:¬ S B):iC w' r B size L:=by
 exact D9
def iC.le(h:iC w r B size L):L.length<=size/\1<=size/\size<=4096/\r<w.heap.size/\B<w.heap.size/\r≠B:=by
 exact D5
def UZ(h:iC w r B size L):aA 82 #[r] w λe w'=>e=.returned (I L.length)/\w=w':=by
 have⟨A,f,h1,h2⟩:=h;exact U6 h1
def UX(h:iC w r B size L)(i:J)(x:aa)(a:x=i)(v:cc)(aW:L[i]?=some v):aA 165 #[r,I x] w λe w'=>e=aV #[(Value.string v),true]/\∃ m,w'=w.drewN m:=by
 obtain⟨A,f,h1,h2⟩:=h;have aw:=(hp.1 aW).1;exact Jb h1 i _ x a aw rfl v ((h2 i aw).trans aW)
def UY(h:iC w r B size L)(x:aa)(a:x<0\/(L.length:aa)<=x):aA 165 #[r,I x] w λe w'=>e=aV #[(Value.string ByteArray.empty),false]/\w=w':=by
 have⟨A,f,h1,h2⟩:=h;exact Jc h1 x a
def U0(h:iC w r B size L)(ar:L.length<size)(v:cc):aA 95 #[r,(Value.string v)] w λe w'=>e=.returned (I 0)/\iC w' r B size (L++[v])/\Keeps (λb=>b=r\/b=B) w w':=by
 obtain⟨A,f,h1,h2⟩:=h;refine aU (U8 h1 ar _ rfl v) ?_;rintro w' ⟨a,c⟩;exact⟨rfl,⟨_,f,s5,h2.push h1.fst h1.gM ar v⟩,c⟩
def U1(h:iC w r B size L)(ar:L.length=size)(v:cc):aA 95 #[r,(Value.string v)] w λe w'=>e=.returned (I 8)/\iC w' r B size L/\Keeps (λb=>b=r\/b=B) w w':=by
 obtain⟨A,f,h1,h2⟩:=h;refine aU (U9 h1 ar v) ?_;rintro w' ⟨m,rfl⟩;exact⟨rfl,⟨_,f,h1.drew m,h2⟩,(Keeps.refl _ w).drewN m⟩
def U2(h:iC w r B size L)(i:J)(x:aa)(d:x=i)(v:cc)(aW:L[i]?=some v):aA 164 #[r,I x] w λe w'=>e=aV #[(Value.string v),true]/\iC w' r B size (L.eraseIdx i)/\Keeps (λb=>b=r\/b=B) w w':=by
 obtain⟨A,f,h1,h2⟩:=h;have aw:=(hp.1 aW).1;refine aU (U_ h1 h2 i x d aw v aW) ?_;rintro w' ⟨hk,cB,a,c⟩;exact⟨rfl,⟨cB,f,by rw[length_eraseIdx_of_lt aw];exact a,c⟩,hk⟩
def U3(h:iC w r B size L)(x:aa)(a:x<0\/(L.length:aa)<=x):aA 164 #[r,I x] w λe w'=>e=aV #[(Value.string ByteArray.empty),false]/\w=w':=by
 have⟨A,f,h1,h2⟩:=h;exact U' h1 x a
def I'(size:J)(h1:1<=size)(h2:size<=4096)(w:ai):aA 83 #[I size] w λe w'=>e=aV #[.pointer (some (ad (w+1) 0 ab)),I 0]/\iC w' (w.heap.size+1) w.heap.size size ([]:ah cc)/\Below w w w'/\w'.heap.size=w.heap.size+2:=by
 refine aU (U7 size h1 h2 w) ?_;rintro w' ⟨a,b⟩;exact⟨rfl,⟨_,0,a,λt aO=>absurd aO (lp _)⟩,b⟩
end
def U4(w:ai):aA 82 #[.pointer none] w λe w'=>e=.returned (I 0)/\w=w':=by
 go_in
 go_wp2;go_ret;exact⟨rfl,rfl⟩
def Ja(x:aa)(w:ai):aA 165 #[.pointer none,I x] w λe w'=>e=aV #[(Value.string ByteArray.empty),false]/\w=w':=by
 go_in
 go_wp2;go_ret2;exact⟨rfl,rfl⟩
def U5(x:aa)(w:ai):aA 164 #[.pointer none,I x] w λe w'=>e=aV #[(Value.string ByteArray.empty),false]/\w=w':=by
 go_in
 go_wp2_with fail;refine(Ja x w).mono ?_;rintro e w' ⟨rfl,rfl⟩;go_wp2;go_ret2;exact⟨rfl,rfl⟩
structure cT where
 a:ah cc
 b:ah cc
 lost:aa
def cT.get(s:cT)(toq:aa):ah cc:=if toq=0 then s.a else s.b
def cT.put(s:cT)(toq:aa)(L:ah cc):cT:=if toq=0 then {s with a:=L}else {s with b:=L}
def iv(toq:aa):ak:=toq=0\/toq=1
instance (toq:aa):Decidable (iv toq):=by unfold iv;infer_instance
def qR(c:J)(toq:aa):J:=if toq=0 then c+2 else c+4
def rV(c:J)(toq:aa):J:=if toq=0 then c+1 else c+3
def hh(c:J)(b:J):ak:=c<=b/\b<=c+4
structure eS(w:ai)(c most:J)(s:cT):ak where
 head:w.heap[c]?=some (ae #[.pointer (some (ad (c+2) 0 ab)),.pointer (some (ad (c+4) 0 ab)),I s.lost] 184 (0,0))
 wo:iC w (c+2) (c+1) most s.a
 nd:iC w (c+4) (c+3) most s.b
theorem eS.keeps{w w':ai}{c most:J}{s:cT}{S:J->ak}(h:eS w c most s)(hk:Keeps S w w')(av:∀ b,hh c b->¬ S b):eS w' c most s:=
 ⟨hk.heap h.head (av c ⟨U,U⟩),h.wo.keeps hk (av _ ⟨U,U⟩) (av _ ⟨U,U⟩),h.nd.keeps hk (av _ ⟨U,U⟩) (av _ ⟨U,U⟩)⟩
section
variable{w w':ai}{c most:J}{s:cT}
def eS.ring(h:eS w c most s)(toq:aa):iC w (qR c toq) (rV c toq) most (s.get toq):=by
 unfold qR rV cT.get;split
 .exact h.wo
 exact h.nd
theorem eS.put(h:eS w c most s)(toq:aa){L:ah cc}(a:iC w' (qR c toq) (rV c toq) most L)(hk:Keeps (λb=>b=qR c toq\/b=rV c toq) w w'):eS w' c most (s.put toq L):=by
 unfold qR rV at a hk;unfold cT.put;split
 .rename_i e;simp only[e,if_true]at a hk;exact⟨hk.heap h.head U,a,h.nd.keeps hk U U⟩
 rename_i e;simp only[e,if_false]at a hk;exact⟨hk.heap h.head U,h.wo.keeps hk U U,a⟩
def Gy(c:J)(toq:aa)(b:J)(h:b=qR c toq\/b=rV c toq):hh c b:=by
 unfold qR rV at h;unfold hh;split at h<;>omega
def qI(h:eS w c most s)(toq:aa)(aO:iv toq):aA 81 #[c,I toq] w λe w'=>e=.returned (.pointer (some (ad (qR c toq) 0 ab)))/\w=w':=by
 have bt:=aS h.head;rcases aO with rfl|rfl
 .go_in
  go_wp2;go_ret;exact⟨rfl,rfl⟩
 go_in
 go_wp2;go_ret;exact⟨rfl,rfl⟩
def xH(c:J)(toq:aa)(aO:¬ iv toq)(w:ai):aA 81 #[c,I toq] w λe w'=>e=.returned (.pointer none)/\w=w':=by
 unfold iv at aO;by_cases a:toq<0
 .clear aO
  go_in
  go_wp2;go_ret;exact⟨rfl,rfl⟩
 have h1:2<=toq:=U
 go_in
 go_wp2;go_ret;exact⟨rfl,rfl⟩
def fP(s:cT)(toq i:aa):b5 cc:=if iv toq/\0<=i then(s.get toq)[i.toNat]? else none
def fH(s:cT)(toq i:aa):cT:=if iv toq/\0<=i then s.put toq ((s.get toq).eraseIdx i.toNat)else s
def CK(o:b5 cc):ax:=.string (o.getD ByteArray.empty)
def cT.B'(s:cT)(toq:aa):s.put toq (s.get toq)=s:=by unfold cT.put cT.get;split<;>rfl
def AH{toq i:aa}(aO:iv toq)(h:i<0\/((s.get toq).length:aa)<=i):fP s toq i=none/\fH s toq i=s:=by
 unfold fP fH;by_cases a:0<=i
 .have:(s.get toq).length<=i.toNat:=U
  rw[aD ⟨aO,a⟩,aD ⟨aO,a⟩,eraseIdx_of_length_le this,cT.B'];exact⟨by simpa using this,rfl⟩
 rw[az (λh=>a h.2),az (λh=>a h.2)];exact⟨rfl,rfl⟩
def FU(h:eS w c most s)(toq i:aa):aA 99 #[c,I toq,I i] w λe w'=>e=aV #[CK (fP s toq i),.bool (fP s toq i).isSome]/\∃ q,w'=w.drewN q:=by
 by_cases aO:iv toq
 .by_cases aw:0<=i/\i<(s.get toq).length
  .obtain⟨k,rfl⟩:=l2 aw.1;have hk:k<(s.get toq).length:=U;have a:fP s toq k=some (s.get toq)[k]:=by unfold fP;rw[aD ⟨aO,aw.1⟩];simp[hk]
   rw[a]
   go_in
   go_wp2_with fail;refine bA (qI h toq aO) ?_;go_wp2_with fail;refine aU (UX (h.ring toq) k _ rfl _ ((show(s.get toq)[k]?=some (s.get toq)[k]by simp))) ?_;rintro w' ⟨q,rfl⟩;go_wp2;go_ret2;exact⟨rfl,_,rfl⟩
  have b:i<0\/((s.get toq).length:aa)<=i:=U;rw[(AH aO b).1]
  go_in
  go_wp2_with fail;refine bA (qI h toq aO) ?_;go_wp2_with fail;refine bA (UY (h.ring toq) i b) ?_;go_wp2;go_ret2;exact⟨rfl,0,rfl⟩
 have a:fP s toq i=none:=by unfold fP;rw[az (λh=>aO h.1)]
 rw[a]
 go_in
 go_wp2_with fail;refine bA (xH c toq aO w) ?_;go_wp2_with fail;refine bA (Ja i w) ?_;go_wp2;go_ret2;exact⟨rfl,0,rfl⟩
def ts(h:eS w c most s)(toq i:aa):aA 98 #[c,I toq,I i] w λe w'=>e=aV #[CK (fP s toq i),.bool (fP s toq i).isSome]/\eS w' c most (fH s toq i)/\Keeps (hh c) w w':=by
 by_cases aO:iv toq
 .by_cases aw:0<=i/\i<(s.get toq).length
  .obtain⟨k,rfl⟩:=l2 aw.1;have hk:k<(s.get toq).length:=U;have a:fP s toq k=some (s.get toq)[k]:=by unfold fP;rw[aD ⟨aO,aw.1⟩];simp[hk]
   have d:fH s toq k=s.put toq ((s.get toq).eraseIdx k):=by unfold fH;rw[aD ⟨aO,aw.1⟩];rfl
   rw[a,d]
   go_in
   go_wp2_with fail;refine bA (qI h toq aO) ?_;go_wp2_with fail;refine aU (U2 (h.ring toq) k _ rfl _ ((show(s.get toq)[k]?=some (s.get toq)[k]by simp))) ?_;rintro w' ⟨j,hk⟩;go_wp2;exact L'
  have b:i<0\/((s.get toq).length:aa)<=i:=U;rw[(AH aO b).1,(AH aO b).2]
  go_in
  go_wp2_with fail;refine bA (qI h toq aO) ?_;go_wp2_with fail;refine bA (U3 (h.ring toq) i b) ?_;go_wp2;go_ret2;exact⟨rfl,h,Keeps.refl _ _⟩
 have a:fP s toq i=none:=by unfold fP;rw[az (λh=>aO h.1)]
 have d:fH s toq i=s:=by unfold fH;rw[az (λh=>aO h.1)]
 rw[a,d]
 go_in
 go_wp2_with fail;refine bA (xH c toq aO w) ?_;go_wp2_with fail;refine bA (U5 i w) ?_;go_wp2;go_ret2;exact⟨rfl,h,Keeps.refl _ _⟩
def vY(s:cT)(toq:aa):aa:=if iv toq then((s.get toq).length:aa)else 0
def OX(h:eS w c most s)(toq:aa):aA 54 #[c,I toq] w λe w'=>e=.returned (I (vY s toq))/\w=w':=by
 unfold vY;by_cases aO:iv toq
 .rw[aD aO]
  go_in
  go_wp2_with fail;refine bA (qI h toq aO) ?_;go_wp2_with fail;refine bA (UZ (h.ring toq)) ?_;go_wp2;go_ret;exact⟨rfl,rfl⟩
 rw[az aO]
 go_in
 go_wp2_with fail;refine bA (xH c toq aO w) ?_;go_wp2_with fail;refine bA (U4 w) ?_;go_wp2;go_ret;exact⟨rfl,rfl⟩
theorem eS.J4(h:eS w c most s)(n:aa):eS (w.setCell (ad c 2 ab) (I n)) c most {s with lost:=n}:=
 ⟨by simpa using bV h.head 2 (I n),h.wo.keeps (S:=λb=>b=c) ((Keeps.refl (λb=>b=c) w).setCell (p:=ad c 2 ab) rfl _) U U,h.nd.keeps (S:=λb=>b=c) ((Keeps.refl (λb=>b=c) w).setCell (p:=ad c 2 ab) rfl _) U U⟩
def lA(s:cT)(toq i:aa):cT:=if (fP s toq i).isSome then {fH s toq i with lost:=s.lost+1}else s
def CM(s:cT)(toq i:aa):(fH s toq i).lost=s.lost:=by unfold fH cT.put;split<;>(try split)<;>rfl
def CN{toq i:aa}(h:fP s toq i=none):fH s toq i=s:=by
 unfold fP at h;unfold fH;split
 .rename_i al;rw[aD al]at h;rw[eraseIdx_of_length_le ik,cT.B']
 rfl
def OW(h:eS w c most s)(d:0<=s.lost/\s.lost<=1000000)(toq i:aa):aA 101 #[c,I toq,I i] w λe w'=>e=.returned (.bool (fP s toq i).isSome)/\eS w' c most (lA s toq i)/\Keeps (hh c) w w':=by
 have a:=af (ts h toq i);unfold lA;cases al:(fP s toq i)with
 | none=>
  rw[al,(CN al)]at a
  go_in
  go_wp2_with fail;refine aU a.out ?_;rintro aC ⟨h2,b⟩;go_wp2;go_ret;exact⟨rfl,h2,b⟩
 | some v=>
  rw[al]at a
  go_in
  go_wp2_with fail;refine aU a.out ?_;rintro aC ⟨h2,b⟩;have bo:aC.cell? (ad c 2 ab)=some (I s.lost):=by rw[<-(CM s toq i)];exact bb h2.head rfl
  have f2:=bI h2.head;go_wp2;go_ret;exact⟨rfl,h2.J4 _,b.setCell (p:=ad c 2 ab) ⟨aK,aK⟩ _⟩
end
def ua(t:cc):ak:=0<t.size/\t.size<=256
instance (t:cc):Decidable (ua t):=by unfold ua;infer_instance
def qa(toq:aa)(t:cc):aa:=if ¬ iv toq\/t.size=0 then 1 else if 256<t.size then 5 else 0
def sj(s:cT)(most:J)(toq:aa)(t:cc):aY:=decide (iv toq/\ua t/\(s.get toq).length<most)
def hD(s:cT)(most:J)(toq:aa)(t:cc):cT:=if iv toq/\ua t then(if (s.get toq).length<most then s.put toq (s.get toq++[t])else {s with lost:=s.lost+1})else s
section
variable{w w':ai}{c m most:J}{s:cT}
def P0(t:cc)(h:t.size=0):t.toList.isEmpty=true:=by
 rw[wQ,show t.data.toList=[]from jx.1 ik];rfl
def T7(t:cc)(h:0<t.size):t.toList.isEmpty=false:=by
 rw[wQ];cases hd:t.data.toList with
 | nil=>
  have h1:t.data.toList.length=t.size:=aK;rw[hd]at h1;simp at h1;omega
 | cons a l=>rfl
def Ct{toq:aa}{t:cc}(h:¬ (iv toq/\ua t)):sj s most toq t=false/\hD s most toq t=s:=by
 unfold sj hD;rw[az h];exact⟨by simp;exact λh1 h2=>absurd ⟨h1,h2⟩ h,rfl⟩
def OY(h:eS w c most s)(m:0<=s.lost/\s.lost<=1000000)(toq:aa)(t:cc)(n:t.size<=maxLen):aA 61 #[c,I toq,.string t] w λe w'=>e=aV #[(sj s most toq t),I (qa toq t)]/\eS w' c most (hD s most toq t)/\Keeps (hh c) w w':=by
 by_cases aO:iv toq
 .by_cases g:t.size=0
  .have a:qa toq t=1:=by unfold qa;rw[aD (.inr g)]
   have d:=Ct (s:=s) (most:=most) (toq:=toq) (t:=t) (λaJ=>by have:=aJ.2.1;omega);rw[a,d.1,d.2];have k:=P0 t g
   go_in
   exact NW
  have k:=T7 t U;by_cases h1:256<t.size
  .have a:qa toq t=5:=by unfold qa;rw[az (by simp[aO,g]),aD h1]
   have d:=Ct (s:=s) (most:=most) (toq:=toq) (t:=t) (λaJ=>by have:=aJ.2.2;omega);rw[a,d.1,d.2]
   go_in
   exact NW
  have a:qa toq t=0:=by unfold qa;rw[az (by simp[aO,g]),az h1]
  have i:ua t:=⟨U,U⟩;by_cases f:(s.get toq).length<most
  .have aj:sj s most toq t=true:=by unfold sj;simp[aO,i,f]
   have al:hD s most toq t=s.put toq (s.get toq++[t]):=by unfold hD;rw[aD ⟨aO,i⟩,aD f]
   rw[a,aj,al]
   go_in
   go_wp2_with fail;refine bA (qI h toq aO) ?_;go_wp2_with fail;refine aU (U0 (h.ring toq) f t) ?_;rintro w' ⟨j,hk⟩;go_wp2_with fail;exact L'
  have aj:sj s most toq t=false:=by unfold sj;simp[f]
  have al:hD s most toq t={s with lost:=s.lost+1}:=by unfold hD;rw[aD ⟨aO,i⟩,az f]
  rw[a,aj,al];have l:(s.get toq).length=most:=by have:=(h.ring toq).le.1;omega
  go_in
  go_wp2_with fail;refine bA (qI h toq aO) ?_;go_wp2_with fail;refine aU (U1 (h.ring toq) l t) ?_;rintro aC ⟨j,hk⟩;have h2:=h.put toq j hk;rw[cT.B']at h2;have bo:=aS h2.head;have f2:=bI h2.head;go_wp2_with fail;go_ret2;exact⟨rfl,h2.J4 _,(hk.mono (λb _ aj=>Gy c toq b aj)).setCell (p:=ad c 2 ab) ⟨aK,aK⟩ _⟩
 have a:qa toq t=1:=by unfold qa;rw[aD (.inl aO)]
 have d:=Ct (s:=s) (most:=most) (toq:=toq) (t:=t) (λaJ=>aO aJ.1);rw[a,d.1,d.2]
 go_in
 go_wp2_with fail;refine bA (xH c toq aO w) ?_;go_wp2_with fail;go_ret2;exact⟨rfl,h,Keeps.refl _ _⟩
end
section
variable{w w':ai}{c m most:J}{s:cT}
def E'(bk w:ai)(c most:J)(k:J):ak:=Below bk bk w/\bk.heap.size<=c/\
 ((k=0/\w.heap[c]?=some (ae #[.pointer none,.pointer none,I 0] 184 (0,0))/\w.heap.size=c+1)\/
 (k=1/\w.heap[c]?=some (ae #[.pointer (some (ad (c+2) 0 ab)),.pointer none,I 0] 184 (0,0))/\iC w (c+2) (c+1) most ([]:ah cc)/\w.heap.size=c+3)\/
 (k=2/\eS w c most ⟨[],[],0⟩))
def FV(most:J)(h1:1<=most)(h2:most<=64)(w:ai):aA 57 #[I most] w λe w'=>e=aV #[w.heap.size,I 0]/\eS w' w.heap.size most ⟨[],[],0⟩/\Below w w w':=by
 have j:=af (show E' w (w.alloc (ae #[.pointer none,.pointer none,I 0] 184)) w.heap.size most 0 from⟨(b3 _ w).alloc bs _,c9 _,.inl ⟨rfl,aX _ _,aK⟩⟩)
 go_in
 go_wp2_with fail;go_loopw [16] (λi wr=>∃ k:J,k<=2/\i=I k/\Hid (E' w wr w.heap.size most k)) (λi _=>2-(intOf i).toNat)
 case atStart=>exact⟨0,U,rfl,j⟩
 obtain⟨k,hk,rfl,l⟩:=hrel;obtain⟨bO,g,n⟩:=l.out;rcases n with⟨rfl,aJ,av⟩|⟨rfl,aJ,m,av⟩|⟨rfl,al⟩
 .go_wp2_with fail;refine aU (I' most h1 U wr) ?_;rintro aC ⟨d,a,f⟩;rw[av]at d f a;have o:=af av;have c:=(a.block w.heap.size U).trans aJ;have f0:=bI c;have bt:=aS c;rw[av];go_wp2_with fail;go_roundw
  case rel=>
   have hk:=(Keeps.refl (λb=>b=w) aC).setCell (p:=ad w 0 ab) rfl (w.heap.size+2:J);refine⟨1,U,rfl,bO.trans ((a.mono U).setCell aK _),g,.inr (.inl ⟨rfl,bV c 0 (w.heap.size+2:J),d.keeps hk U U,?_⟩)⟩;rw[World.size_setCell,f]
  simp[intOf]
 .go_wp2_with fail;refine aU (I' most h1 U wr) ?_;rintro aC ⟨d,a,f⟩;rw[av]at d f a;have c:=(a.block w.heap.size U).trans aJ;have f0:=bI c;have bt:=aS c;rw[av];go_wp2_with fail;go_roundw
  case rel=>
   have hk:=(Keeps.refl (λb=>b=w) aC).setCell (p:=ad w 1 ab) rfl (w.heap.size+4:J);exact⟨2,U,rfl,bO.trans ((a.mono U).setCell aK _),g,.inr (.inr ⟨rfl,⟨bV c 1 (w.heap.size+4:J),(m.keeps (S:=λb=>w.heap.size+3<=b) (Keeps.bD a (λ_ _ h=>h)) U U).keeps hk U U,d.keeps hk U U⟩⟩)⟩
  simp[intOf]
 go_wp2_with fail;go_ret2;exact⟨rfl,al,bO⟩
end
end Go.Proofs.YtalagblioepadaaGreatDoor
