/- The proof, part 23. -/
import Derived.Test.YtalagblioepadaaGreatDoorZe22
import Derived.Shelf.Spec.SlicesInsertGrow
namespace Go.Proofs.YtalagblioepadaaGreatDoor
set_option linter.all false
open Proofs.Tryz List Go.RowKit Go.Shelf Go.Lib
set_option maxRecDepth 100000
set_option maxHeartbeats 1000000
variable{ww:Prop}
def H6(h:ww:=by have:=gf.o _ e;omega):=h
def CV(h:ww:=by unfold ea at ao;omega):=h
def p6(h:ww:=by unfold ea at ar;omega):=h
def xn(h:ww:=by simp[Act.eval,Act.put]):=h
def H0(h:ww:=by show 0<=_/\_<=1000;omega):=h
def HV(h:ww:=by rw[c0 _ _ _ _ I,c0 _ _ _ _ I]):=h
variable{cs:a6 ay}{d f r:U}{b base b6 cap fO di:J}{p lX v':J->U}{A:cr Addr}{α:Type}{t:TypeId}{bw bP bB e3:ay}{W W':aj}
variable{w w':aj}
def BP{P:Program}(w:aj)(h s ty d:TypeId)(k g o c l:J)(a:Addr)(f r:J)(b:a6 ay)(t:TypeId)(cs:ai ay)(q:P.underlying h=some (.slice d))(aA:(P.info? d).map (·.size)=some k)(a7:w.heap[g]?=some (ab b t (0,0)))(aw:cs.length=Nat.min f c*k)(n:∀ j v,cs[j]?=some v->w.cell? (a.add j)=some v)(m:o+cs.length<=b.size)(h1:∀ v∈cs,v.oneCell'=true):(Builtin.copy_ #[h,s] ty #[au (dk g o) c l,au (some a) f r]).run P w =
   .ok (goInt (Nat.min f c:J)) (w.setRow g (b.toList.take o++cs++b.toList.drop (o+cs.length)).toArray):=by
 have p:=Hr P g o t cs 0 b w a7 (by simpa using m) h1;cases e:P.info? d with
 | none=>simp[e]at aA
 | some i=>
  have av:i.size=k:=by simpa[e]using aA
  simp[Builtin.copy_,tb q,Builtin.lenOf,Builtin.firstCells,sizeOf,typeInfo,e,av,<-aw,(zh (P:=P) w a cs n),p]
def KD(h:w.heap[b]?=some (ab cs t (0,0))):w.shape? b=some (t,cs.size):=by
 unfold World.shape?;rw[h]
def adJ{ev g o eC gx lb eX:J}{a:a6 ay}(hne:ev≠g)(a_:w.heap[ev]?=some (ab cs 45 (0,0)))(a7:w.heap[g]?=some (ab a 45 (0,0)))(an:a.size≠0):(callFunc 386 #[au (bT ev) eC gx,au (dk g o) lb eX]).run prog w=.ok (.value (.bool false)) w:=by
 have b:∀ w,(Go.sizeOf 45).run prog w=.ok 9 w:=λw=>bc
 rw[run_callFunc_extern func386 bc bc bc (e:=Extern.SlicesOverlaps.overlaps #[66,66] #[4]) bc,
  Lib.run_overlaps_apart w 66 4 45 underlying66 9 b (ah ev 0) (ah g o) eC gx lb eX hne 45 45 cs.size a.size (KD a_) (KD a7) an (gY a_ 0) (gY a_ _)]
 rfl
def yp:∃ i,prog.info? 45=some i/\i.zero=some (aG z9)/\i.size=9/\i.bytes=72:=by
 have h:(prog.info? 45).map (λi=>(i.zero,i.size,i.bytes))=some (some (aG z9),9,72):=bc;cases aT:prog.info? 45 with
 | none=>rw[aT]at h;cases h
 | some i=>rw[aT]at h;simp only[r7,jn,mM]at h;exact⟨i,rfl,h⟩
def tS(l:ai aE):∀ u∈b0 l,u.oneCell'=true:=by
 intro u b;obtain⟨e,_,a⟩:=xg.1 b;simp only[aE.bC,fW,CF,or_false]at a;rcases a with rfl|rfl|rfl|rfl|rfl|rfl|rfl|rfl|rfl<;>rfl
def vY(e:aE):b0 [e]=e.bC:=by simp[b0]
def AL(a b:ai aE):b0 (a++b)=b0 a++b0 b:=by simp[b0]
def ZE(e:aE)(b:ai aE):b0 (e :: b)=e.bC++b0 b:=by simp[b0]
def Ag(w:aj)(base:J)(v:ay)(ys:ai aE)(r:Ending)(w':aj):ae:=
 ∃ v',r=.returned v'/\w'.ownsRow base 45 9 v' ys.length (b0 ys)/\ag (λj=>v.ownBlock=some j) w w'/\(v'.ownBlock=v.ownBlock\/v'.ownBlock=some w.heap.size)
def Zn(xs:ai aE)(v:ay)(a:w.ownsRow base 45 9 v xs.length (b0 xs))(g:base<=w.heap.size)(aw:xs.length<=1000)(e:aE)(ev:J)(a_:w.heap[ev]?=some (ab e 45 (0,0))):aB 380 #[v,aa xs.length,au (bT ev) 1 1] w (Ag w base v (xs++[e])):=by
 obtain⟨q,i,m,n,p⟩:=yp;have d:=ad a;obtain⟨A,cap,rfl,_,_⟩:=dA a;have f:ey w 9 (bT ev) 1 1 e.bC:=y8 (xs:=e.bC) a_ rfl k6;have h1:∀ u∈e.bC,u.oneCell'=true:=by rw[<-vY];exact tS [e]
 have c:=ad f;have b:=ad h1
 go_in
 go_wp2_with (at_builtin;refine G1 _ rfl (.tmp 23) (.tmp 24) _ rfl base 45 q _ 9 72 underlying66 i m n p rfl I _ xs.length (b0 xs) rfl d.o (bT ev) 1 1 e.bC rfl c.o b.o qU I g ?_)
 all_goals
  intro v1 aF l h k;go_wp2_with fail;go_ret;refine⟨v1,rfl,?_,(ag.refl _ w).grown h (λj e=>.inl (by revert e;cases A<;>exact id)),by revert k;cases A<;>exact id⟩;rw[AL,vY,cG];exact l
def abJ{L X D E R:List α}(a:L=X++D++R)(c:E.length<=R.length):((((L.take (X.length+E.length)++D++L.drop (X.length+E.length+D.length)).take X.length++E++(L.take (X.length+E.length)++D++L.drop (X.length+E.length+D.length)).drop (X.length+E.length))).take (X.length+E.length+D.length)=X++E++D):=by
 have b:(L.take (X.length+E.length)).length=X.length+E.length:=by
  rw[h3,a];simp only[cG];omega
 have h1:(L.take (X.length+E.length)++D++L.drop (X.length+E.length+D.length)).take X.length=X:=by
  rw[eh,CH I,take_take,o3 I,a,eh,CI]
 have h2:(L.take (X.length+E.length)++D++L.drop (X.length+E.length+D.length)).drop (X.length+E.length)=D++L.drop (X.length+E.length+D.length):=by
  rw[eh,zk b]
 rw[h1,h2,<-eh,ti (by simp only[cG])]
def Zp(xs:ai aE)(g cap:J)(d:a6 ay)(M:base<=g)(p:w.heap[g]?=some (ab d 45 (0,0)))(N:xs.length+1<=cap)(O:cap<=maxLen)(R:d.size=cap*9)(C:d.toList.take (xs.length*9)=b0 xs)(aw:xs.length<=1000)(i:J)(av:i<xs.length)(e:aE)(ev:J)(a_:w.heap[ev]?=some (ab e 45 (0,0)))(hne:ev≠g):aB 380 #[au (bT g) xs.length cap,aa i,au (bT ev) 1 1] w (Ag w base (au (bT g) xs.length cap) (xs.take i++e :: xs.drop i)):=by
 have q:d.toList=b0 (xs.take i)++b0 (xs.drop i)++d.toList.drop (xs.length*9):=by
  exact VN
 have f:(b0 (xs.take i)).length=i*9:=by rw[vX,h3,o3 I]
 have l:(b0 (xs.drop i)).length=(xs.length-i)*9:=by rw[vX,iv]
 have c:e.bC.length=9:=rfl;have t:d.toList.length=cap*9:=by rw[r9];exact R
 have y:∀ j u,(b0 (xs.drop i))[j]?=some u->d[i*9+j]?=some u:=λj u r=>by
  exact R_
 have⟨b,n⟩:=c8 (d.toList.take ((i+1)*9)++b0 (xs.drop i)++d.toList.drop ((i+1)*9+(b0 (xs.drop i)).length));have B:b.length=cap*9:=by
  rw[n];simp only[cG,h3,iv,t,l];omega
 have P:∀ ty h dF,(Builtin.copy_ #[66,66] ty #[au (dk g ((i+1)*9)) (xs.length-i) h,au (dk g (i*9)) (xs.length+1-i) dF]).run prog w.drew=.ok (goInt (Nat.min (xs.length+1-i) (xs.length-i):J)) (w.drew.setRow g b.toArray):=λty h dF=>by
  rw[n];exact BP w.drew 66 66 ty 45 9 g ((i+1)*9) _ h (ah g (i*9)) _ dF d 45 (b0 (xs.drop i)) underlying66 bc p (by rw[l,show Nat.min (xs.length+1-i) (xs.length-i)=xs.length-i from HN I]) (λj v x=>by rw[iB];exact bb (w:=w.drew) p (y j v x)) (by rw[l];omega) (tS _)
 have s:=fb w.drew g d b.toArray 45 p;have⟨m,k⟩:=c8 (b.take (i*9)++e.bC++b.drop (i*9+9));have z:∀ ty h,(Builtin.copy_ #[66,66] ty #[au (dk g (i*9)) (xs.length+1-i) h,au (bT ev) 1 1]).run prog (w.drew.setRow g b.toArray)=.ok (goInt (Nat.min 1 (xs.length+1-i):J)) ((w.drew.setRow g b.toArray).setRow g m.toArray):=λty h=>by
  rw[k];exact BP (w.drew.setRow g b.toArray) 66 66 ty 45 9 g (i*9) _ h (ah ev 0) 1 1 b.toArray 45 e.bC underlying66 bc s (by rw[c,show Nat.min 1 (xs.length+1-i)=1 from o3 I]) (λj v x=>by rw[iB,gM];exact bb ((jw w.drew g b.toArray).heap (a:=w.drew) a_ hne) (by rw[<-ny];exact x)) (by rw[c];simp only[iw];omega) (by rw[<-vY];exact tS [e])
 have hfin:((w.drew.setRow g b.toArray).setRow g m.toArray).ownsRow base 45 9 (au (bT g) (xs.length+1) cap) (xs.length+1) (b0 (xs.take i++e :: xs.drop i)):=by
  have aW:=abJ (E:=e.bC) q (by rw[c,iv,t];omega);rw[f,c,show i*9+9=(i+1)*9 by omega,<-n,show(i+1)*9=i*9+9 by omega,<-k]at aW;refine Un;refine⟨by rw[A];simp only[cG,f,c,l];omega,.inr ⟨g,cap,m.toArray,rfl,M,fb _ g _ m.toArray 45 s,N,O,?_,?_⟩⟩
  .exact U'
  rw[A,<-aW,l]
  congr 1
  omega
 have D:ag (λj=>(au (bT g) xs.length cap).ownBlock=some j) w ((w.drew.setRow g b.toArray).setRow g m.toArray):=
  (((ag.refl (λj=>j=g) w).drew.trans (jw _ g _)).trans (jw _ g _)).mono λj _ e=>by rw[e];rfl
 have F:(xs.take i++e :: xs.drop i).length=xs.length+1:=by
  exact Wd
 have H:=ad hfin;have K:=ad D;have L:=ad F;have G:=ad z;have Q:∀ o lb eX,(callFunc 386 #[au (bT ev) 1 1,au (dk g o) lb eX]).run prog w=.ok (.value (.bool false)) w:=λo lb eX=>adJ hne a_ p I;have a':prog.follows .mixedOrders=true:=bc;have S:(0:U)<=(i:U)+1:=I;have X:i<=xs.length:=I;have Y:((i:U)+1).toNat=i+1:=I;have Z:IntKind.i64.wrap ((i:U)+1)=(i:U)+1:=e0 _ I;have T:¬ (cap=i+1):=I;have V:(i:U)<=(xs.length:U)+1:=I;have W:¬ (cap=i):=I;clear hfin D z s y q f l c t B n k C F
 go_in
 go_wp2_with simp only[Q]
 go_region_law_o (refine step_copy_runI rfl _ _ 66 66 rfl _ _ xn xn (P _ _ _) ?_)
 go_wp2_with fail;simp only[G.o,iu];go_wp2_with fail;go_ret;exact⟨_,rfl,by rw[L.o];exact H.o,K.o,.inl rfl⟩
def abK{X D E R:List α}:((((X++R).take X.length++E++(X++R).drop (X.length+E.length)).take (X.length+E.length)++D++((X++R).take X.length++E++(X++R).drop (X.length+E.length)).drop (X.length+E.length+D.length)).take (X.length+E.length+D.length))=X++E++D:=by
 have h:((X++R).take X.length++E++(X++R).drop (X.length+E.length)).take (X.length+E.length)=X++E:=by
  rw[CI,ti (by simp only[cG])]
 rw[h,ti (by simp only[cG])]
def Zo(mv:base<=w.heap.size)(xs:ai aE)(g cap:J)(l:a6 ay)(L:w.heap[g]?=some (ab l 45 (0,0)))(v':¬ xs.length+1<=cap)(zd:xs.length<=cap)(zp:l.size=cap*9)(C:l.toList.take (xs.length*9)=b0 xs)(aw:xs.length<=1000)(i:J)(av:i<xs.length)(e:aE)(ev:J)(a_:w.heap[ev]?=some (ab e 45 (0,0))):aB 380 #[au (bT g) xs.length cap,aa i,au (bT ev) 1 1] w (Ag w base (au (bT g) xs.length cap) (xs.take i++e :: xs.drop i)):=by
 obtain⟨i0,Z,fr,O,d⟩:=yp;obtain rfl:cap=xs.length:=I;have q:l.toList=b0 (xs.take i)++b0 (xs.drop i)++l.toList.drop (xs.length*9):=by
  exact VN
 have f:(b0 (xs.take i)).length=i*9:=by rw[vX,h3,o3 I]
 have c:(b0 (xs.drop i)).length=(xs.length-i)*9:=by rw[vX,iv]
 have n:e.bC.length=9:=rfl;have W:∀ j u,(b0 (xs.take i))[j]?=some u->l[j]?=some u:=λj u r=>by
  rw[<-ny,q,eh,jF (ir.1 r).1];exact r
 have V:∀ j u,(b0 (xs.drop i))[j]?=some u->l[i*9+j]?=some u:=λj u r=>by
  exact R_
 have hold:(Builtin.firstCells i0.size i (au (bT g) i xs.length)).run prog w.drew=.ok (b0 (xs.take i)).toArray w.drew:=by
  rw[O];exact run_firstCells_some (w:=w.drew) 9 i (ah g 0) i xs.length (b0 (xs.take i)) f (λj v s=>by rw[iB,gM];exact bb (w:=w.drew) L (W j v s))
 have t:=λty=>run_append_grow_zeros (P:=prog) (ty:=ty) w 66 3 45 i0 _ .i64 .i64 underlying66 underlying3 Z fr (bT g) i xs.length (b0 (xs.take i)) hold (xs.length+1-i) I (by rw[O];omega) I I xt (by rw[d,show i+(xs.length+1-i)=xs.length+1 by omega];exact growslice_fits I I);rw[show i+(xs.length+1-i)=xs.length+1 by omega]at t;have⟨G,z⟩:=c8 (grownCap w (xs.length+1) xs.length 45);have l':xs.length+1<=G:=by rw[z];exact Ho w _ _ _
 have Q:G<=maxLen:=by rw[z];exact grownCap_le_maxLen w _ _ _ k6
 rw[<-z]at t;obtain⟨R,S,F⟩:∃ R:ai ay,(b0 (xs.take i)).toArray++Builtin.zeroCells (aG z9).cells (xs.length+1-i)++Builtin.zeroCells (aG z9).cells (G-(xs.length+1))=(b0 (xs.take i)++R).toArray/\R.length=(G-i)*9:=by
  refine⟨(Builtin.zeroCells (aG z9).cells (xs.length+1-i)).toList++(Builtin.zeroCells (aG z9).cells (G-(xs.length+1))).toList,?_,?_⟩
  .apply Array.ext';simp
  simp[Builtin.zeroCells,Value.cells];omega
 rw[S]at t;have M:∀ ty,(Builtin.append_ #[66,3] ty #[au (bT g) i xs.length,aa ((xs.length:U)+1-(i:U))]).run prog w=.ok (au (bT w) (xs.length+1) G) (w.drew.alloc (ab (b0 (xs.take i)++R).toArray 45)):=λty=>by
  have:=t ty
  rwa [show((xs.length+1-i:J):U)=(xs.length:U)+1-(i:U)by omega]at this
 have w':=bZ L;have Tq:=bZ a_;have p:=aP w.drew (ab (b0 (xs.take i)++R).toArray 45);have x:ag aH w (w.drew.alloc (ab (b0 (xs.take i)++R).toArray 45)):=(ag.refl _ w).drew.alloc _;have N:=x.heap a_ id;have K:=x.heap L id;obtain⟨b,T⟩:=c8 (w.drew.alloc (ab (b0 (xs.take i)++R).toArray 45));rw[<-T]at M p x N K;have p:=p;obtain⟨a,y⟩:∃ a,a=(b0 (xs.take i)++R).take (i*9)++e.bC++(b0 (xs.take i)++R).drop (i*9+9):=⟨_,rfl⟩;have B:a.length=G*9:=by
  rw[y];simp only[cG,h3,iv,f,n,F];omega
 have Y:∀ ty m,(Builtin.copy_ #[66,66] ty #[au (dk w (i*9)) (xs.length+1-i) m,au (bT ev) 1 1]).run prog b=.ok (goInt (Nat.min 1 (xs.length+1-i):J)) (b.setRow w a.toArray):=λty m=>by
  rw[y];exact BP b 66 66 ty 45 9 w (i*9) _ m (ah ev 0) 1 1 (b0 (xs.take i)++R).toArray 45 e.bC underlying66 bc p (by rw[n,show Nat.min 1 (xs.length+1-i)=1 from o3 I]) (λj v s=>by rw[iB,gM];exact bb N (by rw[<-ny];exact s)) (by rw[n];simp only[iw,cG,f,F];omega) (by rw[<-vY];exact tS [e])
 have H:=fb b w _ a.toArray 45 p;obtain⟨h,k⟩:∃ h,h=a.take ((i+1)*9)++b0 (xs.drop i)++a.drop ((i+1)*9+(b0 (xs.drop i)).length):=⟨_,rfl⟩;have m':∀ ty m dF,(Builtin.copy_ #[66,66] ty #[au (dk w ((i+1)*9)) (xs.length-i) m,au (dk g (i*9)) (xs.length-i) dF]).run prog (b.setRow w a.toArray).drew=.ok (goInt (Nat.min (xs.length-i) (xs.length-i):J)) ((b.setRow w a.toArray).drew.setRow w h.toArray):=λty m dF=>by
  rw[k];exact BP (b.setRow w a.toArray).drew 66 66 ty 45 9 w ((i+1)*9) _ m (ah g (i*9)) _ dF a.toArray 45 (b0 (xs.drop i)) underlying66 bc H (by rw[c,show Nat.min (xs.length-i) (xs.length-i)=xs.length-i from Nat.min_self _]) (λj v s=>by rw[iB];exact bb (w:=(b.setRow w a.toArray).drew) ((jw b w a.toArray).heap K I) (V j v s)) (by rw[c];simp only[iw];omega) (tS _)
 have hfin:((b.setRow w a.toArray).drew.setRow w h.toArray).ownsRow base 45 9 (au (bT w) (xs.length+1) G) (xs.length+1) (b0 (xs.take i++e :: xs.drop i)):=by
  have aW:=abK (X:=b0 (xs.take i)) (E:=e.bC) (D:=b0 (xs.drop i)) (R:=R);rw[f,n,<-y,show i*9+9=(i+1)*9 by omega,<-k]at aW;refine Un;refine⟨by rw[A];simp only[cG,f,n,c];omega,.inr ⟨w,G,h.toArray,rfl,mv,(fb (b.setRow w a.toArray).drew w _ h.toArray 45 H),l',Q,?_,?_⟩⟩
  .exact U'
  rw[A,<-aW,c]
  congr 1
  omega
 have a':ag (λj=>(au (bT g) xs.length xs.length).ownBlock=some j) w ((b.setRow w a.toArray).drew.setRow w h.toArray):=
  c1 (mr x) (((jw b w a.toArray).drew).trans (jw _ _ _)) a1
 have fo:(xs.take i++e :: xs.drop i).length=xs.length+1:=by
  exact Wd
 have g':=ad hfin;have hd:=ad a';have h2:=ad fo;have lb:=ad M;have gf:=ad Y;have T':prog.follows .mixedOrders=true:=bc;have s':(0:U)<=(i:U)+1:=I;have ys:i<=xs.length:=I;have Q':((i:U)+1).toNat=i+1:=I;have TS:IntKind.i64.wrap ((i:U)+1)=(i:U)+1:=e0 _ I;have vl:(i:U)<=(xs.length:U)+1:=I;have vs:¬ (xs.length=i):=I;have sd:¬ (G=i):=I;have se:¬ (G=i+1):=I;have r':G<=9223372036854775807:=Q;clear hfin a' Y N p H K V W q f c n B y k C fo M t S F hold x T Z fr O d z
 go_in
 go_wp2_with (at_builtin;refine Lib.wpList_append_run _ rfl (.tmp 34) (.tmp 39) 66 3 rfl (au (bT g) i xs.length) (aa ((xs.length:U)+1-(i:U))) rfl rfl _ _ (lb.o _) ?_);simp only[gf.o,iu];go_wp2_with fail
 go_region_law_o (refine step_copy_runI rfl _ _ 66 66 rfl _ _ xn xn (m' _ _ _) ?_)
 go_wp2_with fail;go_ret;exact⟨_,rfl,by rw[h2.o];exact g'.o,hd.o,.inr rfl⟩
def Zl(xs:ai aE)(v:ay)(f:w.ownsRow base 45 9 v xs.length (b0 xs))(c:base<=w.heap.size)(aw:xs.length<=1000)(i:J)(av:i<=xs.length)(e:aE)(ev:J)(a_:w.heap[ev]?=some (ab e 45 (0,0)))(hne:v.ownBlock≠some ev):aB 380 #[v,aa i,au (bT ev) 1 1] w (Ag w base v (xs.take i++e :: xs.drop i)):=by
 by_cases h:i=xs.length
 .subst h;rw[qS,drop_length];exact Zn xs v f c aw e ev a_
 obtain⟨_,a⟩:=f;rcases a with⟨rfl,o⟩|⟨g,cap,b,rfl,l,d,n,m,j,k⟩
 .omega
 by_cases a:xs.length+1<=cap
 .exact Zp xs g cap b l d a m j k aw i I e ev a_ (λe=>hne (by rw[e];rfl))
 exact Zo c xs g cap b d a n j k aw i I e ev a_
structure sv(xs:ai aE)(b6 di fO:J)(t:aE)(W:aj):ae where
 an:∀ (j:J) u,(b0 xs)[j]?=some u->W.cell? (ah b6 (di+j))=some u
 bD:W.heap[fO]?=some (ab t 45 (0,0))
theorem sv.keep{xs:ai aE}{t:aE}(h:sv xs b6 di fO t W)(hk:ag aH W W'):sv xs b6 di fO t W':=
 ⟨λj u a=>hk.cell (h.an j u a) id,hk.heap h.bD id⟩
theorem sv.cell{xs:ai aE}{t:aE}(h:sv xs b6 di fO t W)(i:J)(av:i<xs.length)(j:J)(a:j<9){u:ay}(b:xs[i].bC[j]?=some u):W.cell? (ah b6 (di+i*9+j))=some u:=by
 exact VA
def Zt(xs:ai aE)(n:ey w 9 A xs.length cap (b0 xs))(aw:xs.length<=1000)(t:aE)(m:J)(hm:m<=xs.length)(L:∀ i (av:i<xs.length),i<m->ez xs[i].k t.k<0)(m':∀ i (av:i<xs.length),m<=i->¬ ez xs[i].k t.k<0):aB 378 #[au A xs.length cap,aG t,.func (.func 379) #[] #[]] w λr w'=>
   r=aV #[aa m,(decide (∃ h:m<xs.length,ez xs[m].k t.k=0))]/\Below w w w':=by
 have cp:=(b9 w w).alloc bu (ab t 45);have H:=aP w (ab t 45);have D:=n.keeps (S:=aH) ((ag.refl _ w).alloc (ab t 45)) (λ_ _ _=>id);have fo:=ad D;have hd:=ad H;have iQ:=ad cp;have y:=ad L;have v:=ad m'
 go_in
 go_wp2_with fail;generalize World.alloc w _=bo at *;go_loopg [9,10,11] xs.length (λg i j _ wr=>∃ p q:J,g=q-p/\i=aa p/\j=aa q/\p<=m/\m<=q/\q<=xs.length/\ag aH bo wr)
 case atStart=>exact⟨0,xs.length,rfl,rfl,rfl,c3 _,hm,dm _,ag.refl _ _⟩
 obtain⟨p,q,a7,rfl,rfl,ao,z,C,hk⟩:=hrel;by_cases l':p<q
 .have aT:(p+q) / 2<xs.length:=I;refine SE;refine RJ;obtain⟨G,s⟩:=gg (F:=λW=>sv xs b6 di w t W);have bR:∀ x:bA G,x.to.cell? (ah b6 (di+h*9))=some (aa xs[h].k.fr):=λx=>((s _).1 x.held).cell h aT 0 I rfl;have bI:∀ x:bA G,x.to.cell? (ah b6 (di+h*9+1))=some (aa xs[h].k.em):=λx=>((s _).1 x.held).cell h aT 1 I rfl;have N:∀ x:bA G,x.to.cell? (ah b6 (di+h*9+2))=some (aa xs[h].k.bq):=λx=>((s _).1 x.held).cell h aT 2 I rfl;have Q:∀ x:bA G,x.to.cell? (ah b6 (di+h*9+3))=some (aa xs[h].k.cv):=λx=>((s _).1 x.held).cell h aT 3 I rfl;have R:∀ x:bA G,x.to.cell? (ah b6 (di+h*9+4))=some (aa xs[h].df):=λx=>((s _).1 x.held).cell h aT 4 I rfl;have T:∀ x:bA G,x.to.cell? (ah b6 (di+h*9+5))=some (aa xs[h].eb):=λx=>((s _).1 x.held).cell h aT 5 I rfl;have V:∀ x:bA G,x.to.cell? (ah b6 (di+h*9+6))=some (aa xs[h].hq):=λx=>((s _).1 x.held).cell h aT 6 I rfl;have X:∀ x:bA G,x.to.cell? (ah b6 (di+h*9+7))=some (aa xs[h].eP):=λx=>((s _).1 x.held).cell h aT 7 I rfl;have Z:∀ x:bA G,x.to.cell? (ah b6 (di+h*9+8))=some (aa xs[h].le):=λx=>((s _).1 x.held).cell h aT 8 I rfl;refine De;have f:=ad (λW=>Lr xs[h] t W);exact RS
 obtain rfl:p=m:=I;obtain rfl:q=p:=I;by_cases l:q<xs.length
 .have aT:=l;refine SE;refine ob;obtain⟨G,s⟩:=gg (F:=λW=>sv xs b6 di w t W);have bR:∀ x:bA G,x.to.cell? (ah b6 (di+q*9))=some (aa xs[q].k.fr):=λx=>((s _).1 x.held).cell q aT 0 I rfl;have bI:∀ x:bA G,x.to.cell? (ah b6 (di+q*9+1))=some (aa xs[q].k.em):=λx=>((s _).1 x.held).cell q aT 1 I rfl;have N:∀ x:bA G,x.to.cell? (ah b6 (di+q*9+2))=some (aa xs[q].k.bq):=λx=>((s _).1 x.held).cell q aT 2 I rfl;have Q:∀ x:bA G,x.to.cell? (ah b6 (di+q*9+3))=some (aa xs[q].k.cv):=λx=>((s _).1 x.held).cell q aT 3 I rfl;have R:∀ x:bA G,x.to.cell? (ah b6 (di+q*9+4))=some (aa xs[q].df):=λx=>((s _).1 x.held).cell q aT 4 I rfl;have T:∀ x:bA G,x.to.cell? (ah b6 (di+q*9+5))=some (aa xs[q].eb):=λx=>((s _).1 x.held).cell q aT 5 I rfl;have V:∀ x:bA G,x.to.cell? (ah b6 (di+q*9+6))=some (aa xs[q].hq):=λx=>((s _).1 x.held).cell q aT 6 I rfl;have X:∀ x:bA G,x.to.cell? (ah b6 (di+q*9+7))=some (aa xs[q].eP):=λx=>((s _).1 x.held).cell q aT 7 I rfl;have Z:∀ x:bA G,x.to.cell? (ah b6 (di+q*9+8))=some (aa xs[q].le):=λx=>((s _).1 x.held).cell q aT 8 I rfl;refine De;have f:=ad (λW=>Lr xs[q] t W);refine S0;have c:(ez xs[q].k t.k == 0)=decide (∃ h:q<xs.length,ez xs[q].k t.k=0):=by
   by_cases e:ez xs[q].k t.k=0
   .simp[e,l]
   simp[e]
  go_ret2;exact⟨by rw[<-c];rfl,a⟩
 have a:=iQ.o.trans (hk.below iQ.o.size (λ_ _ e=>e));have c:decide (∃ h:q<xs.length,ez xs[q].k t.k=0)=false:=by simp[l]
 exact W6
def AA(a b:U):dK a b<0↔a<b:=by
 unfold dK;exact Jl
def Az(a b:U):dK a b=0↔a=b:=by
 unfold dK;exact Jl
def lT(a b:dD):ae:=a.fr<b.fr\/(a.fr=b.fr/\(a.em<b.em\/(a.em=b.em/\(a.bq<b.bq\/(a.bq=b.bq/\a.cv<b.cv)))))
def mh(a b:dD):ez a b<0↔lT a b:=by
 unfold ez lT;have h1:=AA a.fr b.fr;have h2:=AA a.em b.em;have d:=AA a.bq b.bq;have e:=AA a.cv b.cv;refine UF;exact WA
def KS(a b:dD):ez a b=0↔a=b:=by
 unfold ez;refine UF;have ak:a=b↔(a.fr=b.fr/\a.em=b.em/\a.bq=b.bq/\a.cv=b.cv):=by
  refine IT;simp
 rw[ak];exact WA
def sQ{a b c:dD}(h:lT a b)(k:lT b c):lT a c:=by unfold lT at *;omega
def qw(a:dD):¬ lT a a:=by unfold lT;omega
def yz(a b:dD):lT a b\/a=b\/lT b a:=by
 by_cases h:a=b
 .exact .inr (.inl h)
 refine IT;unfold lT;simp only[dD.mk.injEq]at h;simp only;omega
def gh(xs:ai aE):ae:=xs.Pairwise λa b=>lT a.k b.k
def fQ(xs:ai aE)(k:dD):J:=(xs.takeWhile λa=>decide (ez a.k k<0)).length
def wB(xs:ai aE)(k:dD):fQ xs k<=xs.length:=(takeWhile_sublist _).length_le
theorem wC:∀ (xs:ai aE) (k:dD) (i:J) (av:i<xs.length),i<fQ xs k->ez xs[i].k k<0
 | [],_,_,h,_=>by simp at h
 | x :: xs,k,i,av,h=>by
  by_cases c:ez x.k k<0
  .refine Ug;cases i with
   | zero=>exact c
   | succ i=>exact wC xs k i (by simpa using av) b4
  refine Uz;omega
theorem Fs:∀ (xs:ai aE) (k:dD) (h:fQ xs k<xs.length),¬ ez xs[fQ xs k].k k<0
 | [],_,h=>by simp at h
 | x :: xs,k,h=>by
  by_cases c:ez x.k k<0
  .refine Ug;have b:fQ xs k<xs.length:=by rw[e]at h;simpa using h
   simp only[e,Cy];exact(Fs xs k b)
  refine Uz;simp only[e,getElem_cons_zero];exact c
def Bo{xs:ai aE}(bg:gh xs)(k:dD)(i:J)(av:i<xs.length)(h:fQ xs k<=i):¬ ez xs[i].k k<0:=by
 have a:=Fs xs k I;by_cases e:fQ xs k=i
 .subst e;exact a
 have b:=u_.1 bg (fQ xs k) i I av I;rw[mh]at a⊢;exact λc=>a (sQ b c)
def kp(xs:ai aE)(k:dD):aY:=decide (∃ e∈xs,e.k=k)
def Fc{xs:ai aE}(bg:gh xs)(k:dD):decide (∃ h:fQ xs k<xs.length,ez xs[fQ xs k].k k=0)=kp xs k:=by
 congr 1
 apply propext;constructor
 .rintro⟨h,e⟩;exact⟨_,oY h,(KS _ _).1 e⟩
 rintro⟨e,l,rfl⟩;refine I';have h1:fQ xs xs[i].k<=i:=by
  by_cases c:fQ xs xs[i].k<=i
  .exact c
  exact absurd ((mh _ _).1 (wC xs xs[i].k i av I)) (qw _)
 refine⟨I,?_⟩;by_cases e:fQ xs xs[i].k=i
 .rw[KS];simp only[e]
 have a:=u_.1 bg (fQ xs xs[i].k) i I av I;exact absurd ((mh _ _).2 a) (Fs xs xs[i].k I)
def jv(xs:ai aE)(e:aE):ai aE:=xs.take (fQ xs e.k)++e :: xs.drop (fQ xs e.k)
def MC{xs:ai aE}(bg:gh xs)(e:aE)(aw:kp xs e.k=false):gh (jv xs e):=by
 have hne:∀ x∈xs,x.k≠e.k:=λx ak c=>by
  have:kp xs e.k=true:=dh ⟨x,ak,c⟩
  rw[aw]at this;cases this
 unfold gh jv;rw[tg];refine⟨bg.sublist (take_sublist _ _),k4.2 ⟨λx ak=>?_,bg.sublist (drop_sublist _ _)⟩,λa l b d=>?_⟩
 .obtain⟨j,n,rfl⟩:=HF ak;refine UP;have h1:=Bo bg e.k (fQ xs e.k+j) f I;rw[mh]at h1;rcases yz e.k xs[fQ xs e.k+j].k with h|h|h
  .exact h
  .exact absurd h.symm (hne _ (oY f))
  exact absurd h h1
 refine I';rw[getElem_take];have o:i<fQ xs e.k:=by rw[h3]at av;omega
 have m:i<xs.length:=by have:=wB xs e.k;omega
 have h1:=(mh _ _).1 (wC xs e.k i m o);rcases fW.1 d with rfl|d
 .exact h1
 obtain⟨j,n,rfl⟩:=HF d;refine UP;exact u_.1 bg i (fQ xs e.k+j) m f I
def KE{w:aj}{e4 hA eI dv gQ:ay}(h:w.heap[b]?=some (ab #[bw,bP,bB,e3,e4,hA,eI,dv,gQ] t (0,0)))(v0 v1 v2 a c d e f g:ay):(((((((((w.setCell (ah b 0) v0).setCell (ah b 1) v1).setCell (ah b 2) v2).setCell (ah b 3) a).setCell (ah b 4) c).setCell (ah b 5) d).setCell (ah b 6) e).setCell (ah b 7) f).setCell (ah b 8) g).heap[b]?=some (ab #[v0,v1,v2,a,c,d,e,f,g] t (0,0)):=by
 have:=bX (bX (bX (bX (bX (bX (bX (bX (bX h 0 v0) 1 v1) 2 v2) 3 a) 4 c) 5 d) 6 e) 7 f) 8 g
 simpa using this
theorem MP(w:aj)(b:J)(v0 v1 v2 a c d e f g:ay):ag (λj=>j=b) w (((((((((w.setCell (ah b 0) v0).setCell (ah b 1) v1).setCell (ah b 2) v2).setCell (ah b 3) a).setCell (ah b 4) c).setCell (ah b 5) d).setCell (ah b 6) e).setCell (ah b 7) f).setCell (ah b 8) g):=
 (((((((((ag.refl (λj=>j=b) w).setCell (p:=ah b 0) rfl v0).setCell (p:=ah b 1) rfl v1).setCell (p:=ah b 2) rfl v2).setCell (p:=ah b 3) rfl a).setCell (p:=ah b 4) rfl c).setCell (p:=ah b 5) rfl d).setCell (p:=ah b 6) rfl e).setCell (p:=ah b 7) rfl f).setCell (p:=ah b 8) rfl g
def Zy(xs:ai aE)(p:ey w 9 A xs.length cap (b0 xs))(aw:xs.length<=1000)(bg:gh xs)(k:dD):aB 385 #[au A xs.length cap,aG k] w λr w'=>(∃ e:aE,r=aV #[aG e,(kp xs k)])/\Below w w w':=by
 have x:(w.alloc (ab k 43)).heap.size=w.heap.size+1:=aM;have g:=aP (w.alloc (ab k 43)) (ab z9 45);rw[x]at g;have B:ag aH w ((w.alloc (ab k 43)).alloc (ab z9 45)):=((ag.refl _ w).alloc _).alloc _;have F:((w.alloc (ab k 43)).alloc (ab z9 45)).heap.size=w.heap.size+2:=aM;have c:=ad (p.keeps B (λ_ _ _=>id));have d:=ad g;have E:=ad (b2 (aP w (ab k 43)) (ab z9 45));have iQ:=ad (((b9 w w).alloc bu (ab k 43)).alloc aM (ab z9 45))
 go_in
 go_wp2_with fail;generalize World.alloc (World.alloc w _) _=aq at *;have ax:=ad (Zu (w:=aq) xs c.o aw k (fQ xs k) (wB xs k) (λi av h=>wC xs k i av h) (λi av h=>Bo bg k i av h));rw[Fc bg k]at ax;cases aT:kp xs k with
 | false=>
  rw[aT]at ax;refine aK;refine aS ax.out λaF al=>?_;have a:=(ag.bU (S:=aH) al a1).heap d.o id;have b:=iQ.out.trans (al.mono I);have f0:=bV a;have z0:=aX a;have n:=KE a (aa 0) (aa 0) (aa 0) (aa 0) (aa 0) (aa 0) (aa 0) (aa 0) (aa 0);have q:=b.trans ((MP aF (w.heap.size+1) (aa 0) (aa 0) (aa 0) (aa 0) (aa 0) (aa 0) (aa 0) (aa 0) (aa 0)).below b.size a1);refine VU;refine dj (v:=aV #[aG z9,false]) s ?_;exact⟨⟨⟨⟨0,0,0,0⟩,0,0,0,0,0⟩,by rw[aT]⟩,l.o⟩
 | true=>
  have hm:fQ xs k<xs.length:=by
   have f:=Fc bg k;rw[aT]at f;exact(r8 f).1
  rw[aT]at ax;generalize fQ xs k=m at *;refine aK;refine aS ax.out λaF al=>?_;refine sj;have a:=R.heap d.o id;have t:=c.o.keeps R (λ_ _ _=>id);have b:=iQ.out.trans (al.mono I);obtain⟨b6,di,rfl,an⟩:=t.at' I;have N:∀ j u,j<9->xs[m].bC[j]?=some u->aF.cell? (ah b6 (di+m*9+j))=some u:=λj u y z=>by rw[jZ];exact an _ _ ((AM xs m hm j y).trans z)
  obtain⟨e,D⟩:∃ e,xs[m]=e:=⟨_,rfl⟩;refine ed;have G:aF.cell? (ah b6 (di+m*9))=some (aa e.k.fr):=N 0 _ I rfl;have H:=N 1 _ I rfl;have K:=N 2 _ I rfl;have L:=N 3 _ I rfl;have M:=N 4 _ I rfl;have P:=N 5 _ I rfl;have Q:=N 6 _ I rfl;have T:=N 7 _ I rfl;have V:=N 8 _ I rfl;have f0:=bV a;have z0:=aX a;have n:=KE a (aa e.k.fr) (aa e.k.em) (aa e.k.bq) (aa e.k.cv) (aa e.df) (aa e.eb) (aa e.hq) (aa e.eP) (aa e.le);have q:=b.trans ((MP aF (w.heap.size+1) (aa e.k.fr) (aa e.k.em) (aa e.k.bq) (aa e.k.cv) (aa e.df) (aa e.eb) (aa e.hq) (aa e.eP) (aa e.le)).below b.size a1);refine VU;refine dj (v:=aV #[aG e,true]) s ?_;exact⟨⟨e,by rw[aT]⟩,l.o⟩
def Zz(xs:ai aE)(c:ey w 9 A xs.length cap (b0 xs))(aw:xs.length<=1000)(bg:gh xs)(k:dD):aB 377 #[au A xs.length cap,aG k] w λr w'=>r=.returned (.bool (kp xs k))/\Below w w w':=by
 have cp:=(b9 w w).alloc bu (ab k 43);have d:=aP w (ab k 43);have b:=ad (Zy (w:=w.alloc (ab k 43)) xs (c.keeps (S:=aH) ((ag.refl _ w).alloc _) (λ_ _ _=>id)) aw bg k)
 go_in
 go_wp2_with fail;generalize World.alloc w _=aq at *;refine b.o.mono ?_;rintro r aF ⟨⟨e,rfl⟩,al⟩;have a:=cp.trans (al.mono cp.size);go_wp2_with fail;go_ret;exact⟨rfl,(a.alloc a.size (ab e 45))⟩
def nI(xs:ai aE)(k:dD):J->J->J
 | 0,o=>o
 | f+1,o=>if kp xs {k with cv:=o}then nI xs k f (o+1)else o
def rf(xs:ai aE)(k:dD):J:=nI xs k 17 0
def iD(fr:U)(e:aE):aE:={e with k:={e.k with fr:=fr,cv:=0}}
def kL(e:aE)(o:J):aE:={e with k:={e.k with cv:=o}}
def fM(fr:U)(xs:ai aE)(e:aE):ai aE:=
 if fx (iD fr e)=false then xs else if 64<=xs.length\/15<rf xs (iD fr e).k then xs else jv xs (kL (iD fr e) (rf xs (iD fr e).k))
structure qd(w:aj)(base bj:J)(fr:U)(v:ay)(xs:ai aE):ae where
 hd:w.heap[bj]?=some (ab #[aa fr,v] 476 (0,0))
 row:w.ownsRow base 45 9 v xs.length (b0 xs)
 ne:v.ownBlock≠some bj
 eV:gh xs
 n:xs.length<=64
 rt:∀ e∈xs,fx e=true/\e.k.fr=fr
theorem qd.keep{bj:J}{fr:U}{v:ay}{xs:ai aE}{T:J->ae}(h:qd w base bj fr v xs)(hk:ag T w w')(h1:¬ T bj)(h2:∀ j,v.ownBlock=some j->¬ T j):qd w' base bj fr v xs:=
 ⟨hk.heap h.hd h1,b7 h.row hk h2,h.ne,h.eV,h.n,h.rt⟩
def afk{e:aE}(h:fx e=true):0<=e.k.cv/\e.k.cv<=15:=by
 unfold fx hW gA at h;simp only[e9,hf]at h;omega
def Js(w:aj)(base bj:J)(fr:U)(v:ay)(ys:ai aE)(r:Ending)(w':aj):ae:=
 (∃ (k:dD) (ca:U),r=aV #[aG k,aa ca])/\∃ v',qd w' base bj fr v' ys/\ag (λj=>j=bj\/v.ownBlock=some j) w w'/\(v'.ownBlock=v.ownBlock\/∃ j,w.heap.size<=j/\v'.ownBlock=some j)
def afR(W:aj):(Instr.build 43 #[]).run prog W=.ok (aG z4) W:=bc
def x8{w:aj}(h:w.heap[b]?=some (ab #[bw,bP,bB,e3] t (0,0)))(v0 v1 v2 a:ay):((((w.setCell (ah b 0) v0).setCell (ah b 1) v1).setCell (ah b 2) v2).setCell (ah b 3) a).heap[b]?=some (ab #[v0,v1,v2,a] t (0,0)):=by
 have:=bX (bX (bX (bX h 0 v0) 1 v1) 2 v2) 3 a
 simpa using this
structure qa(w:aj)(base bj:J)(fr:U)(v:ay)(xs:ai aE)(e:aE)(W:aj):ae where
 kd:qd W base bj fr v xs
 bD:W.heap[w.heap.size]?=some (ab e 45 (0,0))
 rs:W.heap[w.heap.size+1]?=some (ab z4 43 (0,0))
 bF:ag aH w W
theorem qa.keep{bj:J}{fr:U}{v:ay}{xs:ai aE}{e:aE}(h:qa w base bj fr v xs e W)(hk:ag aH W W'):qa w base bj fr v xs e W':=
 ⟨h.kd.keep hk id (λ_ _=>id),hk.heap h.bD id,hk.heap h.rs id,h.bF.trans hk⟩
def qa.pU{bj:J}{fr:U}{v:ay}{xs:ai aE}{e:aE}(h:qa w base bj fr v xs e W)(b:bj<w.heap.size)(a_:∀ j,v.ownBlock=some j->j<w.heap.size)(o:J):qa w base bj fr v xs (kL e o) (W.setCell (ah w 3) (aa o)):=by
 have k:=(ag.refl (λj=>j=w) W).setCell (p:=ah w 3) rfl (aa (o:U));exact⟨h.kd.keep k I (λj a e=>by have:=a_ j a;omega),(bX h.bD 3 (aa (o:U))),k.heap h.rs I,c1 h.bF k a1⟩
def Zb(e:aE)(a b:J):kL (kL e a) b=kL e b:=rfl
def Zc(e:aE)(h:e.k.cv=0):kL e 0=e:=by
 obtain⟨⟨f,m,k,o⟩,a,g,p,r,l⟩:=e;subst h;rfl
def Z9(xs:ai aE)(k:dD)(f o:J)(h:kp xs {k with cv:=o}=true):nI xs k (f+1) o=nI xs k f (o+1):=by simp[nI,h]
def Z8(xs:ai aE)(k:dD)(f o:J)(h:kp xs {k with cv:=o}=false):nI xs k (f+1) o=o:=by simp[nI,h]
def Ng{xs:ai aE}{e x:aE}(h:x∈jv xs e):x=e\/x∈xs:=by
 rcases gd.1 h with h|h
 .exact .inr (CD h)
 rcases fW.1 h with h|h
 .exact .inl h
 exact .inr (CC h)
def Om{e:aE}{o:J}(h:fx e=true)(ar:o<=15):fx (kL e o)=true:=by
 unfold fx hW gA at h⊢;unfold kL;simp only[e9,hf]at h⊢;omega
def aa9{xs:ai aE}{k:dD}{fr:U}(b:∀ e∈xs,fx e=true/\e.k.fr=fr)(h:kp xs k=true):k.cv<=15:=by
 obtain⟨e,a,rfl⟩:=r8 h;exact(afk (b e a).1).2
section
variable{P:Program}{o:Oper}{a:Act}{K:Act->aj->ae}{Q:Exit->Act->aj->ae}
end
def PM{n:J}{xs:ai aE}(h:w.ownsRow base 45 9 (au A n cap) n (b0 xs)):ey w 9 A n cap (b0 xs):=by
 have⟨cV,c,b,a,_⟩:=dA h;cases b;exact a
def ad4{bj:J}{fr:U}{v:ay}{xs:ai aE}(h:qd w base bj fr v xs)(akf:base<=w.heap.size)(e:aE):aB 366 #[bj,aG e] w (Js w base bj fr v (fM fr xs e)):=by
 have Y:ag aH w ((w.alloc (ab e 45)).alloc (ab z4 43)):=((ag.refl _ w).alloc _).alloc _;have bw:=aX ((h.keep Y id (λ_ _=>id)).hd);obtain⟨f,r'⟩:∃ f,iD fr e=f:=⟨_,rfl⟩;have sd:ag aH w ((w.alloc (ab #[aa fr,aa e.k.em,aa e.k.bq,aa 0,aa e.df,aa e.eb,aa e.hq,aa e.eP,aa e.le] 45)).alloc (ab z4 43)):=((ag.refl _ w).alloc _).alloc _;have akp:(w.alloc (ab #[aa fr,aa e.k.em,aa e.k.bq,aa 0,aa e.df,aa e.eb,aa e.hq,aa e.eP,aa e.le] 45)).heap.size=w.heap.size+1:=aM;have akg:=b2 (aP w (ab #[aa fr,aa e.k.em,aa e.k.bq,aa 0,aa e.df,aa e.eb,aa e.hq,aa e.eP,aa e.le] 45)) (ab z4 43);have ajT:=aP (w.alloc (ab #[aa fr,aa e.k.em,aa e.k.bq,aa 0,aa e.df,aa e.eb,aa e.hq,aa e.eP,aa e.le] 45)) (ab z4 43);rw[akp]at ajT;have Q':=bZ h.hd;have akm:∀ j,v.ownBlock=some j->j<w.heap.size:=λj q=>by
  obtain⟨A,cap,rfl,_,aka⟩:=dA h.row;cases A with
  | none=>simp[Value.ownBlock]at q
  | some x=>have:=aka x rfl;rw[this.2.2]at q;cases q;exact this.2.1
 have Z:qa w base bj fr v xs f ((w.alloc (ab #[aa fr,aa e.k.em,aa e.k.bq,aa 0,aa e.df,aa e.eb,aa e.hq,aa e.eP,aa e.le] 45)).alloc (ab z4 43)):=by
  subst r';exact⟨h.keep sd id (λ_ _=>id),akg,ajT,sd⟩
 have akz:Hid (f.k.fr=fr):=ad (by rw[<-r'];rfl);have akA:Hid (f.k.cv=0):=ad (by rw[<-r'];rfl);have D:fM fr xs e=if fx f=false then xs else if 64<=xs.length\/15<rf xs f.k then xs else jv xs (kL f (rf xs f.k)):=by unfold fM;rw[r']
 obtain⟨ys,ako⟩:∃ ys,fM fr xs e=ys:=⟨_,rfl⟩;rw[ako]at D⊢;have akL:=ad D;have akJ:=afR;have aj3:=ad Z;have gf:=ad akm;have aky:=ad akf;have H:=ad h;have vl:=ad Q';clear Z akg ajT Y sd akp akm akf h r' D ako
 go_in
 go_upto_region 4 with fail
 clear bw Q';generalize World.alloc (World.alloc _ _) _=aq at *;obtain⟨c,an⟩:∃ c,fx f=c:=⟨_,rfl⟩;have aj4:=ad (yd f aq);rw[an]at aj4;have cx:=aX aj3.o.bD;cases c
 .refine S5;have D:ys=xs:=by rw[akL.o,an];rfl
  subst D;have f0:=bV V.o.rs;have z0:=aX V.o.rs;have aj1:=x8 V.o.rs (aa 0) (aa 0) (aa 0) (aa 0);refine RQ;refine dj (v:=aV #[aG z4,aa 1]) Tq ?_;exact⟨⟨⟨0,0,0,0⟩,1,rfl⟩,_,V.o.kd.keep S.o (by have:=vl.o;omega) (λj q e=>by have:=gf.o j q;omega),c1 (V.o.bF.mono λ_ _ e=>e.elim) S.o a1,.inl rfl⟩
 refine S5;obtain⟨A,cap,rfl,_,aka⟩:=dA H.o.row;refine aK;go_loopg [] 17 (λg wr=>∃ o:J,g=17-o/\o<=16/\nI xs f.k (17-o) o=rf xs f.k/\qa w base bj fr (au A xs.length cap) xs (kL f o) wr)
 case atStart=>exact⟨0,rfl,I,rfl,by rw[Zc f akA.o];exact V.o⟩
 obtain⟨o,rfl,ar,fo,Z⟩:=hrel;obtain⟨a,C⟩:∃ a,kL f o=a:=⟨_,rfl⟩;rw[C]at Z;have ajW:Hid (a.k.cv=o):=ad (by rw[<-C];rfl);obtain⟨c,Q⟩:∃ c,kp xs a.k=c:=⟨_,rfl⟩;have ps:kp xs {f.k with cv:=o}=c:=by rw[<-Q,<-C];rfl
 have⟨G,s⟩:=gg (F:=λW=>qa w base bj fr (au A xs.length cap) xs a W);have bI:=λx:bA G=>aX (((s _).1 x.held).kd.hd);refine IX;have b:G wr.drew:=(s _).2 (Z.keep (ag.refl _ wr).drew);have l':Hid (∀ W,G W->aB 377 #[au A xs.length cap,aG a.k] W λr w'=>r=.returned (.bool c)/\Below W W w'):=ad λW M=>by
  have h:=((s W).1 M).kd;have akB:=PM h.row;rw[<-Q];exact Zz xs akB (by have:=h.n;omega) h.eV a.k
 refine vh;clear s Z;refine aK;refine cS 7 ?_;refine cJ (G) (.range 7) 0 7 ?_;refine dN (b) (.range 6) 1 ?_;refine vr;refine mz 6 λK E=>?_;go_simp;refine aS (l'.o P b) λaF d=>?_;refine Du;clear E K;have N:=l.o _ B;clear l' u l b B d bI Y;cases c
 .have akk:rf xs f.k=o:=by rw[<-fo,show 17-o=(16-o)+1 by omega,Z8 xs f.k (16-o) o ps]
  have D:ys=if 64<=xs.length\/15<o then xs else jv xs a:=by rw[akL.o,an,akk,C];rfl
  have aj2:=ad D;have ps:=ad ps;have fo:=ad fo;have Q:=ad Q;have aw:=N.kd.n;refine T6;rw[ajW.o]at g';have bI:=aX N.kd.hd;have T:=ad N;refine dU;clear N D akk C;by_cases akI:xs.length=64
  .exact SN
  by_cases aj':15<o
  .exact SN
  have D:ys=jv xs a:=by rw[aj2.o,az I]
  subst D;clear aj2 akL;refine aK;clear g' bI V;have⟨G,s⟩:=gg (F:=λW=>qa w base bj fr (au A xs.length cap) xs a W);have dq:=λx:bA G=>aX (((s _).1 x.held).kd.hd);refine IX;have l':Hid (∀ W,G W->aB 378 #[au A xs.length cap,aG a,.func (.func 379) #[] #[]] W λr w'=>r=aV #[aa (fQ xs a.k:J),false]/\Below W W w'):=ad λW M=>by
   have h:=((s W).1 M).kd
   have:=Zt (w:=W) xs (PM h.row) (by have:=h.n;omega) a (fQ xs a.k) (wB xs a.k) (λi av ajU=>wC xs a.k i av ajU) (λi av ajU=>Bo h.eV a.k i av ajU)
   rw[Fc h.eV,Q.o]at this;exact this
  refine vh;have akd:=ad ((s aF.drew).2 (T.o.keep (ag.refl _ aF).drew));clear s;have akC:=wB xs a.k;generalize aki:fQ xs a.k=m at *;have b:=akd.o;clear akd;refine cS 11 ?_;refine cJ (G) (.range 11) 0 11 ?_;refine dN (b) (.range 5) 6 ?_;generalize aF.drew=P at *;refine eK 5 λK E=>?_;go_simp;refine aS (l'.o P b) λbr ake=>?_;have z:=u.o _ _ b ake;refine vq;refine dN (z) [6,7,8,9,10] 0 ?_;refine pA ?_;have akb:=l.o _ z;clear l' u l b z ake T;clear dq Y;refine aK;have mv:=akb.keep (ag.refl _ br).drew;have zp:=mv.keep ((bd br.drew).alloc (ab a 45));obtain⟨G,s⟩:=gg (F:=λW=>(W.heap[bj]?=some (ab #[aa fr,au A xs.length cap] 476 (0,0))/\W.heap[w.heap.size]?=some (ab a 45 (0,0))));have dq:=λx:bA G=>aX (((s _).1 x.held).1);have Y:∀ x:bA G,x.to.cell? (ah w 0)=some (aa a.k.fr):=λx=>bb (k:=0) ((s _).1 x.held).2 rfl;have sd:∀ x:bA G,x.to.cell? (ah w 1)=some (aa a.k.em):=λx=>bb (k:=1) ((s _).1 x.held).2 rfl;have bK:∀ x:bA G,x.to.cell? (ah w 2)=some (aa a.k.bq):=λx=>bb (k:=2) ((s _).1 x.held).2 rfl;have g':∀ x:bA G,x.to.cell? (ah w 3)=some (aa a.k.cv):=λx=>bb (k:=3) ((s _).1 x.held).2 rfl;have akE:∀ x:bA G,x.to.cell? (ah w 4)=some (aa a.df):=λx=>bb (k:=4) ((s _).1 x.held).2 rfl;have akF:∀ x:bA G,x.to.cell? (ah w 5)=some (aa a.eb):=λx=>bb (k:=5) ((s _).1 x.held).2 rfl;have akG:∀ x:bA G,x.to.cell? (ah w 6)=some (aa a.hq):=λx=>bb (k:=6) ((s _).1 x.held).2 rfl;have lb:∀ x:bA G,x.to.cell? (ah w 7)=some (aa a.eP):=λx=>bb (k:=7) ((s _).1 x.held).2 rfl;have akH:∀ x:bA G,x.to.cell? (ah w 8)=some (aa a.le):=λx=>bb (k:=8) ((s _).1 x.held).2 rfl;have b:=(s _).2 ⟨mv.kd.hd,mv.bD⟩;have akn:=(s _).2 ⟨zp.kd.hd,zp.bD⟩;have l:=ad λW=>(s W).2;have akj:=aP br.drew (ab a 45);have zd:=ad zp;have akc:=ad mv.bF.size;clear s akb mv zp;refine cS 12 ?_;refine cJ (G) (.range 9) 3 9 ?_;refine dN (b) (.range 7) 2 ?_;generalize br.drew=akt at *;have aj7:=ad (Zl (base:=base) xs (au A xs.length cap) zd.o.kd.row (by have:=zd.o.bF.size;have:=aky.o;omega) I m akC a akt akj (λe=>by have:=gf.o _ e;have:=akc.o;omega));have aj8:=ad aki;clear akj aki akc;refine hG 7 akn ?_;clear dq Y sd bK g' akE akF akG lb akH b akn;generalize akt.alloc (ab a 45)=akK at *;have t:=zd;refine jh 8 λK E=>?_;go_simp;refine aj7.o.mono ?_;rintro r s' ⟨v',rfl,ajX,R,y⟩;obtain⟨V',akq,bB,akw⟩:∃ V' akq bB,v'=au V' akq bB:=by
   have⟨V',bB,h,_,_⟩:=dA ajX;exact⟨_,_,_,h⟩
  have T':∀ j,v'.ownBlock=some j->j<w.heap.size\/w.heap.size+2<=j:=λj q=>by
   rcases y with y|y
   .rw[y]at q;exact .inl (gf.o j q)
   rw[y]at q;cases q;have h1:=t.o.bF.size;have h2:=bZ t.o.rs;exact .inr I
  have X:=l.o s' ⟨R.heap t.o.kd.hd (λe=>t.o.kd.ne e),R.heap t.o.bD (λe=>H6)⟩;clear aj7 l;refine C9;clear X;refine cJ (λW=>0<=W.heap.size) [9,10,11] 0 3 ?_;refine hG 9 (c3 _) ?_;refine hG 10 (c3 _) ?_;have Q':=vl.o;have ajV:=t.o.kd.ne;have L:=R.heap t.o.kd.hd (λe=>ajV e);have aj9:=R.heap t.o.bD (λe=>H6);have akr:=R.heap t.o.rs (λe=>H6);refine j1;have g1:=bV L;have se:=(ag.refl (λj=>j=bj) s').setCell (p:=ah bj 1) rfl v';have akh:=bX L 1 v';have aj_:=se.heap aj9 I;have aks:=se.heap akr I;have ajY:v'.ownBlock≠some bj:=λe=>by
   rcases y with y|y
   .rw[y]at e;exact ajV e
   rw[y]at e;cases e;have h1:=t.o.bF.size;omega
  have akD:(jv xs a).length=xs.length+1:=by unfold jv;rw[aj8.o];simp only[cG,eA,h3,iv];omega
  have akl:(s'.setCell (ah bj 1) v').ownsRow base 45 9 v' (jv xs a).length (b0 (jv xs a)):=by
   have h:=b7 ajX se (λj q e=>ajY (by rw[q,e]));unfold jv;rw[aj8.o];exact h
  have ak:qd (s'.setCell (ah bj 1) v') base bj fr v' (jv xs a):=by
   refine⟨akh,akl,ajY,MC t.o.kd.eV a Q.out,I,λx ajZ=>?_⟩;rcases Ng ajZ with rfl|ajZ
   .rw[<-m'.o];exact⟨Om an I,akz.o⟩
   exact t.o.kd.rt x ajZ
  have lb:ag (λj=>j=bj\/(au A xs.length cap).ownBlock=some j) w (s'.setCell (ah bj 1) v'):=
   ((t.o.bF.mono λ_ _ e=>e.elim).trans (R.mono λ_ _ e=>.inr e)).trans (se.mono λ_ _ e=>.inl e)
  have TS:v'.ownBlock=(au A xs.length cap).ownBlock\/∃ j,w.heap.size<=j/\v'.ownBlock=some j:=y.imp id λe=>⟨_,t.o.bF.size,e⟩;refine U3;have akx:=ad aj_;have ajR:=ad aks;clear ak lb TS T' aj_ aks aj9 akr L akh se akl ajX R y akD t zd ajV;subst akw;refine iV 11 (c3 _) ?_;clear dq g1 ajY Q';refine xE;have cx:=aX akx.o;have f0:=bV ajR.o;have z0:=aX ajR.o;have aj0:=ad (x8 ajR.o (aa a.k.fr) (aa a.k.em) (aa a.k.bq) (aa a.k.cv));have S:=ad (t_ (ag.refl (λj=>j=w+1) a') rfl (aa a.k.fr) (aa a.k.em) (aa a.k.bq) (aa a.k.cv));refine aK;have Tq:=fN _ _ _ _ aj0.o 4 rfl;refine dj (v:=aV #[aG a.k,aa 0]) Tq ?_;exact⟨⟨a.k,0,rfl⟩,_,vs.o.keep S.o (by have:=vl.o;omega) (λj q e=>by have:=akv.o j q;omega),c1 aj5.o S.o a1,aj6.o⟩
 have aj':=aa9 N.kd.rt Q;rw[ajW.out]at aj';refine T6;rw[ajW.out]at g';have f3:=bV N.bD;have ajS:=ad (N.pU vl.o gf.o (o+1));rw[<-C,Zb]at ajS;have a7:=ad (Z9 xs f.k (16-o) o ps);have fo:=ad fo;clear N ps C Q;refine aK;go_roundg (17-(o+1))
 case rel=>exact⟨o+1,rfl,I,by rw[<-fo.o,show 17-o=(16-o)+1 by omega,a7.o,show 17-(o+1)=16-o by omega],by push_cast at ajS;exact ajS.o⟩
 omega
variable{bt g bj:J}{v:J->U}{fr:U}{xs:ai aE}
def NJ{p:J}{cz:ay}(h:qd w base p fr cz xs):∀ j,cz.ownBlock=some j->base<=j/\j<w.heap.size:=λj a=>by
 obtain⟨A,cap,rfl,_,b⟩:=dA h.row;cases A with
 | none=>simp[Value.ownBlock]at a
 | some x=>have:=b x rfl;rw[this.2.2]at a;cases a;exact⟨this.1,this.2.1⟩
structure fl(w:aj)(bt g bj:J)(v:J->U)(fr:U)(xs:ai aE):ae where
 bh:w.heap[g]?=some (ab (h' v bj) 458 (0,0))
 yJ:∃ cz,qd w bt bj fr cz xs/\cz.ownBlock≠some g
 ne:g≠bj
 rn:bt<=g
 wD:bt<=bj
namespace fl
theorem cell(h:fl w bt g bj v fr xs)(k:J)(hk:k<60)(q:IntKind)(a:dw k=q):w.cell? (ah g k)=some (.int q (v k)):=by
 subst a;exact bb h.bh (BV v bj k hk)
def free(h:fl w bt g bj v fr xs)(k:J):w.frozen? (ah g k)=false:=gY h.bh k
def keeps{S:J->ae}(h:fl w bt g bj v fr xs)(hk:ag S w w')(h1:∀ j,bt<=j->¬ S j):fl w' bt g bj v fr xs:=by
 have⟨cz,ao,aw⟩:=h.yJ;exact⟨hk.heap h.bh (h1 _ h.rn),⟨cz,ao.keep hk (h1 _ h.wD) (λj a=>h1 j (NJ ao j a).1),aw⟩,h.ne,h.rn,h.wD⟩
def keep(h:fl w bt g bj v fr xs)(hk:ag aH w w'):fl w' bt g bj v fr xs:=h.keeps hk (λ_ _=>id)
def set(h:fl w bt g bj v fr xs)(k:J)(hk:k<60)(q:IntKind)(b:dw k=q)(x:U):fl (w.setCell (ah g k) (.int q x)) bt g bj (bn v k x) fr xs:=by
 subst b;obtain⟨cz,ao,aw⟩:=h.yJ;exact⟨by rw[bX h.bh k,agO v bj k x hk],⟨cz,ao.keep ((ag.refl (λj=>j=g) w).setCell (p:=ah g k) rfl (.int (dw k) x)) (h4 h.ne) (λj a e=>aw (by rw[a,e])),aw⟩,h.ne,h.rn,h.wD⟩
def low(h:fl w bt g bj v fr xs):bt<=w.heap.size:=by have:=bZ h.bh;have:=h.rn;omega
end fl
def oH(em x:U):U:=if 0<em then max (-32768) (min (x*32768 / 4194304) 32768)else 0
def hn(em bq a eb eP le x:U):aE:=⟨⟨0,em,bq,0⟩,a,eb,oH em x,eP,le⟩
def rO(h:fl w bt g bj v fr xs)(em bq a eb eP le x:U)(ak:aZ x):aB 352 #[g,aa em,aa bq,aa a,aa eb,aa eP,aa le,af x] w λe w'=>e=aV #[]/\fl w' bt g bj v fr (fM fr xs (hn em bq a eb eP le x))/\ag (λj=>bt<=j) w w':=by
 have ao:=bb h.bh (by rw[h',qM,aD (dX v).symm]);obtain⟨cz,f,aw⟩:=h.yJ;obtain⟨ys,i⟩:∃ ys,fM fr xs (hn em bq a eb eP le x)=ys:=⟨_,rfl⟩;have u:aB 366 #[bj,aG #[aa 0,aa em,aa bq,aa 0,aa a,aa eb,aa (oH em x),aa eP,aa le]] w (Js w bt bj fr cz ys):=by
  rw[<-i];exact ad4 f h.low (hn em bq a eb eP le x)
 have l:=ad aw;have n:=ad (NJ f);have H:=ad h;have c:=ad u;have o:=ak.1;have p:=ak.2;rw[i];by_cases d:0<em
 .rw[show oH em x=_ from aD d]at c;exact S'
 rw[show oH em x=_ from az d]at c;exact S'
def cE(cc b:U):aY:=bits .and .u8 cc b != 0
def wj(i b:U)(w:aj):aB 349 #[bf i,bf b] w λe w'=>e=.returned (.bool (cE i b))/\w=w':=by
 exact er
def gH(f l:U):U:=dE (sG f) l
def gI(f l:U):U:=dE (kV f) l
def A4(f l:U)(d:aZ l)(w:aj):aB 362 #[aa f,af l] w λe w'=>e=aG #[af (gH f l),af (gI f l)]/\Below w w w':=by
 have cp:=(b9 w w).alloc bu (ab cH 91);unfold gH gI;refine cg;refine bJ ((ah3 f) _) ?_;refine aK;refine bJ ((Py f) _) ?_;refine aK;refine aS (((Gp (sG f) (kV f) l (BY _) (BY f) d)) _) λaq h1=>?_;have E:=(ag.bU (S:=aH) h1 a1).heap (aP w (ab cH 91)) id;generalize g:dE (sG f) l=x at *;generalize C:dE (kV f) l=y at *;refine dU;refine z7;have a:=cp.trans (h1.mono cp.size);have b:=ad (bX (bX E 0 (af x)) 1 (af y));have c:=ad (a.trans ((((ag.refl (λj=>j=w) aq).setCell (p:=ah w 0) rfl (af x)).setCell (p:=ah w 1) rfl (af y)).below a.size a1));refine aK;refine dj (v:=aG #[af x,af y]) (fN _ _ _ _ b.o 2 rfl) ?_;exact⟨by rw[g,m'.o],c.o⟩
section
variable{w w':aj}{bt g bj:J}{v:J->U}{fr:U}{xs:ai aE}
def lS(d:U)(j:J):U:=if j<4 then 0 else if j<24 then(if (j-4)%10<4 then -2147483648 else if (j-4)%10=4 then -d else if (j-4)%10=5 then -100 else 0)else if (j-24)%6<4 then -2147483648 else 0
def kQ(c d:U)(j:J):U:=if j=1 then 4294967295 else if j<4 then 4294967295 else if j<24 then(if (j-4)%10<4 then 2147483647 else if (j-4)%10=4 then 65535+d else if (j-4)%10=9 then c else 1000)else if (j-24)%6<4 then 2147483647 else 1000
def eO(c:U)(k:J)(e:U)(v:J->U):ae:=∀ j,j<60->lS (if j=k then e else 0) j<=v j/\v j<=kQ c (if j=k then e else 0) j
def eO.eR{c e:U}{k:J}(h:eO c k e v)(i:J)(x:U)(ak:lS (if i=k then e else 0) i<=x/\x<=kQ c (if i=k then e else 0) i):eO c k e (bn v i x):=λj d=>by
 unfold bn;by_cases b:j=i
 .have a:(if j=i then x else v j)=x:=aD b;rw[a];subst b;exact ak
 have a:(if j=i then x else v j)=v j:=az b;rw[a];exact h j d
def eO.move{c:U}{k:J}(h:eO c k 0 v)(i:J):eO c i 0 v:=λj a=>by simpa using h j a
def ea(o:J):ae:=o=4\/o=14
def py{o:J}(ar:ea o)(q:J)(a:q<10):dw (o+q)=if q<4 then .i32 else .i64:=by
 rcases ar with rfl|rfl
 .unfold dw;rw[az I,az I,aD I,show(4+q-4)%10=q by omega]
 unfold dw;rw[az I,az I,aD I,show(14+q-4)%10=q by omega]
def lR{o:J}(ar:ea o)(c d:U)(q:J)(a:q<10):lS d (o+q)=(if q<4 then -2147483648 else if q=4 then -d else if q=5 then -100 else 0)/\kQ c d (o+q)=(if q<4 then 2147483647 else if q=4 then 65535+d else if q=9 then c else 1000):=by
 have h1:o+q<24/\4<=o+q:=by unfold ea at ar;omega
 have h2:(o+q-4)%10=q:=by unfold ea at ar;omega
 constructor
 .unfold lS;rw[az I,aD I,h2]
 unfold kQ;rw[az I,az I,aD I,h2]
def Fq(q:J):U:=if q=5 then -100 else 0
def Ff(c:U)(q:J):U:=if q=9 then c else 1000
def kR(i:J)(av:i<2):ea (4+i*10):=by unfold ea;omega
def eO.fix{c e:U}{k:J}(h:eO c k e v){o:J}(ar:ea o)(q:J)(a:q<4):aZ (v (o+q)):=by
 have h1:=h (o+q) p6;rw[(lR ar c _ q I).1,(lR ar c _ q I).2,aD a,aD a]at h1;exact h1
def eO.num{c e:U}{k:J}(h:eO c k e v){o:J}(ar:ea o)(q:J)(a:5<=q/\q<10):Fq q<=v (o+q)/\v (o+q)<=Ff c q:=by
 have h1:=h (o+q) p6;rw[(lR ar c _ q I).1,(lR ar c _ q I).2]at h1;simp only[az (show ¬ q<4 by omega),az (show ¬ q=4 by omega)]at h1;exact h1
def eO.e'{c e:U}{o:J}(h:eO c (o+4) e v)(ar:ea o):-e<=v (o+4)/\v (o+4)<=65535+e:=by
 have h1:=h (o+4) p6;rw[aD rfl,(lR ar c _ 4 I).1,(lR ar c _ 4 I).2]at h1;exact h1
def eO.fy{c e:U}{o:J}(h:eO c (o+4) e v)(ar:ea o)(a x:U)(ak:-a<=x/\x<=65535+a):eO c (o+4) a (bn v (o+4) x):=λj d=>by
 unfold bn;by_cases b:j=o+4
 .subst b;rw[aD rfl,aD rfl,(lR ar c _ 4 I).1,(lR ar c _ 4 I).2];exact ak
 have h1:=h j d;rw[az b]at h1⊢;rw[az b];exact h1
structure cP(w:aj)(bt g bj:J)(fr c:U)(k:J)(e:U)(v:J->U)(xs:ai aE)(bE:aj):ae where
 st:fl bE bt g bj v fr xs
 bF:ag (λj=>bt<=j) w bE
 lim:eO c k e v
namespace cP
variable{bE gV:aj}{c e:U}{k:J}
theorem keep(h:cP w bt g bj fr c k e v xs bE)(hk:ag aH bE gV):cP w bt g bj fr c k e v xs gV:=⟨h.st.keep hk,h.bF.trans (hk.mono λ_ _ e=>e.elim),h.lim⟩
def b8{ys:ai aE}(h:cP w bt g bj fr c k e v xs bE)(a:fl gV bt g bj v fr ys)(hk:ag (λj=>bt<=j) bE gV):cP w bt g bj fr c k e v ys gV:=⟨a,h.bF.trans hk,h.lim⟩
theorem eR(h:cP w bt g bj fr c k e v xs bE)(i:J)(av:i<60)(q:IntKind)(a:dw i=q)(x:U)(ak:lS (if i=k then e else 0) i<=x/\x<=kQ c (if i=k then e else 0) i):cP w bt g bj fr c k e (bn v i x) xs (bE.setCell (ah g i) (.int q x)):=
 ⟨h.st.set i av q a x,h.bF.setCell (p:=ah g i) h.st.rn _,h.lim.eR i x ak⟩
def s9(h:cP w bt g bj fr c k e v xs bE){o:J}(ar:ea o)(q:J)(a:5<=q/\q<10)(x:U)(ak:Fq q<=x/\x<=Ff c q):cP w bt g bj fr c k e (bn v (o+q) x) xs (bE.setCell (ah g (o+q)) (aa x)):=by
 refine h.eR _ p6 _ (by rw[py ar q I,az I]) x ?_;rw[(lR ar c _ q I).1,(lR ar c _ q I).2];simp only[az (show ¬ q<4 by omega),az (show ¬ q=4 by omega)];exact ak
def l2(h:cP w bt g bj fr c k e v xs bE){o:J}(ar:ea o)(q:J)(a:q<4)(x:U)(ak:aZ x):cP w bt g bj fr c k e (bn v (o+q) x) xs (bE.setCell (ah g (o+q)) (af x)):=by
 refine h.eR _ p6 _ (by rw[py ar q I,aD a]) x ?_;rw[(lR ar c _ q I).1,(lR ar c _ q I).2,aD a,aD a];exact ak
theorem v8{o:J}(h:cP w bt g bj fr c (o+4) e v xs bE)(ar:ea o)(a x:U)(ak:-a<=x/\x<=65535+a):cP w bt g bj fr c (o+4) a (bn v (o+4) x) xs (bE.setCell (ah g (o+4)) (aa x)):=
 ⟨h.st.set _ p6 _ (by rw[py ar 4 I,az I]) x,h.bF.setCell (p:=ah g (o+4)) h.st.rn _,h.lim.fy ar a x ak⟩
theorem wide{o:J}(h:cP w bt g bj fr c (o+4) e v xs bE)(ar:ea o)(a:U)(b:e<=a):cP w bt g bj fr c (o+4) a v xs bE:=
 ⟨h.st,h.bF,by
  have h1:=h.lim.e' ar;have h2:=h.lim.fy ar a (v (o+4)) I
  rwa [GN]at h2⟩
theorem hl(h:cP w bt g bj fr c k e v xs bE){o:J}(ar:ea o)(q:J)(a:4<=q/\q<10):bE.cell? (ah g (o+q))=some (aa (v (o+q))):=
 h.st.cell _ p6 _ (by rw[py ar q I,az I])
theorem fZ(h:cP w bt g bj fr c k e v xs bE){o:J}(ar:ea o)(q:J)(a:q<4):bE.cell? (ah g (o+q))=some (af (v (o+q))):=
 h.st.cell _ p6 _ (by rw[py ar q I,aD a])
end cP
def qm(o:J)(v:J->U):J->U:=bn (bn v (o+6) (max (v (o+6)-1) 0)) (o+7) (max (v (o+7)-1) 0)
def kM(o:J)(n:U)(b:aY)(v:J->U):J->U:=if b then bn v (o+4) (v (o+4)+n)else v
def nV(o:J)(v:J->U):J->U:=bn v (o+4) (v (o+4)%65536)
def pW(o:J)(x y:U)(v:J->U):J->U:=bn (bn v (o+2) x) (o+3) y
def sB(o:J)(b:aY)(v:J->U):J->U:=if b then pW o (dE (v (o+2)) 32768) (dE (v (o+3)) 32768) v else v
def h8(o:J)(l:U)(v:J->U):J->U:=pW o (cY (v (o+2)) (gH (v (o+4)) l)) (cY (v (o+3)) (gI (v (o+4)) l)) v
def kj(i o:J)(fr:U)(b:aY)(s:(J->U)×ai aE):(J->U)×ai aE:=
 if b then(h8 o 8192 s.1,if ((h8 o 8192 s.1 0).tmod 8 == 0)=true then fM fr s.2 (hn (i+1) 8 8 4096 1 8 (h8 o 8192 s.1 o))else s.2)else s
def lJ(i o:J)(fr:U)(b:aY)(s:(J->U)×ai aE):(J->U)×ai aE:=
 if b=true/\s.1 (o+7)=0 then(bn (h8 o 65536 s.1) (o+7) 20,fM fr s.2 (hn (i+1) 9 9 8192 4 0 (bn (h8 o 65536 s.1) (o+7) 20 o)))else s
def wY(o:J)(v:J->U):J->U:=pW o (qG (v (o+2)) (v (o+3)) 61440 131072).1 (qG (v (o+2)) (v (o+3)) 61440 131072).2 v
def kW(o:J)(cc:U)(v:J->U):J->U:=sB o (cE cc 8) (nV o (kM o 1024 (cE cc 2) (kM o (-1024) (cE cc 1) (qm o v))))
def iM(i:J)(cc fr:U)(s:(J->U)×ai aE):(J->U)×ai aE:=
 let o:=4+i*10
 let t:=lJ i o fr (cE cc 32) (kj i o fr (cE cc 4) (kW o cc s.1,s.2))
 (wY o t.1,t.2)
def jx(a b:U):aZ (dE a b):=gE _
def y0(a b k m:U):aZ (qG a b k m).1/\aZ (qG a b k m).2:=by
 have c:aZ 0:=by unfold aZ;omega
 unfold qG rP rQ;split
 .constructor
  .dsimp only;split
   .exact c
   exact Lg _ _
  dsimp only;split
  .exact c
  exact Lg _ _
 exact⟨jx _ _,jx _ _⟩
def mV(a b:U):aZ (cY a b):=gE _
def agV{c:U}(h:fl w bt g bj v fr xs)(F:eO c 0 0 v)(i:J)(av:i<2)(cc:U):aB 347 #[g,aa i,bf cc] w λe w'=>e=aV #[]/\cP w bt g bj fr c 0 0 (iM i cc fr (v,xs)).1 (iM i cc fr (v,xs)).2 w':=by
 have ar:=kR i av;have ax:cP w bt g bj fr c (4+i*10+4) 0 v xs w:=⟨h,ag.refl _ _,F.move _⟩;have ib:=ax.hl ar 6 I;have C:=ax.hl ar 7 I;have f6:=h.free (4+i*10+6);have P:=h.free (4+i*10+7);have sP:0<=v (4+i*10+6)/\v (4+i*10+6)<=1000:=F.num ar 6 I;have v':0<=v (4+i*10+7)/\v (4+i*10+7)<=1000:=F.num ar 7 I;have f:=ad ((ax.s9 ar 6 I (max (v (4+i*10+6)-1) 0) H0).s9 ar 7 I (max (v (4+i*10+7)-1) 0) H0);clear h F ax;unfold iM
 go_in
 go_wp2_with fail
 go_region
 generalize m':4+i*10=o at *;have ax:cP w bt g bj fr c (o+4) 0 (qm o v) xs _:=f.o.keep (ag.refl _ _).drew;generalize World.drew _=aq at *;clear f ib C f6 P sP v';generalize ps:qm o v=v1 at *;go_wp2_with fail;refine bJ (wj cc 1 _) ?_;go_upto_if 32 with fail
 go_cut [] (λbE=>cP w bt g bj fr c (o+4) (0+1024) (kM o (-1024) (cE cc 1) v1) xs bE)
 case first=>
  refine Uh;cases al:cE cc 1
  .refine aK;go_meet;simpa[kM,al]using N.o.wide ar (0+1024) I
  refine aK;go_meet;simpa[kM,al,QA]using N.o.v8 ar (0+1024) (v1 (o+4)+(-1024)) I
 have ax:=hcut;clear hcut;generalize r':kM o (-1024) (cE cc 1) v1=v2 at *;refine aK;refine(wj cc 2 _).mono ?_;refine mN;go_upto_if 41 with fail
 go_cut [] (λbE=>cP w bt g bj fr c (o+4) ((0+1024)+1024) (kM o 1024 (cE cc 2) v2) xs bE)
 case first=>
  refine Uh;cases al:cE cc 2
  .refine aK;go_meet;simpa[kM,al]using N.o.wide ar ((0+1024)+1024) I
  refine aK;go_meet;simpa[kM,al,QA]using N.o.v8 ar ((0+1024)+1024) (v2 (o+4)+1024) I
 have ax:=hcut;clear hcut;generalize sd:kM o 1024 (cE cc 2) v2=L at *;have hZ:=ax.hl ar 4 I;have f4:=ax.st.free (o+4);have g':=D' (L (o+4));have f:=ad (ax.v8 ar 0 (L (o+4)%65536) I);go_upto_region 7 with fail
 have ax:cP w bt g bj fr c (o+4) 0 (nV o L) xs _:=f.o;refine xE;clear f hZ f4 g';generalize se:nV o L=p at *;refine aK;refine(wj cc 8 _).mono ?_;refine mN;go_upto_if 57 with fail
 go_cut [] (λbE=>cP w bt g bj fr c (o+4) 0 (sB o (cE cc 8) p) xs bE)
 case first=>
  refine Jp;have l':=ad (Gp (p (o+2)) (p (o+3)) 32768 m n eN);have f:=ad ax;clear ax;cases al:cE cc 8
  .refine aK;go_meet;simpa[sB,al]using f.o
  refine aK;refine aS (l'.o _) λzd Q=>?_;have ax:=f.o.keep (ag.bU Q a1);clear cB eS f2 f3 f;refine Jp;have f:=ad ((ax.l2 ar 2 I _ (jx (p (o+2)) 32768)).l2 ar 3 I _ (jx (p (o+3)) 32768));clear ax;refine aK;go_meet;simpa[sB,al,pW]using f.o
 have ax:=hcut;clear hcut;generalize s':sB o (cE cc 8) p=j at *;refine aK;refine(wj cc 4 _).mono ?_;refine mN;go_upto_if 67 with fail
 go_cut [] (λbE=>cP w bt g bj fr c (o+4) 0 (kj i o fr (cE cc 4) (j,xs)).1 (kj i o fr (cE cc 4) (j,xs)).2 bE)
 case first=>
  have f:=ad ax;cases al:cE cc 4
  .clear ax;refine aK;go_meet;simpa[kj,al]using f.o
  refine aK;obtain⟨G,s⟩:∃ G:aj->ae,∀ W,G W↔cP w bt g bj fr c (o+4) 0 j xs W:=⟨_,λ_=>Iff.rfl⟩;have R:∀ x:bA G,x.to.cell? (ah g (o+2))=some (af (j (o+2))):=λx=>((s _).1 x.held).fZ ar 2 I;have S:∀ x:bA G,x.to.cell? (ah g (o+2+1))=some (af (j (o+3))):=λx=>((s _).1 x.held).fZ ar 3 I;have T:∀ x:bA G,x.to.cell? (ah g (o+4))=some (aa (j (o+4))):=λx=>((s _).1 x.held).hl ar 4 I;have b:=(s _).2 (ax.keep (ag.refl _ _).drew);refine vh;have y:=ad (wW (j (o+2)) (j (o+3)) (gH (j (o+4)) 8192) (gI (j (o+4)) 8192) (ax.lim.fix ar 2 I) (ax.lim.fix ar 3 I) (jx _ _) (jx _ _));clear s ax;refine cS 14 ?_;refine cJ (G) (.range 11) 3 11 ?_;refine dN (b) (.range 9) 2 ?_;refine xR;refine eK 9 λK E=>?_;go_simp;refine(A4 _ 8192 eN _).mono ?_;refine Tr;refine jh 10 λK E=>?_;go_simp;refine aS (y.out _) λzp A=>?_;have z:=u.o _ _ B A;refine vq;have ax:=l.o _ z;clear R S T b B z d A u l y;refine Jp;have f:=ad ((ax.l2 ar 2 I _ (mV (j (o+2)) (gH (j (o+4)) 8192))).l2 ar 3 I _ (mV (j (o+3)) (gI (j (o+4)) 8192)));refine cJ (λW=>0<=W.heap.size) [11,12,13] 0 3 ?_;refine eK 11 λK E=>?_;go_simp;refine E _ _ (c3 _) ?_;clear E K;refine eK 12 λK E=>?_;go_simp;refine E _ _ (c3 _) ?_;clear E K;refine mz 13 λK E=>?_;go_simp;refine E _ _ (c3 _) ?_;clear E K;clear cB eS f2 f3 m n ax;have ax:cP w bt g bj fr c (o+4) 0 (h8 o 8192 j) xs _:=f.o;generalize World.setCell _ _ _=V at *;clear f;have cx:V.cell? (ah g 0)=some (aa (h8 o 8192 j 0)):=ax.st.cell 0 I .i64 rfl;have fo:V.cell? (ah g o)=some (af (h8 o 8192 j o)):=ax.fZ ar 0 I;have H:=ax.lim.fix ar 0 I;generalize Y:h8 o 8192 j=a at *;by_cases X:((a 0).tmod 8 == 0)=true
  .have Z:=ad (rO ax.st (i+1) 8 8 4096 1 8 (a o) H);refine Uq;clear q r Z;refine aK;go_meet;unfold kj;simp only[al,Y,X,if_true];exact f.o
  refine aK;go_meet;unfold kj;simp only[al,Y,X,if_true];exact ax
 have ax:=hcut;clear hcut;generalize aW:kj i o fr (cE cc 4) (j,xs)=t at *;have⟨a,ys⟩:=t;refine aK;refine(wj cc 32 _).mono ?_;refine mN;have C:=ax.hl ar 7 I;have h2:(cE cc 32=true/\a (o+7)=0)\/(cE cc 32=true/\¬ a (o+7)=0)\/cE cc 32=false:=by
  cases cE cc 32
  .exact .inr (.inr rfl)
  by_cases h:a (o+7)=0
  .exact .inl ⟨rfl,h⟩
  exact .inr (.inl ⟨rfl,h⟩)
 rcases h2 with⟨al,aw⟩|⟨al,aw⟩|al
 focus
  go_upto_region 14 with fail
  clear C;obtain⟨G,s⟩:∃ G:aj->ae,∀ W,G W↔cP w bt g bj fr c (o+4) 0 a ys W:=⟨_,λ_=>Iff.rfl⟩;have R:∀ x:bA G,x.to.cell? (ah g (o+2))=some (af (a (o+2))):=λx=>((s _).1 x.held).fZ ar 2 I;have S:∀ x:bA G,x.to.cell? (ah g (o+2+1))=some (af (a (o+3))):=λx=>((s _).1 x.held).fZ ar 3 I;have T:∀ x:bA G,x.to.cell? (ah g (o+4))=some (aa (a (o+4))):=λx=>((s _).1 x.held).hl ar 4 I;have b:=(s _).2 (ax.keep (ag.refl _ _).drew);have u:=ad (λ(W W':aj) (M:G W) (al:Below W W W')=>(s W').2 (((s W).1 M).keep (ag.bU al a1)));have l:=ad (λ(W:aj) (M:G W)=>(s W).1 M);have y:=ad (wW (a (o+2)) (a (o+3)) (gH (a (o+4)) 65536) (gI (a (o+4)) 65536) (ax.lim.fix ar 2 I) (ax.lim.fix ar 3 I) (jx _ _) (jx _ _));clear s ax;refine cS 14 ?_;refine cJ (G) (.range 11) 3 11 ?_;refine dN (b) (.range 9) 2 ?_;generalize World.drew _=wd at *;refine eK 9 λK E=>?_;go_simp;refine aS (A4 _ 65536 eN _) λD d=>?_;have B:=u.o _ _ b d;refine E _ _ (B) ?_;clear E K;refine jh 10 λK E=>?_;go_simp;refine aS (y.out _) λzp A=>?_;have z:=u.o _ _ B A;refine E _ _ (z) ?_;clear E K;have ax:=l.o _ z;clear R S T b B z d A u l y;have cB:=ax.fZ ar 2 I;have eS:World.cell? _ (ah g (o+2+1))=_:=ax.fZ ar 3 I;have f2:=ax.st.free (o+2);have f3:=ax.st.free (o+2+1);have m:=ax.lim.fix ar 2 I;have n:=ax.lim.fix ar 3 I;have f:=ad ((ax.l2 ar 2 I _ (mV (a (o+2)) (gH (a (o+4)) 65536))).l2 ar 3 I _ (mV (a (o+3)) (gI (a (o+4)) 65536)));refine cJ (λW=>0<=W.heap.size) [11,12,13] 0 3 ?_;refine eK 11 λK E=>?_;go_simp;refine E _ _ (c3 _) ?_;clear E K;refine eK 12 λK E=>?_;go_simp;refine E _ _ (c3 _) ?_;clear E K;refine mz 13 λK E=>?_;go_simp;refine E _ _ (c3 _) ?_;clear E K;clear cB eS f2 f3 m n ax;have ax:cP w bt g bj fr c (o+4) 0 (h8 o 65536 a) ys _:=f.o;generalize World.setCell _ _ _=V at *;clear f;have C:=ax.hl ar 7 I;have P:=ax.st.free (o+7);have f:=ad (ax.s9 ar 7 I 20 (by unfold Fq Ff;omega));clear ax;go_upto_region 16 with fail
  have ax:cP w bt g bj fr c (o+4) 0 (bn (h8 o 65536 a) (o+7) 20) ys _:=f.o;generalize World.setCell _ _ _=gf at *;clear f C P;have fo:gf.cell? (ah g o)=some (af (bn (h8 o 65536 a) (o+7) 20 o)):=ax.fZ ar 0 I;have H:=ax.lim.fix ar 0 I;have hd:lJ i o fr (cE cc 32) (a,ys)=(bn (h8 o 65536 a) (o+7) 20,fM fr ys (hn (i+1) 9 9 8192 4 0 (bn (h8 o 65536 a) (o+7) 20 o))):=aD ⟨al,aw⟩;generalize bn (h8 o 65536 a) (o+7) 20=k at *;have Z:=ad (rO ax.st (i+1) 9 9 8192 4 0 (k o) H);have Q':(i:U)+1<=2:=I;go_wp2_with fail;refine aS Z.o λwc ⟨q,r⟩=>?_;have ax:=ax.b8 q r;clear q r Z fo H;generalize fM _ _ _=cb at *;go_upto_region 17 with fail
 rotate_left
 focus
  go_upto_region 17 with fail
  have hd:lJ i o fr (cE cc 32) (a,ys)=(a,ys):=az (λh=>aw h.2);generalize vl:a=k at *;generalize vs:ys=cb at *
 rotate_left
 focus
  go_upto_region 17 with fail
  have hd:lJ i o fr (cE cc 32) (a,ys)=(a,ys):=az (λh=>by rw[al]at h;cases h.1);generalize vl:a=k at *;generalize vs:ys=cb at *
 all_goals
  have cB:=ax.fZ ar 2 I;have eS:World.cell? _ (ah g (o+2+1))=_:=ax.fZ ar 3 I;have f2:=ax.st.free (o+2);have f3:=ax.st.free (o+2+1);have m:=ax.lim.fix ar 2 I;have n:=ax.lim.fix ar 3 I;have mv:=ad (agZ (k (o+2)) (k (o+3)) 61440 131072 m n eN eN);have f:=ad ax;clear ax;go_wp2_with fail;refine aS (mv.o _) λzd Q=>?_;have ax:=f.o.keep (ag.bU Q a1);clear cB eS f2 f3 f;have cB:=ax.fZ ar 2 I;have eS:World.cell? _ (ah g (o+2+1))=_:=ax.fZ ar 3 I;have f2:=ax.st.free (o+2);have f3:=ax.st.free (o+2+1);have m:=ax.lim.fix ar 2 I;have n:=ax.lim.fix ar 3 I;have f:=ad ((ax.l2 ar 2 I _ (y0 (k (o+2)) (k (o+3)) 61440 131072).1).l2 ar 3 I _ (y0 (k (o+2)) (k (o+3)) 61440 131072).2);clear ax;go_wp2;go_end0;refine⟨rfl,?_⟩;have lb:kW o cc v=j:=by unfold kW;rw[ps,r',sd,se,s']
  simp only[m',lb,aW,hd];exact⟨f.o.st,f.o.bF,f.o.lim.move 0⟩
end
def jT(o:J)(v:J->U):U×U×U:=fI (v o) (v (o+2)) (-3932160) 3932160 1 2
def jU(o:J)(v:J->U):U×U×U:=fI (v (o+1)) (v (o+3)) (-3932160) 3932160 4 8
def ru(o:J)(v:J->U):J->U:=bn (bn (bn (bn v o (jT o v).1) (o+1) (jU o v).1) (o+2) (jT o v).2.1) (o+3) (jU o v).2.1
def kS(i:J)(fr:U)(s:(J->U)×ai aE):(J->U)×ai aE:=
 (ru (4+i*10) s.1,if (bits .or .i64 (jT (4+i*10) s.1).2.2 (jU (4+i*10) s.1).2.2 != 0)=true then fM fr s.2 (hn (i+1) 3 3 8192 3 0 (ru (4+i*10) s.1 (4+i*10)))else s.2)
def w6(p v bt av kI iA:U)(a_:aZ v)(h1:aZ bt)(h2:aZ av):aZ (fI p v bt av kI iA).1/\aZ (fI p v bt av kI iA).2.1:=by
 have c:∀ a b,aZ (dE a b):=λa b=>gE _;unfold fI;dsimp only;split
 .exact⟨h1,c _ _⟩
 split
 .exact⟨h2,c _ _⟩
 exact⟨gE _,a_⟩
def agT{c:U}{bE:aj}(h:cP w bt g bj fr c 0 0 v xs bE)(i:J)(av:i<2):aB 348 #[g,aa i] bE λe w'=>e=aV #[]/\cP w bt g bj fr c 0 0 (kS i fr (v,xs)).1 (kS i fr (v,xs)).2 w':=by
 have ar:=kR i av;have x:=ad E5;unfold kS;have⟨G,m⟩:=gg (F:=λW=>cP w bt g bj fr c 0 0 v xs W);have bR:∀ W,G W->W.cell? (ah g (4+i*10))=some (af (v (4+i*10))):=λW j=>((m W).1 j).fZ ar 0 I;have bI:∀ W,G W->W.cell? (ah g (4+i*10+1))=some (af (v ((4+i*10)+1))):=λW j=>((m W).1 j).fZ ar 1 I;have p:∀ W,G W->W.cell? (ah g (4+i*10+2))=some (af (v ((4+i*10)+2))):=λW j=>((m W).1 j).fZ ar 2 I;have q:∀ W,G W->W.cell? (ah g (4+i*10+2+1))=some (af (v ((4+i*10)+3))):=λW j=>((m W).1 j).fZ ar 3 I;have l:=(m _).2 (h.keep (ag.refl _ _).drew);have n:=ad (λ(W W':aj) (j:G W) (al:Below W W W')=>(m W').2 (((m W).1 j).keep (ag.bU al a1)));have D:=ad (λ(W:aj) (j:G W)=>(m W).1 j);have ds:=h.lim.fix ar 0 I;have L:=h.lim.fix ar 1 I;have A:=h.lim.fix ar 2 I;have B:=h.lim.fix ar 3 I;have z:=ad (agX (v (4+i*10)) (v ((4+i*10)+1)) (v ((4+i*10)+2)) (v ((4+i*10)+3)) (-3932160) (-3932160) 3932160 3932160 ds L A B I I);have ak:=w6 (v (4+i*10)) (v ((4+i*10)+2)) (-3932160) 3932160 1 2 A eN eN;have a8:=w6 (v ((4+i*10)+1)) (v ((4+i*10)+3)) (-3932160) 3932160 4 8 B eN eN;change aZ (jT (4+i*10) v).1/\aZ (jT (4+i*10) v).2.1 at ak;change aZ (jU (4+i*10) v).1/\aZ (jU (4+i*10) v).2.1 at a8;change Hid (∀ w,Calls _ _ _ w λe w'=>e=aV #[aG #[af (jT (4+i*10) v).1,af (jU (4+i*10) v).1],aG #[af (jT (4+i*10) v).2.1,af (jU (4+i*10) v).2.1],aa (bits .or .i64 (jT (4+i*10) v).2.2 (jU (4+i*10) v).2.2),aa 0]/\_)at z;unfold ru;generalize jT (4+i*10) v=X at *;generalize jU (4+i*10) v=Y at *
 go_in
 go_wp2_with fail;generalize N:4+i*10=o at *;obtain⟨F,a⟩:∃ F:aj->ae,∀ W,F W:=⟨λ_=>True,λ_=>trivial⟩;refine cS 24 ?_;refine cJ (F) (.range 24) 0 24 ?_;refine dN (a bE.drew) [0,1,2,3,4,6,7,8] 16 ?_;generalize bE.drew=y at *;have r:=bR y l;have s:=bI y l;have t:=p y l;have u:=q y l;refine Fj 5 9 10 (λK d=>?_) (λK d=>?_) (λK d=>?_)
 all_goals simp only[cD,gS]
 focus
  go_simp;refine d _ _ (a _) ?_;refine mo 9 10 (λK d=>?_) (λK d=>?_)
  all_goals simp only[cD,gS]
  focus
   go_simp;refine d _ _ (a _) ?_;refine eK 10 λK d=>?_;go_simp;refine aS (x.o _) λaq k=>?_;have b:=n.o _ _ l k;have r:=bR aq b;have s:=bI aq b;have t:=p aq b;have u:=q aq b;refine d _ _ (a _) ?_
  rotate_left
  focus
   go_simp;refine aS (x.o _) λaq k=>?_;have b:=n.o _ _ l k;have r:=bR aq b;have s:=bI aq b;have t:=p aq b;have u:=q aq b;refine d _ _ (a _) ?_;refine hG 9 (a _) ?_
 rotate_left 2
 focus
  go_simp;refine d _ _ (a _) ?_;refine mo 5 10 (λK d=>?_) (λK d=>?_)
  all_goals simp only[cD,gS]
  focus
   go_simp;refine d _ _ (a _) ?_;refine eK 10 λK d=>?_;go_simp;refine aS (x.o _) λaq k=>?_;have b:=n.o _ _ l k;have r:=bR aq b;have s:=bI aq b;have t:=p aq b;have u:=q aq b;refine d _ _ (a _) ?_
  rotate_left
  focus
   go_simp;refine aS (x.o _) λaq k=>?_;have b:=n.o _ _ l k;have r:=bR aq b;have s:=bI aq b;have t:=p aq b;have u:=q aq b;refine d _ _ (a _) ?_;refine hG 5 (a _) ?_
 rotate_left 2
 focus
  go_simp;refine aS (x.o _) λaq k=>?_;have b:=n.o _ _ l k;have r:=bR aq b;have s:=bI aq b;have t:=p aq b;have u:=q aq b;refine d _ _ (a _) ?_;refine mo 5 9 (λK d=>?_) (λK d=>?_)
  all_goals simp only[cD,gS]
  focus
   go_simp;refine d _ _ (a _) ?_;refine hG 9 (a _) ?_
  rotate_left
  focus
   go_simp;refine d _ _ (a _) ?_;refine hG 5 (a _) ?_
 all_goals
  refine eK 11 λK d=>?_;go_simp;refine aS (z.o _) λaF E=>?_;have ax:=D.o _ (n.o _ _ b E);refine d _ _ (a _) ?_;refine dN (a aF) [12,13,14,15,16] 7 ?_;have Q:=ax.fZ ar 0 I;have R:=ax.fZ ar 1 I;have S:=ax.fZ ar 2 I;have T:World.cell? _ (ah g (o+2+1))=_:=ax.fZ ar 3 I;have f0:=ax.st.free o;have f1:=ax.st.free (o+1);have f2:=ax.st.free (o+2);have f3:=ax.st.free (o+2+1);have f:=ad ((((ax.l2 ar 0 I _ ak.1).l2 ar 1 I _ a8.1).l2 ar 2 I _ ak.2).l2 ar 3 I _ a8.2);refine hG 17 (a _) ?_;refine hG 18 (a _) ?_;refine hG 19 (a _) ?_;refine hG 20 (a _) ?_;refine hG 21 (a _) ?_;refine hG 22 (a _) ?_;refine iV 23 (a _) ?_;have ax:=f.o;generalize World.setCell (World.setCell (World.setCell (World.setCell _ _ _) _ _) _ _) _ _=br at *;generalize C:bn (bn (bn (bn v (o+0) X.1) (o+1) Y.1) (o+2) X.2.1) (o+3) Y.2.1=v' at *;rw[tj]at C;have P:br.cell? (ah g o)=some (af (v' o)):=ax.fZ ar 0 I;have M:=ax.lim.fix ar 0 I;by_cases al:(bits .or .i64 X.2.2 Y.2.2 != 0)=true
  .have H:=ad (rO ax.st (i+1) 3 3 8192 3 0 (v' o) M);refine Df;go_end0;exact z'
  have f:=ad ax;go_wp2;go_end0;exact z'
def cI(o n:J)(f:J->U)(v:J->U):J->U:=λj=>if o<=j/\j<o+n then f (j-o)else v j
def lZ(x y f dF:U)(q:J):U:=if q=0 then x else if q=1 then y else if q=4 then f else if q=5 then 3 else if q=9 then dF else 0
def lj(k:U):U:=if k%2=1 then 2621440 else -2621440
def nH(k:U):U:=if 2<=k then 2621440 else -2621440
def l0(v:J->U):U:=gJ (v 1) / 65536*4 / 65536
def qj(i:J)(fr:U)(s:(J->U)×ai aE):(J->U)×ai aE:=
 let o:=4+i*10
 if 1<s.1 (o+8)then(bn s.1 (o+8) (s.1 (o+8)-1),s.2)
 else(cI o 10 (lZ (lj (l0 s.1)) (nH (l0 s.1)) 0 (s.1 (o+9))) (bn (bn s.1 (o+8) (s.1 (o+8)-1)) 1 (gJ (s.1 1))),fM fr s.2 (hn (i+1) 6 6 16384 9 0 (lj (l0 s.1))))
def re(v:J->U):J->J->cr J
 | _,0=>none
 | k,n+1=>if v (24+k*6+4)=0 then some k else re v (k+1) n
def pO(x y bE gV dZ a:U)(q:J):U:=if q=0 then x else if q=1 then y else if q=2 then bE else if q=3 then gV else if q=4 then dZ else a
def ov(i:J)(fr:U)(s:(J->U)×ai aE):(J->U)×ai aE:=
 let o:=4+i*10
 if 0<s.1 (o+6)then s else match re s.1 0 6 with
  | none=>s
  | some k=>(bn (cI (24+k*6) 6 (pO (cY (s.1 o) (gH (s.1 (o+4)) 262144)) (cY (s.1 (o+1)) (gI (s.1 (o+4)) 262144)) (gH (s.1 (o+4)) 196608) (gI (s.1 (o+4)) 196608) (i+1) 40) s.1) (o+6) 8,fM fr s.2 (hn (i+1) 1 1 16384 5 0 (s.1 o)))
def fw(i:J)(cc fr:U)(s:(J->U)×ai aE):(J->U)×ai aE:=
 if 0<s.1 (4+i*10+8)then qj i fr s else if cE cc 16=true then ov i fr (kS i fr (iM i cc fr s))else kS i fr (iM i cc fr s)
def q8(v:J->U):aY:=decide (0<v 12) || (decide (0<v 22) || !jj (d_ (v 14) (v 4)) (d_ (v 15) (v 5)) (cY 262144 262144))
def jO(fr:U)(s:(J->U)×ai aE):(J->U)×ai aE:=
 if q8 s.1=true then s else(bn (bn (bn (bn s.1 6 (s.1 16)) 7 (s.1 17)) 16 (s.1 6)) 17 (s.1 7),fM fr s.2 (hn 0 4 4 16384 6 0 0))
def j'(i:J)(fr:U)(s:(J->U)×ai aE):(J->U)×ai aE:=
 let o:=4+i*10
 let a:=4+(1-i)*10
 let v1:=bn s.1 (o+5) (s.1 (o+5)-1)
 let cm:=fM fr s.2 (hn (i+1) 2 2 32768 8 0 (s.1 o))
 if 1<s.1 (o+5)then(v1,cm)else(bn (bn v1 (o+8) 30) (a+9) (s.1 (a+9)+1),fM fr cm (hn (i+1) 5 5 32768 10 0 (s.1 o)))
def fp(u:J)(v:J->U):J->U:=bn (bn (bn v (u+5) (v (u+5)-1)) u (cY (v u) (v (u+2)))) (u+1) (cY (v (u+1)) (v (u+3)))
def Bd(u p:J)(v:J->U):aY:=decide (v (p+8)=0)&&jj (d_ (v p) (v u)) (d_ (v (p+1)) (v (u+1))) (cY 65536 262144)
def ll(k:J)(fr:U)(s:(J->U)×ai aE):aY×(J->U)×ai aE:=
 let u:=24+k*6
 if s.1 (u+5)=1 then(false,bn s.1 (u+5) (s.1 (u+5)-1),s.2)
 else if gm (-4194304) (-4194304) 4194304 4194304 (fp u s.1 u) (fp u s.1 (u+1))=false then(false,fp u s.1,s.2)
 else if Bd u (4+(2-s.1 (u+4)).toNat*10) (fp u s.1)=true then(false,j' (2-s.1 (u+4)).toNat fr (fp u s.1,s.2))
 else(true,fp u s.1,s.2)
def nt(k:J)(fr:U)(s:(J->U)×ai aE):(J->U)×ai aE:=
 if s.1 (24+k*6+4)=0 then s else if (ll k fr s).1=true then(ll k fr s).2 else(cI (24+k*6) 6 (λ_=>0) (ll k fr s).2.1,(ll k fr s).2.2)
def hM(fr:U)(s:(J->U)×ai aE):J->(J->U)×ai aE
 | 0=>s
 | k+1=>nt k fr (hM fr s k)
def mm(q:J):U:=if q<10 then lZ (-2097152) 0 0 0 q else lZ 2097152 0 32768 0 (q-10)
def pF(v:J->U):aY:=decide (1<v 3)&&(decide (v 13<3)&&decide (v 23<3))
def kc(fr:U)(s:(J->U)×ai aE):(J->U)×ai aE:=
 if pF s.1=true then(bn s.1 3 (s.1 3-1),s.2)
 else(cI 24 36 (λ_=>0) (cI 4 20 mm (bn (bn (bn s.1 3 (s.1 3-1)) 2 (s.1 2+1)) 3 600)),fM fr s.2 (hn 0 7 7 32768 12 0 0))
def stepG(a b fr:U)(v:J->U):(J->U)×ai aE:=kc fr (hM fr (jO fr (fw 1 b fr (fw 0 a fr (v,[])))) 6)
def jB(a b:U)(v:J->U):J->U:=bn (stepG a b (v 0) v).1 0 (v 0+1)
def lu(a b:U)(v:J->U):ai aE:=(stepG a b (v 0) v).2
structure pd(c:U)(p:J->U):ae where
 x:-3932160<=p 0/\p 0<=3932160
 y:-3932160<=p 1/\p 1<=3932160
 bE:aZ (p 2)
 gV:aZ (p 3)
 e':0<=p 4/\p 4<=65535
 ao:0<=p 5/\p 5<=3
 co:0<=p 6/\p 6<=8
 fA:0<=p 7/\p 7<=20
 e5:0<=p 8/\p 8<=30
 dF:0<=p 9/\p 9<=c
 up:0<p 5↔p 8=0
def vJ(p:J->U):ae:=(∀ q,q<6->p q=0)\/((-4194304<=p 0/\p 0<=4194304)/\(-4194304<=p 1/\p 1<=4194304)/\aZ (p 2)/\aZ (p 3)/\(1<=p 4/\p 4<=2)/\(1<=p 5/\p 5<=40))
structure Mid(c f r:U)(v:J->U):ae where
 pl:∀ o,ea o->pd c (λq=>v (o+q))
 pN:∀ k,k<6->vJ (λq=>v (24+k*6+q))
 f0:v 0=f
 f1:0<=v 1/\v 1<=4294967295
 f2:v 2=r
 f3:1<=v 3/\v 3<=600
def vJ.congr(h:vJ p)(a:∀ q,q<6->lX q=p q):vJ lX:=by
 unfold vJ at h⊢;rw[a 0 I,a 1 I,a 2 I,a 3 I,a 4 I,a 5 I];exact h.imp (λh q b=>(a q b).trans (h q b)) id
def pd.congr{c:U}(h:pd c p)(a:∀ q,q<10->lX q=p q):pd c lX:=by
 have b:=a 0 I;have h1:=a 1 I;have h2:=a 2 I;have d:=a 3 I;have e:=a 4 I;have f:=a 5 I;have g:=a 6 I;have i:=a 7 I;have j:=a 8 I;have k:=a 9 I;have⟨l,m,o,r,s,t,u,v,w,x,n⟩:=h;constructor<;>simp only[b,h1,h2,d,e,f,g,i,j,k]<;>assumption
def pd.mono{c:U}(h:pd c p)(an:c<=d):pd d p:={h with dF:=⟨h.dF.1,Co h.dF.2 an⟩}
theorem Mid.mono{c:U}{v:J->U}(h:Mid c f r v)(an:c<=d):Mid d f r v:={h with pl:=λo ar=>(h.pl o ar).mono an}
def Mid.rC{c:U}{v:J->U}(h:Mid c f r v){o:J}(ar:ea o)(aA:∀ j,j<o\/o+10<=j->v' j=v j)(ao:pd c (λq=>v' (o+q))):Mid c f r v':=by
 have g:4<=o/\o+10<=24:=by unfold ea at ar;omega
 refine⟨λb a=>?_,λk hk=>(h.pN k hk).congr λq d=>aA _ (.inr I),?_,?_,?_,?_⟩
 .by_cases e:b=o
  .subst e;exact ao
  exact(h.pl b a).congr λq d=>aA _ (by unfold ea at ar a;omega)
 .rw[aA 0 (.inl I)];exact h.f0
 .rw[aA 1 (.inl I)];exact h.f1
 .rw[aA 2 (.inl I)];exact h.f2
 rw[aA 3 (.inl I)];exact h.f3
def Mid.BX{c:U}{v:J->U}(h:Mid c f r v){k:J}(hk:k<6)(aA:∀ j,j<24+k*6\/24+k*6+6<=j->v' j=v j)(ao:vJ (λq=>v' (24+k*6+q))):Mid c f r v':=by
 refine⟨λg a=>(h.pl g a).congr λq d=>aA _ (.inl (by unfold ea at a;omega)),λj b=>?_,?_,?_,?_,?_⟩
 .by_cases e:j=k
  .subst e;exact ao
  exact(h.pN j b).congr λq d=>aA _ I
 .rw[aA 0 (.inl I)];exact h.f0
 .rw[aA 1 (.inl I)];exact h.f1
 .rw[aA 2 (.inl I)];exact h.f2
 rw[aA 3 (.inl I)];exact h.f3
def n1(v:J->U)(o a q:J)(x:U):bn v (o+a) x (o+q)=if q=a then x else v (o+q):=by
 unfold bn;by_cases h:q=a
 .rw[aD h,aD I]
 rw[az h,az I]
def aiu(v:J->U)(o q:J)(x:U):bn v o x (o+q)=if q=0 then x else v (o+q):=n1 v o 0 q x
def pV(v:J->U)(o:J)(x:U):bn v o x o=x:=aD rfl
def c0(v:J->U)(o j:J)(x:U)(h:j≠o):bn v o x j=v j:=az h
def pJ(o n:J)(f v:J->U)(q:J)(h:q<n):cI o n f v (o+q)=f q:=by
 unfold cI;rw[aD I,show o+q-o=q by omega]
def iI(o n:J)(f v:J->U)(j:J)(h:j<o\/o+n<=j):cI o n f v j=v j:=az I
structure j6(o:J)(v v':J->U):ae where
 same:∀ j,j≠o+2->j≠o+3->j≠o+4->j≠o+6->j≠o+7->v' j=v j
 aF:aZ (v' (o+2))
 br:aZ (v' (o+3))
 co:0<=v' (o+6)/\v' (o+6)<=8
 fA:0<=v' (o+7)/\v' (o+7)<=20
def j6.rT{o:J}{v:J->U}(h:j6 o v v'){x y:U}(ak:aZ x)(a8:aZ y):j6 o v (pW o x y v')/\pW o x y v' (o+4)=v' (o+4):=by
 unfold pW;refine⟨⟨λj h2 a b c d=>?_,?_,?_,?_,?_⟩,?_⟩
 .rw[c0 _ _ _ _ a,c0 _ _ _ _ h2];exact h.same j h2 a b c d
 all_goals simp only[n1]
 .exact ak
 .exact a8
 .exact h.co
 .exact h.fA
 rfl
def j6.v8{o:J}{v:J->U}(h:j6 o v v')(x:U):j6 o v (bn v' (o+4) x):=by
 refine⟨λj h2 b a c d=>?_,?_,?_,?_,?_⟩
 .rw[c0 _ _ _ _ a];exact h.same j h2 b a c d
 all_goals simp only[n1]
 .exact h.aF
 .exact h.br
 .exact h.co
 exact h.fA
def j6.PY{o:J}{v:J->U}(h:j6 o v v'):j6 o v (bn v' (o+7) 20)/\bn v' (o+7) 20 (o+4)=v' (o+4):=by
 refine⟨⟨λj h2 b c d a=>?_,?_,?_,?_,?_⟩,?_⟩
 .rw[c0 _ _ _ _ a];exact h.same j h2 b c d a
 all_goals simp only[n1]
 .exact h.aF
 .exact h.br
 .exact h.co
 .show(0:U)<=20/\(20:U)<=20;decide
 rfl
def j6.goes{o:J}{v:J->U}(h:j6 o v v')(l:U):j6 o v (h8 o l v')/\h8 o l v' (o+4)=v' (o+4):=h.rT (mV _ _) (mV _ _)
def ahC{c:U}{v:J->U}{o:J}(h:pd c (λq=>v (o+q)))(i:J)(ar:o=4+i*10)(cc fr:U)(xs:ai aE):j6 o v (iM i cc fr (v,xs)).1/\0<=(iM i cc fr (v,xs)).1 (o+4)/\(iM i cc fr (v,xs)).1 (o+4)<=65535:=by
 have l:j6 o v (qm o v):=by
  have a:=h.co;have g:=h.fA;refine⟨λj h2 k d a g=>?_,?_,?_,?_,?_⟩
  .unfold qm;rw[c0 _ _ _ _ g,c0 _ _ _ _ a]
  all_goals unfold qm;simp only[n1]
  .exact h.bE
  .exact h.gV
  .show 0<=max (v (o+6)-1) 0/\max (v (o+6)-1) 0<=8;omega
  show 0<=max (v (o+7)-1) 0/\max (v (o+7)-1) 0<=20;omega
 have h1:∀ n b v1,j6 o v v1->j6 o v (kM o n b v1):=λn b v1 h1=>by
  cases b
  .exact h1
  exact h1.v8 _
 have h2:=h1 1024 (cE cc 2) _ (h1 (-1024) (cE cc 1) _ l);generalize m:kM o 1024 (cE cc 2) (kM o (-1024) (cE cc 1) (qm o v))=v2 at *;have k:j6 o v (nV o v2):=h2.v8 _;have f3:0<=nV o v2 (o+4)/\nV o v2 (o+4)<=65535:=by
  unfold nV;rw[pV];omega
 have d:j6 o v (kW o cc v)/\(0<=kW o cc v (o+4)/\kW o cc v (o+4)<=65535):=by
  unfold kW;rw[m];cases cE cc 8
  .exact⟨k,f3⟩
  have d:=k.rT (jx (nV o v2 (o+2)) 32768) (jx (nV o v2 (o+3)) 32768);exact⟨d.1,by rw[show sB o true (nV o v2) (o+4)=_ from d.2];exact f3⟩
 have f:j6 o v (kj i o fr (cE cc 4) (kW o cc v,xs)).1/\(0<=(kj i o fr (cE cc 4) (kW o cc v,xs)).1 (o+4)/\(kj i o fr (cE cc 4) (kW o cc v,xs)).1 (o+4)<=65535):=by
  cases cE cc 4
  .exact d
  have f:=d.1.goes 8192;exact⟨f.1,by show 0<=h8 o 8192 (kW o cc v) (o+4)/\h8 o 8192 (kW o cc v) (o+4)<=65535;rw[f.2];exact d.2⟩
 unfold iM;simp only[<-ar];generalize kj i o fr (cE cc 4) (kW o cc v,xs)=t at *;have a:j6 o v (lJ i o fr (cE cc 32) t).1/\(0<=(lJ i o fr (cE cc 32) t).1 (o+4)/\(lJ i o fr (cE cc 32) t).1 (o+4)<=65535):=by
  unfold lJ;split
  .have a:=f.1.goes 65536;exact⟨a.1.PY.1,by show 0<=bn (h8 o 65536 t.1) (o+7) 20 (o+4)/\bn (h8 o 65536 t.1) (o+7) 20 (o+4)<=65535;rw[a.1.PY.2,a.2];exact f.2⟩
  exact f
 generalize lJ i o fr (cE cc 32) t=e at *;have g:=a.1.rT (y0 (e.1 (o+2)) (e.1 (o+3)) 61440 131072).1 (y0 (e.1 (o+2)) (e.1 (o+3)) 61440 131072).2;exact⟨g.1,by show 0<=wY o e.1 (o+4)/\wY o e.1 (o+4)<=65535;rw[show wY o e.1 (o+4)=_ from g.2];exact a.2⟩
def Fw{c:U}{v:J->U}(h:Mid c f r v)(i:J)(av:i<2)(cc fr:U)(xs:ai aE):Mid c f r (iM i cc fr (v,xs)).1:=by
 refine DV;obtain⟨h1,h2⟩:=ahC ao i rfl cc fr xs;generalize (iM i cc fr (v,xs)).1=v' at *;generalize 4+i*10=o at *;refine h.rC ar (λj a=>h1.same j I I I I I) ?_;have e:∀ q,q≠2->q≠3->q≠4->q≠6->q≠7->v' (o+q)=v (o+q):=λq _ _ _ _ _=>h1.same _ I I I I I;refine⟨?_,?_,h1.aF,h1.br,h2,?_,h1.co,h1.fA,?_,?_,?_⟩
 .show _<=v' (o+0)/\v' (o+0)<=_;rw[e 0 I I I I I];exact ao.x
 .show _<=v' (o+1)/\v' (o+1)<=_;rw[e 1 I I I I I];exact ao.y
 .show _<=v' (o+5)/\v' (o+5)<=_;rw[e 5 I I I I I];exact ao.ao
 .show _<=v' (o+8)/\v' (o+8)<=_;rw[e 8 I I I I I];exact ao.e5
 .show _<=v' (o+9)/\v' (o+9)<=_;rw[e 9 I I I I I];exact ao.dF
 show 0<v' (o+5)↔v' (o+8)=0;rw[e 5 I I I I I,e 8 I I I I I];exact ao.up
def PU(p v bt av kI iA:U)(h:bt<=av):bt<=(fI p v bt av kI iA).1/\(fI p v bt av kI iA).1<=av:=by
 unfold fI;dsimp only;split
 .exact⟨kA _,h⟩
 split
 .exact⟨h,kA _⟩
 exact⟨I,I⟩
def Fv{c:U}{v:J->U}(h:Mid c f r v)(i:J)(av:i<2)(fr:U)(xs:ai aE):Mid c f r (kS i fr (v,xs)).1:=by
 refine DV;show Mid c f r (ru (4+i*10) v);generalize 4+i*10=o at *;have cm:=PU (v o) (v (o+2)) (-3932160) 3932160 1 2 I;have cB:=(w6 (v o) (v (o+2)) (-3932160) 3932160 1 2 ao.bE eN eN).2;have a:=PU (v (o+1)) (v (o+3)) (-3932160) 3932160 4 8 I;have b:=(w6 (v (o+1)) (v (o+3)) (-3932160) 3932160 4 8 ao.gV eN eN).2;unfold ru;change _<=(jT o v).1/\(jT o v).1<=_ at cm;change aZ (jT o v).2.1 at cB;change _<=(jU o v).1/\(jU o v).1<=_ at a;change aZ (jU o v).2.1 at b;generalize jT o v=X at *;generalize jU o v=Y at *;refine h.rC ar (λj d=>by rw[c0 _ _ _ _ I,c0 _ _ _ _ I,c0 _ _ _ _ I,c0 _ _ _ _ I]) ?_;constructor<;>simp only[n1,aiu]
 .exact cm
 .exact a
 .exact cB
 .exact b
 .exact ao.e'
 .exact ao.ao
 .exact ao.co
 .exact ao.fA
 .exact ao.e5
 .exact ao.dF
 exact ao.up
def acP{c:U}{v:J->U}(h:Mid c f r v)(i:J)(av:i<2)(hd:0<v (4+i*10+8))(fr:U)(xs:ai aE):Mid c f r (qj i fr (v,xs)).1:=by
 refine DV;unfold qj;generalize 4+i*10=o at *;dsimp only;have t:4<=o/\o+10<=24:=by unfold ea at ar;omega
 have p:=ao.e5;have u:=ao.up;split
 .rename_i h1;refine h.rC ar (λj s=>c0 _ _ _ _ I) ?_;constructor<;>simp only[n1]
  .exact ao.x
  .exact ao.y
  .exact ao.bE
  .exact ao.gV
  .exact ao.e'
  .exact ao.ao
  .exact ao.co
  .exact ao.fA
  .show 0<=v (o+8)-1/\v (o+8)-1<=30;omega
  .exact ao.dF
  show 0<v (o+5)↔v (o+8)-1=0;omega
 show Mid c f r (cI o 10 (lZ (lj (l0 v)) (nH (l0 v)) 0 (v (o+9))) (bn (bn v (o+8) (v (o+8)-1)) 1 (gJ (v 1))));have ak:-3932160<=lj (l0 v)/\lj (l0 v)<=3932160:=by unfold lj;split<;>omega
 have a8:-3932160<=nH (l0 v)/\nH (l0 v)<=3932160:=by unfold nH;split<;>omega
 have aw:0<=gJ (v 1)/\gJ (v 1)<=4294967295:=by unfold gJ;omega
 have l:∀ j,j≠1->j≠o+8->bn (bn v (o+8) (v (o+8)-1)) 1 (gJ (v 1)) j=v j:=λj h1 h2=>by rw[c0 _ _ _ _ h1,c0 _ _ _ _ h2]
 have m:bn (bn v (o+8) (v (o+8)-1)) 1 (gJ (v 1)) 1=gJ (v 1):=pV _ _ _;generalize bn (bn v (o+8) (v (o+8)-1)) 1 (gJ (v 1))=v1 at *;generalize lj (l0 v)=X at *;generalize nH (l0 v)=Y at *;have al:∀ j,j≠1->(j<o\/o+10<=j)->cI o 10 (lZ X Y 0 (v (o+9))) v1 j=v j:=λj h1 h2=>by rw[iI _ _ _ _ _ h2,l j h1 I]
 refine⟨λb d=>?_,λk hk=>(h.pN k hk).congr λq g=>al _ I I,?_,?_,?_,?_⟩
 .by_cases e:b=o
  .subst e;have a:∀ q,q<10->cI b 10 (lZ X Y 0 (v (b+9))) v1 (b+q)=lZ X Y 0 (v (b+9)) q:=λq g=>pJ _ _ _ _ _ g;constructor
   .rw[a 0 I];exact ak
   .rw[a 1 I];exact a8
   .rw[a 2 I];show aZ 0;unfold aZ;omega
   .rw[a 3 I];show aZ 0;unfold aZ;omega
   .rw[a 4 I];show(0:U)<=0/\(0:U)<=65535;omega
   .rw[a 5 I];show(0:U)<=3/\(3:U)<=3;omega
   .rw[a 6 I];show(0:U)<=0/\(0:U)<=8;omega
   .rw[a 7 I];show(0:U)<=0/\(0:U)<=20;omega
   .rw[a 8 I];show(0:U)<=0/\(0:U)<=30;omega
   .rw[a 9 I];exact ao.dF
   rw[a 5 I,a 8 I];show(0:U)<3↔(0:U)=0;omega
  exact(h.pl b d).congr λq g=>al _ (by unfold ea at d;omega) (by unfold ea at ar d;omega)
 .rw[al 0 I I];exact h.f0
 .rw[iI _ _ _ _ _ I,m];exact aw
 .rw[al 2 I I];exact h.f2
 rw[al 3 I I];exact h.f3
def Pd(a:U):-65536<=kV a/\kV a<=65536:=by
 unfold kV;dsimp only;have ak:0<=a%65536%32768/\a%65536%32768<32768:=I;generalize a%65536%32768=x at *;have ao:=Gt ak.1 ak.2;generalize x*(32768-x)=p at *;have hd:(0:U)<5368709120-4*p:=I;have h1:(p*1048576).tdiv (5368709120-4*p)<=65536:=by
  rw[QB I]
  have:=Int.ediv_le_ediv hd (show p*1048576<=65536*(5368709120-4*p)by omega)
  rwa [Int.mul_ediv_cancel _ I]at this
 have h2:0<=(p*1048576).tdiv (5368709120-4*p):=Int.tdiv_nonneg I I;generalize (p*1048576).tdiv (5368709120-4*p)=n at *;unfold nO gU;split<;>omega
def aba(f:U):(-262144<=gH f 262144/\gH f 262144<=262144)/\(-262144<=gI f 262144/\gI f 262144<=262144):=by
 have h1:=Pd f;have h2:=Pd (f%65536+16384);unfold gH gI sG dE gU;omega
theorem LO(v:J->U):∀ n k j,re v k n=some j->k<=j/\j<k+n
 | 0,_,_,h=>by cases h
 | n+1,k,j,h=>by
  unfold re at h;split at h
  .cases h;omega
  have:=LO v n (k+1) j h;omega
def acR{c:U}{v:J->U}(h:Mid c f r v)(i:J)(av:i<2)(fr:U)(xs:ai aE):Mid c f r (ov i fr (v,xs)).1:=by
 refine DV;unfold ov;generalize 4+i*10=o at *;dsimp only;split
 .exact h
 split
 .exact h
 rename_i k hk;have e:=LO _ _ _ _ hk;have ak:=ao.x;have a8:=ao.y;have aT:=aba (v (o+4));have s1:-4194304<=cY (v o) (gH (v (o+4)) 262144)/\cY (v o) (gH (v (o+4)) 262144)<=4194304:=by
  change _<=v o/\v o<=_ at ak;unfold cY gU;omega
 have s2:-4194304<=cY (v (o+1)) (gI (v (o+4)) 262144)/\cY (v (o+1)) (gI (v (o+4)) 262144)<=4194304:=by
  unfold cY gU;omega
 have fF:=jx (sG (v (o+4))) 196608;have d:=jx (kV (v (o+4))) 196608;change aZ (gH (v (o+4)) 196608)at fF;change aZ (gI (v (o+4)) 196608)at d;generalize cY (v o) (gH (v (o+4)) 262144)=X at *;generalize cY (v (o+1)) (gI (v (o+4)) 262144)=Y at *;generalize gH (v (o+4)) 196608=W at *;generalize gI (v (o+4)) 196608=Z at *
 have h1:Mid c f r (cI (24+k*6) 6 (pO X Y W Z (i+1) 40) v):=h.BX (k:=k) I (λj b=>iI _ _ _ _ _ b) (.inr (by
  simp only[pJ _ _ _ _ 0 (show 0<6 by omega),pJ _ _ _ _ 1 (show 1<6 by omega),pJ _ _ _ _ 2 (show 2<6 by omega),pJ _ _ _ _ 3 (show 3<6 by omega),pJ _ _ _ _ 4 (show 4<6 by omega),pJ _ _ _ _ 5 (show 5<6 by omega)];refine⟨s1,s2,fF,d,?_,?_⟩
  .show 1<=(i:U)+1/\(i:U)+1<=2;omega
  .show(1:U)<=40/\(40:U)<=40;omega))
 have a:=h1.pl _ ar;generalize cI (24+k*6) 6 (pO X Y W Z (i+1) 40) v=v1 at *;refine h1.rC ar (λj b=>c0 _ _ _ _ I) ?_;constructor<;>simp only[n1]
 .exact a.x
 .exact a.y
 .exact a.bE
 .exact a.gV
 .exact a.e'
 .exact a.ao
 .show(0:U)<=8/\(8:U)<=8;omega
 .exact a.fA
 .exact a.e5
 .exact a.dF
 exact a.up
def wE{c:U}{v:J->U}(h:Mid c f r v)(i:J)(av:i<2)(cc fr:U)(xs:ai aE):Mid c f r (fw i cc fr (v,xs)).1:=by
 unfold fw;split
 .exact acP h i av ‹_› fr xs
 split
 .exact acR (Fv (Fw h i av cc fr xs) i av fr _) i av fr _
 exact Fv (Fw h i av cc fr xs) i av fr _
def Fu{c:U}{v:J->U}(h:Mid c f r v)(fr:U)(xs:ai aE):Mid c f r (jO fr (v,xs)).1:=by
 unfold jO;split
 .exact h
 have a:=h.pl 4 (.inl rfl);have b:=h.pl 14 (.inr rfl);show Mid c f r (bn (bn (bn (bn v 6 (v 16)) 7 (v 17)) 16 (v 6)) 17 (v 7));have h1:Mid c f r (bn (bn v 6 (v 16)) 7 (v 17)):=h.rC (.inl rfl) (λj d=>HV) ⟨a.x,a.y,b.bE,b.gV,a.e',a.ao,a.co,a.fA,a.e5,a.dF,a.up⟩;exact h1.rC (.inr rfl) (λj d=>HV) ⟨b.x,b.y,a.bE,a.gV,b.e',b.ao,b.co,b.fA,b.e5,b.dF,b.up⟩
def acT{c:U}{v:J->U}(h:Mid c f r v)(i:J)(av:i<2)(hd:v (4+i*10+8)=0)(fr:U)(xs:ai aE):Mid (c+1) f r (j' i fr (v,xs)).1:=by
 have ar:=kR i av;have b:=kR (1-i) I;have ao:=h.pl _ ar;have l:=ao.up;have g:=ao.ao;unfold j';generalize 4+i*10=o at *;generalize 4+(1-i)*10=e at *;dsimp only;split
 .refine(h.rC ar (λj d=>c0 _ _ _ _ I) ?_).mono I;constructor<;>simp only[n1]
  .exact ao.x
  .exact ao.y
  .exact ao.bE
  .exact ao.gV
  .exact ao.e'
  .show 0<=v (o+5)-1/\v (o+5)-1<=3;omega
  .exact ao.co
  .exact ao.fA
  .exact ao.e5
  .exact ao.dF
  show 0<v (o+5)-1↔v (o+8)=0;omega
 have h1:Mid c f r (bn (bn v (o+5) (v (o+5)-1)) (o+8) 30):=by
  refine h.rC ar (λj d=>HV) ?_;constructor<;>simp only[n1]
  .exact ao.x
  .exact ao.y
  .exact ao.bE
  .exact ao.gV
  .exact ao.e'
  .show 0<=v (o+5)-1/\v (o+5)-1<=3;omega
  .exact ao.co
  .exact ao.fA
  .show(0:U)<=30/\(30:U)<=30;omega
  .exact ao.dF
  show 0<v (o+5)-1↔(30:U)=0;omega
 generalize bn (bn v (o+5) (v (o+5)-1)) (o+8) 30=v1 at *;have a:=h1.pl _ b;have k:=(h.pl _ b).dF;refine(h1.mono (show c<=c+1 by omega)).rC b (λj d=>c0 _ _ _ _ I) ?_;constructor<;>simp only[n1]
 .exact a.x
 .exact a.y
 .exact a.bE
 .exact a.gV
 .exact a.e'
 .exact a.ao
 .exact a.co
 .exact a.fA
 .exact a.e5
 .show 0<=v (e+9)+1/\v (e+9)+1<=c+1;omega
 exact a.up
def wk(u:J)(v:J->U):fp u v u=cY (v u) (v (u+2))/\fp u v (u+1)=cY (v (u+1)) (v (u+3))/\fp u v (u+5)=v (u+5)-1/\∀ j,j≠u->j≠u+1->j≠u+5->fp u v j=v j:=by
 unfold fp;refine⟨by rw[c0 _ _ _ _ I,pV],pV _ _ _,by rw[c0 _ _ _ _ I,c0 _ _ _ _ I,pV],λj h1 h2 a=>by rw[c0 _ _ _ _ h2,c0 _ _ _ _ h1,c0 _ _ _ _ a]⟩
def acS{c:U}{v:J->U}(h:Mid c f r v)(k:J)(hk:k<6)(aw:v (24+k*6+4)≠0)(fr:U)(xs:ai aE):((ll k fr (v,xs)).1=true->Mid c f r (ll k fr (v,xs)).2.1)/\Mid (c+1) f r (cI (24+k*6) 6 (λ_=>0) (ll k fr (v,xs)).2.1):=by
 have g:(-4194304<=v (24+k*6+0)/\v (24+k*6+0)<=4194304)/\(-4194304<=v (24+k*6+1)/\v (24+k*6+1)<=4194304)/\aZ (v (24+k*6+2))/\aZ (v (24+k*6+3))/\(1<=v (24+k*6+4)/\v (24+k*6+4)<=2)/\(1<=v (24+k*6+5)/\v (24+k*6+5)<=40):=(h.pN k hk).resolve_left λm=>aw (m 4 I)
 have d:∀ v':J->U,(∀ j,j<24+k*6\/24+k*6+6<=j->v' j=v j)->Mid (c+1) f r (cI (24+k*6) 6 (λ_=>0) v'):=λv' o=>
  (h.mono I).BX hk (λj a=>by rw[iI _ _ _ _ _ a,o j a]) (.inl λq e=>pJ _ _ _ _ q e)
 unfold ll;generalize hu:24+k*6=u at *;dsimp only;have a7:=wk u v;split
 .exact⟨(λh=>Bool.noConfusion h),d _ (λj a=>c0 _ _ _ _ I)⟩
 rename_i h1;split
 .exact⟨(λh=>Bool.noConfusion h),d _ (λj a=>a7.2.2.2 j I I I)⟩
 rename_i h2;have b:gm (-4194304) (-4194304) 4194304 4194304 (fp u v u) (fp u v (u+1))=true:=by simpa using h2
 simp only[gm,e9,hf]at b;have p:=a7.2.2.2 (u+3) I I I;have s:=a7.2.2.2 (u+4) I I I;have n:=a7.2.2.1;have l:Mid c f r (fp u v):=by
  refine h.BX hk (by rw[hu];exact λj a=>a7.2.2.2 j I I I) (.inr ?_);rw[hu];show(_<=fp u v u/\fp u v u<=_)/\(_<=fp u v (u+1)/\fp u v (u+1)<=_)/\aZ (fp u v (u+2))/\aZ (fp u v (u+3))/\(1<=fp u v (u+4)/\fp u v (u+4)<=2)/\1<=fp u v (u+5)/\fp u v (u+5)<=40;rw[(a7.2.2.2 (u+2) I I I),p,s,n];refine⟨⟨b.1.1.1,b.1.1.2⟩,⟨b.1.2,b.2⟩,g.2.2.1,g.2.2.2.1,g.2.2.2.2.1,I⟩
 split
 .rename_i i;refine⟨(λh=>Bool.noConfusion h),?_⟩;have t:(2-v (u+4)).toNat<2:=I;have hd:fp u v (4+(2-v (u+4)).toNat*10+8)=0:=by
   simp only[Bd,e9,hf]at i;exact i.1
  exact(acT l (2-v (u+4)).toNat t hd fr xs).BX hk (by rw[hu];exact λj a=>iI _ _ _ _ _ a) (.inl (by rw[hu];exact λq e=>pJ _ _ _ _ q e))
 refine⟨λ_=>l,d _ (λj a=>a7.2.2.2 j I I I)⟩
def acU{c:U}{v:J->U}(h:Mid c f r v)(k:J)(hk:k<6)(fr:U)(xs:ai aE):Mid (c+1) f r (nt k fr (v,xs)).1:=by
 unfold nt;split
 .exact h.mono I
 have a:=acS h k hk ‹_› fr xs;split
 .exact(a.1 ‹_›).mono I
 exact a.2
theorem Bq{c f r:U}{s:(J->U)×ai aE}(h:Mid c f r s.1)(fr:U):∀ k:J,k<=6->Mid (c+k) f r (hM fr s k).1
 | 0,_=>by show Mid (c+0) f r s.1;rwa [Int.add_zero]
 | k+1,hk=>by
  rw[show c+((k+1:J):U)=c+k+1 by omega];exact(acU (Bq h fr k I) k I fr (hM fr s k).2)
def LS(c:U)(an:0<=c)(o:J)(ar:ea o):pd c (λq=>mm (o-4+q)):=by
 rcases ar with rfl|rfl
 all_goals
  constructor
  all_goals first|(show aZ 0;unfold aZ;omega)|(refine⟨bs,?_⟩;first|exact an|decide)|(exact⟨λ_=>bs,λ_=>bs⟩)|decide
def Ni{c:U}{v:J->U}(h:Mid c f r v)(fr:U)(xs:ai aE):∃ r',Mid 2 f r' (kc fr (v,xs)).1/\r<=r'/\r'<=r+1:=by
 unfold kc;split
 .rename_i ar;simp only[pF,e9,hf]at ar;have g:=h.f3;show ∃ r',Mid 2 f r' (bn v 3 (v 3-1))/\r<=r'/\r'<=r+1;refine⟨r,⟨λo ao=>?_,λk hk=>(h.pN k hk).congr λq a=>c0 _ _ _ _ I,?_,?_,?_,?_⟩,I,I⟩
  .have h1:=h.pl o ao;have i:v (o+9)<3:=by rcases ao with rfl|rfl;exact ar.2.1;exact ar.2.2
   have b:pd 2 (λq=>v (o+q)):={h1 with dF:=⟨h1.dF.1,by show v (o+9)<=2;omega⟩};exact b.congr λq a=>c0 _ _ _ _ CV
  .rw[c0 _ _ _ _ I];exact h.f0
  .rw[c0 _ _ _ _ I];exact h.f1
  .rw[c0 _ _ _ _ I];exact h.f2
  rw[pV];omega
 show ∃ r',Mid 2 f r' (cI 24 36 (λ_=>0) (cI 4 20 mm (bn (bn (bn v 3 (v 3-1)) 2 (v 2+1)) 3 600)))/\r<=r'/\r'<=r+1;have e:∀ j,j<4->cI 24 36 (λ_=>0) (cI 4 20 mm (bn (bn (bn v 3 (v 3-1)) 2 (v 2+1)) 3 600)) j=bn (bn (bn v 3 (v 3-1)) 2 (v 2+1)) 3 600 j:=λj l=>by rw[iI _ _ _ _ _ I,iI _ _ _ _ _ I]
 have d:bn (bn (bn v 3 (v 3-1)) 2 (v 2+1)) 3 600 2=v 2+1:=by rw[c0 _ _ _ _ I,pV]
 refine⟨r+1,⟨λo ao=>?_,λk hk=>.inl λq a=>?_,?_,?_,?_,?_⟩,I,I⟩
 .refine(LS 2 I o ao).congr λq a=>?_;rw[iI _ _ _ _ _ CV,show o+q=4+(o-4+q)by unfold ea at ao;omega,pJ _ _ _ _ _ CV]
 .show cI 24 36 (λ_=>0) (cI 4 20 mm (bn (bn (bn v 3 (v 3-1)) 2 (v 2+1)) 3 600)) (24+k*6+q)=0;rw[show 24+k*6+q=24+(k*6+q)by omega,pJ _ _ _ _ _ I]
 .rw[e 0 I,c0 _ _ _ _ I,c0 _ _ _ _ I,c0 _ _ _ _ I];exact h.f0
 .rw[e 1 I,c0 _ _ _ _ I,c0 _ _ _ _ I,c0 _ _ _ _ I];exact h.f1
 .rw[e 2 I,d,h.f2]
 rw[e 3 I,pV];omega
def Nj{v:J->U}(h:Mid 2 f r v)(g:0<=f/\f<=1073741824)(m:0<=r/\r<=1073741824):mE v=true:=by
 have i:∀ o,ea o->oI v o=true:=λo ar=>by
  have p:=h.pl o ar;have ak:=p.x;have a8:=p.y;have g:=p.e';have aT:=p.ao;have an:=p.co;have s:=p.fA;have hd:=p.e5;have aA:=p.dF;have n:=p.up;rw[show o+0=o from rfl]at ak;have k:(decide (v (o+5)>0) == decide (v (o+8)=0))=true:=by
   rw[iY,decide_eq_decide];exact n
  unfold oI ue gm h9;rw[k];simp only[e9,hf];exact⟨g,aT,an,s,hd,aA,⟨⟨⟨ak.1,ak.2⟩,a8.1⟩,a8.2⟩,trivial⟩
 have ax:∀ j,j<6->qD v j=true:=λj l=>by
  unfold qD;rw[show 24+6*j=24+j*6+0 by omega,show 25+6*j=24+j*6+1 by omega,show 26+6*j=24+j*6+2 by omega,show 27+6*j=24+j*6+3 by omega,show 28+6*j=24+j*6+4 by omega,show 29+6*j=24+j*6+5 by omega];unfold wX;rcases h.pN j l with c|⟨a,b,_,_,d,e⟩
  .replace c:∀ q,q<6->v (24+j*6+q)=0:=c;rw[c 0 I,c 1 I,c 2 I,c 3 I,c 4 I,c 5 I];rfl
  rw[w_];right;simp only[h9,gm,e9,hf];exact⟨d,e,⟨⟨⟨a.1,a.2⟩,b.1⟩,b.2⟩⟩
 unfold mE;rw[i 4 (.inl rfl),i 14 (.inr rfl)];simp only[qF,ax 0 I,ax 1 I,ax 2 I,ax 3 I,ax 4 I,ax 5 I,h9,e9,hf,r_];rw[h.f0,h.f2];exact⟨g,m,h.f3⟩
def mid_step{v:J->U}(h:Mid 2 f r v)(a b:U):∃ r',Mid 2 (f+1) r' (jB a b v)/\r<=r'/\r'<=r+1:=by
 have e:Mid 2 f r (fw 1 b (v 0) (fw 0 a (v 0) (v,[]))).1:=wE (wE h 0 I a (v 0) []) 1 I b (v 0) _;have g:Mid 2 f r (jO (v 0) (fw 1 b (v 0) (fw 0 a (v 0) (v,[])))).1:=Fu e (v 0) _;have⟨r',c,h1,h2⟩:=Ni (Bq g (v 0) 6 bu) (v 0) (hM (v 0) (jO (v 0) (fw 1 b (v 0) (fw 0 a (v 0) (v,[])))) 6).2;unfold jB;refine⟨r',⟨λo ao=>(c.pl o ao).congr λq d=>c0 _ _ _ _ CV,λk hk=>(c.pN k hk).congr λq d=>c0 _ _ _ _ I,?_,?_,?_,?_⟩,h1,h2⟩
 .rw[pV,h.f0]
 .rw[c0 _ _ _ _ I];exact c.f1
 .rw[c0 _ _ _ _ I];exact c.f2
 rw[c0 _ _ _ _ I];exact c.f3
def Mid.lim{c:U}{v:J->U}(h:Mid c f r v)(H:0<=f/\f<=1073741824)(L:0<=r/\r<=1073741824):eO c 0 0 v:=λj K=>by
 have A:(if j=0 then(0:U)else 0)=0:=by split<;>rfl
 rw[A];have w:∀ o,ea o->∀ q,q<10->lS 0 (o+q)<=v (o+q)/\v (o+q)<=kQ c 0 (o+q):=λo ar q a=>by
  have p:=h.pl o ar;have l:=p.x;have m:=p.y;have d:=p.bE;have e:=p.gV;have n:=p.e';have s:=p.ao;have C:=p.co;have D:=p.fA;have E:=p.e5;have z:=p.dF;rw[(lR ar c 0 q a).1,(lR ar c 0 q a).2]
  match q,a with
  | 0,_=>show -2147483648<=v (o+0)/\v (o+0)<=2147483647;omega
  | 1,_=>show -2147483648<=v (o+1)/\v (o+1)<=2147483647;omega
  | 2,_=>exact d
  | 3,_=>exact e
  | 4,_=>show -0<=v (o+4)/\v (o+4)<=65535+0;omega
  | 5,_=>show -100<=v (o+5)/\v (o+5)<=1000;omega
  | 6,_=>show 0<=v (o+6)/\v (o+6)<=1000;omega
  | 7,_=>show 0<=v (o+7)/\v (o+7)<=1000;omega
  | 8,_=>show 0<=v (o+8)/\v (o+8)<=1000;omega
  | 9,_=>exact z
 by_cases b:j<4
 .have k:=h.f0;have h1:=h.f1;have h2:=h.f2;have G:=h.f3;have g:lS 0 j=0:=aD b;have i:kQ c 0 j=4294967295:=by
   unfold kQ;by_cases h:j=1
   .exact aD h
   rw[az h];exact aD b
  rw[g,i]
  match j,b with
  | 0,_=>omega
  | 1,_=>omega
  | 2,_=>omega
  | 3,_=>omega
 by_cases F:j<14
 .have:=w 4 (.inl rfl) (j-4) I
  rwa [show 4+(j-4)=j by omega]at this
 by_cases t:j<24
 .have:=w 14 (.inr rfl) (j-14) I
  rwa [show 14+(j-14)=j by omega]at this
 have aA:=h.pN ((j-24) / 6) I;have a:(j-24)%6<6:=gb _ bs;have B:24+(j-24) / 6*6+(j-24)%6=j:=by have:=r5 (j-24) 6;omega
 have al:(-2147483648<=v j/\v j<=2147483647)/\((j-24)%6<4\/(0<=v j/\v j<=1000)):=by
  generalize (j-24)%6=q at *;generalize 24+(j-24) / 6*6=u at *;subst B;rcases aA with k|⟨l,m,d,e,n,s⟩
  .replace k:v (u+q)=0:=k q a;omega
  unfold aZ at d e
  match q,a with
  | 0,_=>change _<=v (u+0)/\v (u+0)<=_ at l;omega
  | 1,_=>change _<=v (u+1)/\v (u+1)<=_ at m;omega
  | 2,_=>change _<=v (u+2)/\v (u+2)<=_ at d;omega
  | 3,_=>change _<=v (u+3)/\v (u+3)<=_ at e;omega
  | 4,_=>change _<=v (u+4)/\v (u+4)<=_ at n;omega
  | 5,_=>change _<=v (u+5)/\v (u+5)<=_ at s;omega
 have g:lS 0 j=if (j-24)%6<4 then -2147483648 else 0:=by unfold lS;rw[az b,az t]
 have i:kQ c 0 j=if (j-24)%6<4 then 2147483647 else 1000:=by unfold kQ;rw[az I,az b,az t]
 rw[g,i];split<;>omega
def acQ(aN:U)(aA:0<=aN/\aN<=4294967295):Mid 2 0 0 (ki aN 0):=by
 refine⟨λo ar=>(LS 2 I o ar).congr λq a=>?_,λk hk=>.inl λq a=>?_,rfl,aA,rfl,by show(1:U)<=600-((0:J):U)/\(600:U)-((0:J):U)<=600;omega⟩
 .rcases ar with rfl|rfl
  all_goals
   match q,a with
   | 0,_=>rfl
   | 1,_=>rfl
   | 2,_=>rfl
   | 3,_=>rfl
   | 4,_=>rfl
   | 5,_=>rfl
   | 6,_=>rfl
   | 7,_=>rfl
   | 8,_=>rfl
   | 9,_=>rfl
 show ki aN 0 (24+k*6+q)=0;unfold ki;rw[az I,az I,az I,az I,az I,az I,az I,az I]
def agN(v:J->U)(bj o n:J)(c:a6 ay)(f:J->U)(an:c.size=n)(ar:o+n<=60)(a:∀ q,q<n->c[q]?=some (.int (dw (o+q)) (f q))):fz (h' v bj) o c=h' (cI o n f v) bj:=by
 refine vt;rw[s5 _ _ _ (by rw[BW,an];omega),an];by_cases hk:k<60
 .rw[BV (cI o n f v) bj k hk];unfold cI;by_cases h:o<=k/\k<o+n
  .rw[aD h,aD h,a _ I,show o+(k-o)=k by omega]
  rw[az h,az h,BV v bj k hk]
 rw[az I];by_cases h:k=60
 .subst h;rw[h',h',qM,qM,aD (dX _).symm,aD (dX _).symm]
 rw[l4 (by rw[BW];omega),l4 (by rw[BW];omega)]
def fl.row(h:fl w bt g bj v fr xs)(T:TypeId)(o n:J)(c:a6 ay)(f:J->U)(i:∀ w,(Go.sizeOf T).run prog w=.ok n w)(an:c.size=n)(ar:o+n<=60)(a:∀ q,q<n->c[q]?=some (.int (dw (o+q)) (f q))):(Instr.storeAt T (.pointer (dk g o)) (.agg c)).run prog w=.ok () (w.setRow g (h' (cI o n f v) bj))/\fl (w.setRow g (h' (cI o n f v) bj)) bt g bj (cI o n f v) fr xs/\ag (λj=>j=g) w (w.setRow g (h' (cI o n f v) bj)):=by
 have h1:=rK (P:=prog) T n g o c _ _ i an h.bh (by rw[BW];omega) (λx ak=>by
  refine Sf;rfl)
 rw[agN v bj o n c f an ar a]at h1;have hk:=jw w g (h' (cI o n f v) bj);have⟨cz,ao,aw⟩:=h.yJ;exact⟨h1,⟨fb _ _ _ _ _ h.bh,⟨cz,ao.keep hk (h4 h.ne) (λj d e=>aw (by rw[d,e])),aw⟩,h.ne,h.rn,h.wD⟩,hk⟩
def eO.row{c e:U}{k:J}(h:eO c k e v)(o n:J)(f:J->U)(b:∀ q,q<n->lS (if o+q=k then e else 0) (o+q)<=f q/\f q<=kQ c (if o+q=k then e else 0) (o+q)):eO c k e (cI o n f v):=λj d=>by
 unfold cI;by_cases h1:o<=j/\j<o+n
 .have a:(if o<=j/\j<o+n then f (j-o)else v j)=f (j-o):=aD h1;rw[a]
  have:=b (j-o) I
  rwa [show o+(j-o)=j by omega]at this
 have a:(if o<=j/\j<o+n then f (j-o)else v j)=v j:=az h1;rw[a];exact h j d
def yN(x y f dF:U):a6 ay:=#[af x,af y,af 0,af 0,aa f,aa 3,aa 0,aa 0,aa 0,aa dF]
def Bx(x y f dF:U){o:J}(ar:ea o):∀ q,q<10->(yN x y f dF)[q]?=some (.int (dw (o+q)) (lZ x y f dF q)):=λq a=>by
 rw[py ar q a]
 match q,a with
 | 0,_=>rfl
 | 1,_=>rfl
 | 2,_=>rfl
 | 3,_=>rfl
 | 4,_=>rfl
 | 5,_=>rfl
 | 6,_=>rfl
 | 7,_=>rfl
 | 8,_=>rfl
 | 9,_=>rfl
def eO.yM{c:U}{k:J}(h:eO c k 0 v){o:J}(ar:ea o)(x y f dF:U)(ak:aZ x)(a8:aZ y)(g:0<=f/\f<=65535)(aA:0<=dF/\dF<=c):eO c k 0 (cI o 10 (lZ x y f dF) v):=h.row o 10 _ λq a=>by
 have d:=ak.2;have e:=a8.2;have b:(if o+q=k then(0:U)else 0)=0:=by split<;>rfl
 rw[b,(lR ar c 0 q a).1,(lR ar c 0 q a).2]
 match q,a with
 | 0,_=>exact⟨ak.1,d⟩
 | 1,_=>exact⟨a8.1,e⟩
 | 2,_=>show(-2147483648:U)<=0/\(0:U)<=2147483647;decide
 | 3,_=>show(-2147483648:U)<=0/\(0:U)<=2147483647;decide
 | 4,_=>exact⟨by show -0<=f;omega,by show f<=65535+0;omega⟩
 | 5,_=>show(-100:U)<=3/\(3:U)<=1000;decide
 | 6,_=>show(0:U)<=0/\(0:U)<=1000;decide
 | 7,_=>show(0:U)<=0/\(0:U)<=1000;decide
 | 8,_=>show(0:U)<=0/\(0:U)<=1000;decide
 | 9,_=>exact aA
theorem cP.row{c:U}{bE:aj}(h:cP w bt g bj fr c 0 0 v xs bE)(T:TypeId)(o n:J)(gx:a6 ay)(f:J->U)(i:∀ w,(Go.sizeOf T).run prog w=.ok n w)(an:gx.size=n)(ar:o+n<=60)(d:∀ q,q<n->gx[q]?=some (.int (dw (o+q)) (f q)))(b:eO c 0 0 (cI o n f v)):(Instr.storeAt T (.pointer (dk g o)) (.agg gx)).run prog bE=.ok () (bE.setRow g (h' (cI o n f v) bj))/\cP w bt g bj fr c 0 0 (cI o n f v) xs (bE.setRow g (h' (cI o n f v) bj)):=by
 have⟨h1,h2,a⟩:=h.st.row T o n gx f i an ar d;exact⟨h1,h2,h.bF.trans (a.mono λj _ e=>by rw[e];exact h.st.rn),b⟩
def agP{c:U}{bE:aj}(h:cP w bt g bj fr c 0 0 v xs bE)(i:J)(av:i<2)(hd:0<v (4+i*10+8)):aB 346 #[g,aa i] bE λe w'=>e=aV #[]/\cP w bt g bj fr c 0 0 (qj i fr (v,xs)).1 (qj i fr (v,xs)).2 w':=by
 have ar:=kR i av;have se:=h.hl ar 8 I;have T:=h.st.free (4+i*10+8);have yv:0<=v (4+i*10+8)/\v (4+i*10+8)<=1000:=h.lim.num ar 8 I;have S:=h.lim.num ar 9 I;have f:=ad (h.s9 ar 8 I (v (4+i*10+8)-1) H0);unfold qj;by_cases al:1<v (4+i*10+8)
 .simp only[aD al];have u:0<v (4+i*10+8)-1:=I
  go_in
  go_wp2;exact Iq
 simp only[az al];have u:¬ 0<v (4+i*10+8)-1:=I;have fo:bn v (4+i*10+8) (v (4+i*10+8)-1) 1=v 1:=az I;have mv:bn v (4+i*10+8) (v (4+i*10+8)-1) (4+i*10+9)=v (4+i*10+9):=az I;have y:=ad (YR (v 1));have aw:0<=gJ (v 1)/\gJ (v 1)<=4294967295:=by unfold gJ;omega
 unfold l0;generalize C:bn v (4+i*10+8) (v (4+i*10+8)-1)=v1 at *;refine dU;generalize gJ (v 1)=N at *;have z:N / 65536*4 / 65536=0\/N / 65536*4 / 65536=1\/N / 65536*4 / 65536=2\/N / 65536*4 / 65536=3:=I;generalize N / 65536*4 / 65536=K at *;have gf:(if (K%2 == 1)=true then 2621440 else -2621440)=lj K:=by rcases z with rfl|rfl|rfl|rfl<;>decide
 have hk:(if 2<=K then 2621440 else -2621440)=nH K:=rfl;have m:aZ (lj K):=by unfold lj aZ;split<;>omega
 have B:aZ (nH K):=by unfold nH aZ;split<;>omega
 generalize lj K=X at *;generalize nH K=Y at *;refine ob;refine p9;refine UR;have cm:aq.cell? (ah g 1)=some (bz (v 1)):=by rw[<-Q.o.1];exact ax.st.cell 1 I .u32 rfl
 refine aK;refine aS (y.o _) λaF E=>?_;have ax:=ax.keep (ag.bU E a1);have cm:=ax.st.cell 1 I .u32 rfl;have f1:=ax.st.free 1;have f:=ad (ax.eR 1 I .u32 rfl N aw);refine VX;have f:=ad ax;have L:=ad (aP br (ab #[af (-2621440),af (-2621440)] 91));have a:=ad ((b9 br br).alloc bu (ab #[af (-2621440),af (-2621440)] 91));go_upto_if 42 with fail
 generalize br.alloc (ab #[af (-2621440),af (-2621440)] 91)=l' at *;generalize M:br.heap.size=b6 at *;have l:=ad M;go_cut [] (λgV=>gV.heap[b6]?=some (ab #[af X,af (-2621440)] 91 (0,0))/\Below b6 br gV)
 case first=>
  have cp:=bV L.o;have z0:=aX L.o;have b:=ad (bX L.o 0 (af 2621440));have k:=ad (a.o.setCell (p:=ah b6 0) (dm b6) (af 2621440));by_cases ao:(K%2 == 1)=true
  .obtain rfl:(2621440:U)=X:=by rw[<-g'.o,aD ao]
   refine aK;go_meet;exact⟨b.o,k.o⟩
  obtain rfl:(-2621440:U)=X:=by rw[<-g'.o,az ao]
  refine aK;go_meet;exact⟨L.o,a.o⟩
 have⟨L,a⟩:=hcut;go_upto_if 45 with fail
 go_cut [] (λgV=>gV.heap[b6]?=some (ab #[af X,af Y] 91 (0,0))/\Below b6 br gV)
 case first=>
  have bS:=bV L;refine j1;have b:=ad (bX L 1 (af 2621440));have k:=ad (a.setCell (p:=ah b6 1) (dm b6) (af 2621440));have r:=ad L;have Q:=ad a;by_cases ao:2<=K
  .obtain rfl:(2621440:U)=Y:=by rw[<-lb.o,aD ao]
   refine aK;go_meet;exact⟨b.o,k.o⟩
  obtain rfl:(-2621440:U)=Y:=by rw[<-lb.o,az ao]
  refine aK;go_meet;exact⟨r.o,Q.o⟩
 have⟨L,a⟩:=hcut;have ax:=f.o.keep (ag.bU (show Below br br wc by rw[l.o];exact a) a1);have Z:=l.o;have a':=bZ f.o.st.bh;have mv:bn v1 1 N (4+i*10+9)=v (4+i*10+9):=by rw[<-Q.o.2];exact az I
 generalize R:bn v1 1 N=v2 at *;have t:=ad R;have V:aZ 0:=by unfold aZ;omega
 obtain⟨q,A⟩:=(ax.keep (ag.refl _ wc).drew).row 93 (4+i*10) 10 (yN X Y 0 (v (4+i*10+9))) _ sizeOf93 rfl I (Bx X Y 0 (v (4+i*10+9)) ar) (ax.lim.yM ar X Y 0 (v (4+i*10+9)) m B I S);obtain⟨G,j⟩:=gg (F:=λW=>(cP w bt g bj fr c 0 0 v2 xs W/\W.heap[b6]?=some (ab #[af X,af Y] 91 (0,0))));have h2:∀ x:bA G,x.to.cell? (ah g (4+i*10+9))=some (aa (v (4+i*10+9))):=λx=>by rw[<-mv];exact((j _).1 x.held).1.hl ar 9 I
 have cp:=λx:bA G=>aX (((j _).1 x.held).2);have n:=(j wc.drew).2 ⟨ax.keep (ag.refl _ wc).drew,(bd wc).drew.heap L id⟩;have d:=(jw wc.drew g (h' (cI (4+i*10) 10 (lZ X Y 0 (v (4+i*10+9))) v2) bj)).heap ((bd wc).drew.heap L id) (show b6≠g by omega);have s:=ad A;refine tC;unfold yN at q;generalize P:4+i*10=o at *;generalize World.setRow _ _ _=sd at *;refine Us;refine cJ (λW=>0<=W.heap.size) [8] 0 1 ?_;refine pE 8 (c3 _) (l3 rfl rfl rfl q) ?_;refine p';have ax:=s.o;have cx:=aX D.o;have H:=ad (rO ax.st (i+1) 6 6 16384 9 0 X m);refine Df;go_end0;subst P;rw[t.o];exact z'
theorem yh(v:J->U):∀ k,k<=6->(∀ j,j<k->v (24+j*6+4)≠0)->re v 0 6=re v k (6-k)
 | 0,_,_=>rfl
 | k+1,hk,h=>by
  rw[yh v k I (λj a=>h j I),show 6-k=(6-(k+1))+1 by omega];show(if v (24+k*6+4)=0 then some k else re v (k+1) (6-(k+1)))=_;rw[az (h k I)]
def t'(k:J)(hk:k<6)(q:J)(a:q<6):dw (24+k*6+q)=if q<4 then .i32 else .i64:=by
 unfold dw;rw[az I,az I,az I,show(24+k*6+q-24)%6=q by omega]
def qv(c d:U)(k:J)(hk:k<6)(q:J)(a:q<6):lS d (24+k*6+q)=(if q<4 then -2147483648 else 0)/\kQ c d (24+k*6+q)=(if q<4 then 2147483647 else 1000):=by
 have h2:(24+k*6+q-24)%6=q:=I;constructor
 .unfold lS;rw[az I,az I,h2]
 unfold kQ;rw[az I,az I,az I,h2]
def Gs(x y bE gV dZ b:U)(k:J)(hk:k<6):∀ q,q<6->(#[af x,af y,af bE,af gV,aa dZ,aa b]:a6 ay)[q]?=some (.int (dw (24+k*6+q)) (pO x y bE gV dZ b q)):=λq a=>by
 rw[t' k hk q a]
 match q,a with
 | 0,_=>rfl
 | 1,_=>rfl
 | 2,_=>rfl
 | 3,_=>rfl
 | 4,_=>rfl
 | 5,_=>rfl
def eO.ag_{c:U}(h:eO c 0 0 v)(k:J)(hk:k<6)(x y bE gV dZ b:U)(ak:aZ x)(a8:aZ y)(e:aZ bE)(f:aZ gV)(ar:0<=dZ/\dZ<=1000)(d:0<=b/\b<=1000):eO c 0 0 (cI (24+k*6) 6 (pO x y bE gV dZ b) v):=h.row _ 6 _ λq a=>by
 rw[az I,(qv c 0 k hk q a).1,(qv c 0 k hk q a).2]
 match q,a with
 | 0,_=>exact ak
 | 1,_=>exact a8
 | 2,_=>exact e
 | 3,_=>exact f
 | 4,_=>exact ar
 | 5,_=>exact d
def cP.cellS{c:U}{bE:aj}(h:cP w bt g bj fr c 0 0 v xs bE)(k:J)(hk:k<6)(q:J)(a:q<6):bE.cell? (ah g (24+k*6+q))=some (.int (if q<4 then .i32 else .i64) (v (24+k*6+q))):=h.st.cell _ I _ (t' k hk q a)
def aa'(f l:U):aZ (gH f l)/\aZ (gI f l):=⟨jx _ _,jx _ _⟩
def agR{c:U}{bE:aj}(h:cP w bt g bj fr c 0 0 v xs bE)(i:J)(av:i<2):aB 350 #[g,aa i] bE λe w'=>e=aV #[]/\cP w bt g bj fr c 0 0 (ov i fr (v,xs)).1 (ov i fr (v,xs)).2 w':=by
 have ar:=kR i av;have ib:=h.hl ar 6 I;have f:=ad h;by_cases an:0<v (4+i*10+6)
 .rw[show ov i fr (v,xs)=(v,xs)from aD an]
  go_in
  go_wp2;exact Iq
 obtain⟨R,a⟩:∃ R,ov i fr (v,xs)=R:=⟨_,rfl⟩;rw[a];rw[show ov i fr (v,xs)=_ from az an]at a;refine z6;go_loopg [17] 6 (λT z wr=>∃ k:J,T=6-k/\k<=6/\z=aa k/\(∀ j,j<k->v (24+j*6+4)≠0)/\cP w bt g bj fr c 0 0 v xs wr)
 case atStart=>exact⟨0,rfl,I,rfl,λj N=>absurd N (lD j),f.o⟩
 obtain⟨k,a7,hk,rfl,D,aU⟩:=hrel;by_cases B:k<6
 .have sd:=aU.cellS k B 4 I;by_cases Q:v (24+k*6+4)=0
  .have lb:re v 0 6=some k:=by
    rw[yh v k I D,show 6-k=(6-(k+1))+1 by omega];exact aD Q
   have a:=m.o;rw[lb]at a;dsimp only at a;have n:=ad a;obtain⟨G,s⟩:=gg (F:=λW=>cP w bt g bj fr c 0 0 v xs W);have bR:∀ x:bA G,x.to.cell? (ah g (4+i*10))=some (af (v (4+i*10))):=λx=>((s _).1 x.held).fZ ar 0 I;have bI:∀ x:bA G,x.to.cell? (ah g (4+i*10+1))=some (af (v (4+i*10+1))):=λx=>((s _).1 x.held).fZ ar 1 I;have v':∀ x:bA G,x.to.cell? (ah g (4+i*10+4))=some (aa (v (4+i*10+4))):=λx=>((s _).1 x.held).hl ar 4 I;have b:=(s _).2 (aU.keep (ag.refl _ _).drew);refine vh;have t:=aa' (v (4+i*10+4));have ds:=aU.lim.fix ar 0 I;have mv:=aU.lim.fix ar 1 I;have vl:=ad (A4 (v (4+i*10+4)) 262144 eN);have V:=ad (A4 (v (4+i*10+4)) 196608 eN);have d:=ad (wW (v (4+i*10)) (v (4+i*10+1)) (gH (v (4+i*10+4)) 262144) (gI (v (4+i*10+4)) 262144) ds mv (t _).1 (t _).2);have hd:=(t 196608).1;have g':=(t 196608).2;have fo:=mV (v (4+i*10)) (gH (v (4+i*10+4)) 262144);have gf:=mV (v (4+i*10+1)) (gI (v (4+i*10+4)) 262144);generalize cY (v (4+i*10)) (gH (v (4+i*10+4)) 262144)=X at *;generalize cY (v (4+i*10+1)) (gI (v (4+i*10+4)) 262144)=Y at *;generalize gH (v (4+i*10+4)) 196608=p at *;generalize gI (v (4+i*10+4)) 196608=q at *;refine aK;generalize vs:4+i*10=o at *;refine cS 25 ?_;refine cJ (G) (.range 24) 1 24 ?_;refine dN (b) [0,1,2,3,4,5,6,7,8,9,12,13,14,15,17,18,20,21,22] 5 ?_;refine xR;refine eK 10 λK E=>?_;refine Tf;refine eK 11 λK E=>?_;go_simp;refine DN;have P:=u.o _ _ Z r;refine E _ _ (P) ?_;refine eK 16 λK E=>?_;go_simp;refine aS (V.o _) λbr h2=>?_;have y:=u.o _ _ P h2;refine E _ _ (y) ?_;refine hG 19 y ?_;refine jh 23 λK E=>?_;go_simp;refine E _ _ (y) ?_;have ax:=l.o _ y;obtain⟨l',C⟩:=ax.row 96 (24+k*6) 6 #[af X,af Y,af p,af q,aa (i+1),aa 40] _ sizeOf96 rfl I (Gs X Y p q (i+1) 40 k B) (ax.lim.ag_ k B X Y p q (i+1) 40 fo gf hd g' I I);refine dU;generalize World.setRow _ _ _=ys at *;refine cJ (λW=>0<=W.heap.size) [24] 0 1 ?_;refine pE 24 (c3 _) (l3 rfl rfl rfl l') ?_;refine p';have ax:=m'.o;have s':o+10<=24:=by unfold ea at ar;omega
   have L:bn (cI (24+k*6) 6 (pO X Y p q (i+1) 40) v) (o+6) 8 o=v o:=by rw[c0 _ _ _ _ I,iI _ _ _ _ _ I]
   have ib:=ax.hl ar 6 I;have f6:=ax.st.free (o+6);have f:=ad (ax.s9 ar 6 I 8 (by show 0<=_/\_<=(1000:U);omega));go_upto_region 8 with fail
   have ax:=f.o;refine xE;generalize bn (cI (24+k*6) 6 (pO X Y p q (i+1) 40) v) (o+6) 8=v2 at *;have cx:a'.cell? (ah g o)=some (af (v o)):=by rw[<-L];exact ax.fZ ar 0 I
   have ds:=ax.lim.fix ar 0 I;rw[tj,L]at ds;have H:=ad (rO ax.st (i+1) 1 1 16384 5 0 (v o) ds);have se:(i:U)+1<=2:=I;refine Df;exact Ig
  have A:=ad aU;have S:=ad (show ∀ j,j<k+1->v (24+j*6+4)≠0 from λj N=>by
   by_cases e:j=k
   .subst e;exact Q
   .exact D j I)
  refine aK;go_roundg (6-(k+1))
  case rel=>exact⟨k+1,rfl,I,cT,S.o,A.o⟩
  omega
 obtain rfl:k=6:=I;have a:=m.o;rw[yh v 6 bu D]at a;change (v,xs)=R at a;subst a;have A:=ad aU;exact DE
def O8{c:U}{bE:aj}(h:cP w bt g bj fr c 0 0 v xs bE)(i:J)(av:i<2)(cc:U):aB 324 #[g,aa i,bf cc] bE λe w'=>e=aV #[]/\cP w bt g bj fr c 0 0 (fw i cc fr (v,xs)).1 (fw i cc fr (v,xs)).2 w':=by
 have d:=h.hl (kR i av) 8 I;obtain⟨R,a⟩:∃ R,fw i cc fr (v,xs)=R:=⟨_,rfl⟩;rw[a];unfold fw at a;by_cases hd:0<v (4+i*10+8)
 .have u:=ad (agP h i av hd);rw[aD hd]at a;subst a
  go_in
  refine tx;go_wp2;refine vn;exact o8
 rw[az hd]at a;refine z6;refine aS (agV h.st h.lim i av cc) λQ y=>?_;have y:cP w bt g bj fr c 0 0 (iM i cc fr (v,xs)).1 (iM i cc fr (v,xs)).2 Q:=⟨y.st,h.bF.trans y.bF,y.lim⟩;generalize iM i cc fr (v,xs)=s1 at *;have⟨v1,cm⟩:=s1;refine aK;refine aS (agT y i av) λaF h2=>?_;generalize kS i fr (v1,cm)=s2 at *;have⟨v2,cB⟩:=s2;refine aK;refine bJ (wj cc 16 _) ?_;cases ao:cE cc 16
 .refine aK;go_end0;refine⟨rfl,?_⟩;rw[<-m.o,ao];exact h2
 refine aK;refine aS (agR h2 i av) λbr b=>?_;go_wp2;go_end0;refine⟨rfl,?_⟩;rw[<-m.o,ao];exact b
end Go.Proofs.YtalagblioepadaaGreatDoor
