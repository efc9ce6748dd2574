/- The proof, part 34. -/
import Derived.Test.YtalagblioepadaaGreatDoorZd33
import Derived.Shelf.Spec.SlicesInsertGrow
namespace Go.Proofs.YtalagblioepadaaGreatDoor
set_option linter.all false
open Proofs.Tryz List Go.RowKit Go.Shelf Go.Lib
set_option maxRecDepth 100000
set_option maxHeartbeats 1000000
def vo{p:al}(h:p:=by simp[Act.eval,Act.put]):p:=h
def E6{p:al}(h:p:=by have:=V.out _ e;omega):p:=h
def Nh{p:al}(h:p:=by rw[c,show Nat.min 1 (xs.length+1-i)=1 from oY U]):p:=h
def MY{p:al}(h:p:=by
 have t:ys=xs:=by rw[aaB.o,aE U]
 subst t;have f0:=bP Q.o.rs;have z0:=aO Q.o.rs;have s':=xX Q.o.rs (I 0) (I 0) (I 0) (I 0);have zd:=sr (Keeps.refl (λj=>j=w+1) aD) rfl (I 0) (I 0) (I 0) (I 0);have r':=ag s';have O:=ag zd;clear s' zd;go_wp2_with fail;have vl:=dF _ _ _ _ r'.o 4 rfl;refine dx (v:=aY #[aL z4,I 8]) vl ?_;exact⟨⟨⟨0,0,0,0⟩,8,rfl⟩,_,Q.o.jn.keep O.o (by have:=sd.o;omega) (λj f e=>by have:=V.o j f;omega),cN (Q.o.cu.mono λ_ _ e=>e.elim) O.o a8,.inl rfl⟩
 ):p:=h
def NG{p:al}(h:p:=by
 simp only[qj];by_cases b6:e1 a.fr b.fr=0
 .rw[aE b6];by_cases bw:e1 a.em b.em=0
  .rw[aE bw];by_cases eC:e1 a.bp b.bp=0
   .rw[aE eC];by_cases dY:e1 a.cg b.cg=0
    .rw[aE dY];omega
    rw[aB dY];omega
   rw[aB eC];omega
  rw[aB bw];omega
 rw[aB b6];omega
 ):p:=h
def Oo{p:al}(h:p:=by
 rw[<-mh,q,dL,lF U,f,show i*9+j-i*9=j by omega,jO (hD.1 r).1];exact r
 ):p:=h
variable{w w':aj}
def zg{P:Program}(w:aj)(h s ty d:TypeId)(k g o c l:J)(a:Addr)(f r:J)(b:a7 ay)(t:TypeId)(cs:ah ay)(q:P.underlying h=some (.slice d))(aw:(P.info? d).map (·.size)=some k)(aZ:w.heap[g]?=some (af b t (0,0)))(av:cs.length=Nat.min f c*k)(n:∀ j v,cs[j]?=some v->w.cell? (a.add j)=some v)(m:o+cs.length<=b.size)(h1:∀ v∈cs,v.oneCell'=true):(Builtin.copy_ #[h,s] ty #[aq (some (ae g o ad)) c l,aq (some a) f r]).run P w =
   .ok (goInt (Nat.min f c:J)) (w.setRow g (b.toList.take o++cs++b.toList.drop (o+cs.length)).toArray):=by
 have p:=D6 P g o t cs 0 b w aZ (by simpa using m) h1;cases e:P.info? d with
 | none=>simp[e]at aw
 | some i=>
  have ax:i.size=k:=by simpa[e]using aw
  simp[Builtin.copy_,rM q,Builtin.lenOf,Builtin.firstCells,sizeOf,typeInfo,e,ax,<-av,(w_ (P:=P) w a cs n),p]
def Gl{b:J}{cs:a7 ay}{t:TypeId}(h:w.heap[b]?=some (af cs t (0,0))):w.shape? b=some (t,cs.size):=by
 unfold World.shape?;rw[h]
def U1{dR g o db fs lb fP:J}{cs a:a7 ay}(hne:dR≠g)(aU:w.heap[dR]?=some (af cs 45 (0,0)))(aZ:w.heap[g]?=some (af a 45 (0,0)))(an:a.size≠0):(callFunc 386 #[aq (some (ae dR 0 ad)) db fs,aq (some (ae g o ad)) lb fP]).run prog w=.ok (.value (.bool false)) w:=by
 have b:∀ w,(Go.sizeOf 45).run prog w=.ok 9 w:=λw=>aI
 rw[run_callFunc_extern func386 aI aI aI (e:=Extern.SlicesOverlaps.overlaps #[66,66] #[4]) aI,
  Lib.run_overlaps_apart w 66 4 45 underlying66 9 b (ae dR 0 ad) (ae g o ad) db fs lb fP hne 45 45 cs.size a.size (Gl aU) (Gl aZ) an (fO aU 0) (fO aU _)]
 rfl
def yE:∃ i,prog.info? 45=some i/\i.zero=some (aL z9)/\i.size=9/\i.bytes=72:=by
 have h:(prog.info? 45).map (λi=>(i.zero,i.size,i.bytes))=some (some (aL z9),9,72):=aI;cases aS:prog.info? 45 with
 | none=>rw[aS]at h;cases h
 | some i=>rw[aS]at h;simp only[pN,hI,jR]at h;exact⟨i,rfl,h⟩
def si(l:ah aC):∀ u∈b4 l,u.oneCell'=true:=by
 intro u b;obtain⟨e,_,a⟩:=xj.1 b;simp only[aC.bu,ff,vb,or_false]at a;rcases a with rfl|rfl|rfl|rfl|rfl|rfl|rfl|rfl|rfl<;>rfl
def vU(e:aC):b4 [e]=e.bu:=by simp[b4]
def vT(a b:ah aC):b4 (a++b)=b4 a++b4 b:=by simp[b4]
def Hm(e:aC)(b:ah aC):b4 (e :: b)=e.bu++b4 b:=by simp[b4]
def xG(w:aj)(base:J)(v:ay)(ys:ah aC)(r:Ending)(w':aj):al:=
 ∃ v',r=.returned v'/\w'.ownsRow base 45 9 v' ys.length (b4 ys)/\Keeps (λj=>v.ownBlock=some j) w w'/\(v'.ownBlock=v.ownBlock\/v'.ownBlock=some w.heap.size)
def QY{base:J}(xs:ah aC)(v:ay)(a:w.ownsRow base 45 9 v xs.length (b4 xs))(g:base<=w.heap.size)(av:xs.length<=1000)(e:aC)(dR:J)(aU:w.heap[dR]?=some (af e 45 (0,0))):aA 380 #[v,I xs.length,aq (some (ae dR 0 ad)) 1 1] w (xG w base v (xs++[e])):=by
 obtain⟨q,i,m,n,p⟩:=yE;have d:=ag a;obtain⟨A,cap,rfl,_,_⟩:=cS a;have f:eb w 9 (some (ae dR 0 ad)) 1 1 e.bu:=uS (xs:=e.bu) aU rfl kd;have h1:∀ u∈e.bu,u.oneCell'=true:=by rw[<-vU];exact si [e]
 have c:=ag f;have b:=ag h1
 go_in
 go_wp2_with (at_builtin;refine DI _ rfl (.tmp 23) (.tmp 24) _ rfl base 45 q _ 9 72 underlying66 i m n p rfl U _ xs.length (b4 xs) rfl d.o (some (ae dR 0 ad)) 1 1 e.bu rfl c.o b.o pR U g ?_)
 all_goals
  intro r aD l h k;go_wp2_with fail;go_ret;refine⟨r,rfl,?_,(Keeps.refl _ w).grown h (λj e=>.inl (by revert e;cases A<;>exact id)),by revert k;cases A<;>exact id⟩;rw[vT,vU,cx];exact l
def S_{α:Type}{L X D E R:List α}(a:L=X++D++R)(c:E.length<=R.length):((((L.take (X.length+E.length)++D++L.drop (X.length+E.length+D.length)).take X.length++E++(L.take (X.length+E.length)++D++L.drop (X.length+E.length+D.length)).drop (X.length+E.length))).take (X.length+E.length+D.length)=X++E++D):=by
 have b:(L.take (X.length+E.length)).length=X.length+E.length:=by
  rw[gB,a];simp only[cx];omega
 have h1:(L.take (X.length+E.length)++D++L.drop (X.length+E.length+D.length)).take X.length=X:=by
  rw[dL,Ae U,take_take,oY U,a,dL,Af]
 have h2:(L.take (X.length+E.length)++D++L.drop (X.length+E.length+D.length)).drop (X.length+E.length)=D++L.drop (X.length+E.length+D.length):=by
  rw[dL,xa b]
 rw[h1,h2,<-dL,rU (by simp only[cx])]
def Q0{base:J}(xs:ah aC)(g cap:J)(d:a7 ay)(M:base<=g)(p:w.heap[g]?=some (af d 45 (0,0)))(N:xs.length+1<=cap)(O:cap<=maxLen)(R:d.size=cap*9)(F:d.toList.take (xs.length*9)=b4 xs)(av:xs.length<=1000)(i:J)(ax:i<xs.length)(e:aC)(dR:J)(aU:w.heap[dR]?=some (af e 45 (0,0)))(hne:dR≠g):aA 380 #[aq (some (ae g 0 ad)) xs.length cap,I i,aq (some (ae dR 0 ad)) 1 1] w (xG w base (aq (some (ae g 0 ad)) xs.length cap) (xs.take i++e :: xs.drop i)):=by
 have q:d.toList=b4 (xs.take i)++b4 (xs.drop i)++d.toList.drop (xs.length*9):=by
  rw[<-vT,mo,<-F,mo]
 have f:(b4 (xs.take i)).length=i*9:=by rw[tN,gB,oY U]
 have k:(b4 (xs.drop i)).length=(xs.length-i)*9:=by rw[tN,gg]
 have c:e.bu.length=9:=rfl;have t:d.toList.length=cap*9:=by rw[pG];exact R
 have y:∀ j u,(b4 (xs.drop i))[j]?=some u->d[i*9+j]?=some u:=λj u r=>by
  exact Oo
 have⟨b,m⟩:=cT (d.toList.take ((i+1)*9)++b4 (xs.drop i)++d.toList.drop ((i+1)*9+(b4 (xs.drop i)).length));have C:b.length=cap*9:=by
  rw[m];simp only[cx,gB,gg,t,k];omega
 have P:∀ ty h dk,(Builtin.copy_ #[66,66] ty #[aq (some (ae g ((i+1)*9) ad)) (xs.length-i) h,aq (some (ae g (i*9) ad)) (xs.length+1-i) dk]).run prog w.drew=.ok (goInt (Nat.min (xs.length+1-i) (xs.length-i):J)) (w.drew.setRow g b.toArray):=λty h dk=>by
  rw[m];exact zg w.drew 66 66 ty 45 9 g ((i+1)*9) _ h (ae g (i*9) ad) _ dk d 45 (b4 (xs.drop i)) underlying66 aI p (by rw[k,show Nat.min (xs.length+1-i) (xs.length-i)=xs.length-i from Eu U]) (λj v x=>by rw[ij];exact bf (w:=w.drew) p (y j v x)) (by rw[k];omega) (si _)
 have s:=fb w.drew g d b.toArray 45 p;have⟨l,n⟩:=cT (b.take (i*9)++e.bu++b.drop (i*9+9));have z:∀ ty h,(Builtin.copy_ #[66,66] ty #[aq (some (ae g (i*9) ad)) (xs.length+1-i) h,aq (some (ae dR 0 ad)) 1 1]).run prog (w.drew.setRow g b.toArray)=.ok (goInt (Nat.min 1 (xs.length+1-i):J)) ((w.drew.setRow g b.toArray).setRow g l.toArray):=λty h=>by
  rw[n];exact zg (w.drew.setRow g b.toArray) 66 66 ty 45 9 g (i*9) _ h (ae dR 0 ad) 1 1 b.toArray 45 e.bu underlying66 aI s Nh (λj v x=>by rw[ij,gP];exact bf ((iW w.drew g b.toArray).heap (a:=w.drew) aU hne) (by rw[<-mh];exact x)) (by rw[c];simp only[hh];omega) (by rw[<-vU];exact si [e])
 have hfin:((w.drew.setRow g b.toArray).setRow g l.toArray).ownsRow base 45 9 (aq (some (ae g 0 ad)) (xs.length+1) cap) (xs.length+1) (b4 (xs.take i++e :: xs.drop i)):=by
  have aK:=S_ (E:=e.bu) q (by rw[c,gg,t];omega);rw[f,c,show i*9+9=(i+1)*9 by omega,<-m,show(i+1)*9=i*9+9 by omega,<-n]at aK;have A:b4 (xs.take i++e :: xs.drop i)=b4 (xs.take i)++e.bu++b4 (xs.drop i):=by rw[vT,Hm,dL]
  refine⟨by rw[A];simp only[cx,f,c,k];omega,.inr ⟨g,cap,l.toArray,rfl,M,fb _ g _ l.toArray 45 s,N,O,?_,?_⟩⟩
  .rw[n];simp only[hh,cx,gB,gg,C,c];omega
  rw[A,<-aK,k]
  congr 1
  omega
 have B:Keeps (λj=>(aq (some (ae g 0 ad)) xs.length cap).ownBlock=some j) w ((w.drew.setRow g b.toArray).setRow g l.toArray):=
  (((Keeps.refl (λj=>j=g) w).drew.trans (iW _ g _)).trans (iW _ g _)).mono λj _ e=>by rw[e];rfl
 have D:(xs.take i++e :: xs.drop i).length=xs.length+1:=by
  simp only[cx,gB,dy,gg];omega
 have H:=ag hfin;have K:=ag B;have L:=ag D;have G:=ag z;have Q:∀ o lb fP,(callFunc 386 #[aq (some (ae dR 0 ad)) 1 1,aq (some (ae g o ad)) lb fP]).run prog w=.ok (.value (.bool false)) w:=λo lb fP=>U1 hne aU p U;have ab:prog.follows .mixedOrders=true:=aI;have S:(0:aa)<=(i:aa)+1:=U;have X:i<=xs.length:=U;have Y:((i:aa)+1).toNat=i+1:=U;have Z:IntKind.i64.wrap ((i:aa)+1)=(i:aa)+1:=eG _ U;have T:¬ (cap=i+1):=U;have V:(i:aa)<=(xs.length:aa)+1:=U;have W:¬ (cap=i):=U;clear hfin B z s y q f k c t C m n F D
 go_in
 go_wp2_with simp only[Q]
 go_region_law_o (refine step_copy_runI rfl _ _ 66 66 rfl _ _ vo vo (P _ _ _) ?_)
 go_wp2_with fail;simp only[G.o,hE];go_wp2_with fail;go_ret;exact⟨_,rfl,by rw[L.o];exact H.o,K.o,.inl rfl⟩
def S'{α:Type}{X D E R:List α}:((((X++R).take X.length++E++(X++R).drop (X.length+E.length)).take (X.length+E.length)++D++((X++R).take X.length++E++(X++R).drop (X.length+E.length)).drop (X.length+E.length+D.length)).take (X.length+E.length+D.length))=X++E++D:=by
 have h:((X++R).take X.length++E++(X++R).drop (X.length+E.length)).take (X.length+E.length)=X++E:=by
  rw[Af,rU (by simp only[cx])]
 rw[h,rU (by simp only[cx])]
def QZ{base:J}(m':base<=w.heap.size)(xs:ah aC)(g cap:J)(k:a7 ay)(F:w.heap[g]?=some (af k 45 (0,0)))(ys:¬ xs.length+1<=cap)(Aw:xs.length<=cap)(CW:k.size=cap*9)(a':k.toList.take (xs.length*9)=b4 xs)(av:xs.length<=1000)(i:J)(ax:i<xs.length)(e:aC)(dR:J)(aU:w.heap[dR]?=some (af e 45 (0,0))):aA 380 #[aq (some (ae g 0 ad)) xs.length cap,I i,aq (some (ae dR 0 ad)) 1 1] w (xG w base (aq (some (ae g 0 ad)) xs.length cap) (xs.take i++e :: xs.drop i)):=by
 obtain⟨i0,W,fr,L,d⟩:=yE;obtain rfl:cap=xs.length:=U;have q:k.toList=b4 (xs.take i)++b4 (xs.drop i)++k.toList.drop (xs.length*9):=by
  rw[<-vT,mo,<-a',mo]
 have f:(b4 (xs.take i)).length=i*9:=by rw[tN,gB,oY U]
 have m:(b4 (xs.drop i)).length=(xs.length-i)*9:=by rw[tN,gg]
 have c:e.bu.length=9:=rfl;have S:∀ j u,(b4 (xs.take i))[j]?=some u->k[j]?=some u:=λj u r=>by
  rw[<-mh,q,dL,jO (hD.1 r).1];exact r
 have Q:∀ j u,(b4 (xs.drop i))[j]?=some u->k[i*9+j]?=some u:=λj u r=>by
  exact Oo
 have hold:(Builtin.firstCells i0.size i (aq (some (ae g 0 ad)) i xs.length)).run prog w.drew=.ok (b4 (xs.take i)).toArray w.drew:=by
  rw[L];exact run_firstCells_some (w:=w.drew) 9 i (ae g 0 ad) i xs.length (b4 (xs.take i)) f (λj v p=>by rw[ij,gP];exact bf (w:=w.drew) F (S j v p))
 have s:=λty=>run_append_grow_zeros (P:=prog) (ty:=ty) w 66 3 45 i0 _ .i64 .i64 underlying66 underlying3 W fr (some (ae g 0 ad)) i xs.length (b4 (xs.take i)) hold (xs.length+1-i) U (by rw[L];omega) U U vu (by rw[d,show i+(xs.length+1-i)=xs.length+1 by omega];exact growslice_fits U U);rw[show i+(xs.length+1-i)=xs.length+1 by omega]at s;have⟨G,z⟩:=cT (grownCap w (xs.length+1) xs.length 45);have l':xs.length+1<=G:=by rw[z];exact D3 w _ _ _
 have M:G<=maxLen:=by rw[z];exact grownCap_le_maxLen w _ _ _ kd
 rw[<-z]at s;obtain⟨R,N,A⟩:∃ R:ah ay,(b4 (xs.take i)).toArray++Builtin.zeroCells (aL z9).cells (xs.length+1-i)++Builtin.zeroCells (aL z9).cells (G-(xs.length+1))=(b4 (xs.take i)++R).toArray/\R.length=(G-i)*9:=by
  refine⟨(Builtin.zeroCells (aL z9).cells (xs.length+1-i)).toList++(Builtin.zeroCells (aL z9).cells (G-(xs.length+1))).toList,?_,?_⟩
  .apply Array.ext';simp
  simp[Builtin.zeroCells,Value.cells];omega
 rw[N]at s;have H:∀ ty,(Builtin.append_ #[66,3] ty #[aq (some (ae g 0 ad)) i xs.length,I ((xs.length:aa)+1-(i:aa))]).run prog w=.ok (aq (some (ae w 0 ad)) (xs.length+1) G) (w.drew.alloc (af (b4 (xs.take i)++R).toArray 45)):=λty=>by
  have:=s ty
  rwa [show((xs.length+1-i:J):aa)=(xs.length:aa)+1-(i:aa)by omega]at this
 have zd:=bT F;have St:=bT aU;have n:=aX w.drew (af (b4 (xs.take i)++R).toArray 45);have t:Keeps aG w (w.drew.alloc (af (b4 (xs.take i)++R).toArray 45)):=(Keeps.refl _ w).drew.alloc _;have K:=t.heap aU id;have C:=t.heap F id;obtain⟨b,O⟩:=cT (w.drew.alloc (af (b4 (xs.take i)++R).toArray 45));rw[<-O]at H n t K C;have n:=n;obtain⟨a,x⟩:∃ a,a=(b4 (xs.take i)++R).take (i*9)++e.bu++(b4 (xs.take i)++R).drop (i*9+9):=⟨_,rfl⟩;have Z:a.length=G*9:=by
  rw[x];simp only[cx,gB,gg,f,c,A];omega
 have T:∀ ty l,(Builtin.copy_ #[66,66] ty #[aq (some (ae w (i*9) ad)) (xs.length+1-i) l,aq (some (ae dR 0 ad)) 1 1]).run prog b=.ok (goInt (Nat.min 1 (xs.length+1-i):J)) (b.setRow w.heap.size a.toArray):=λty l=>by
  rw[x];exact zg b 66 66 ty 45 9 w.heap.size (i*9) _ l (ae dR 0 ad) 1 1 (b4 (xs.take i)++R).toArray 45 e.bu underlying66 aI n Nh (λj v p=>by rw[ij,gP];exact bf K (by rw[<-mh];exact p)) (by rw[c];simp only[hh,cx,f,A];omega) (by rw[<-vU];exact si [e])
 have B:=fb b w.heap.size _ a.toArray 45 n;obtain⟨h,y⟩:∃ h,h=a.take ((i+1)*9)++b4 (xs.drop i)++a.drop ((i+1)*9+(b4 (xs.drop i)).length):=⟨_,rfl⟩;have ps:∀ ty l dk,(Builtin.copy_ #[66,66] ty #[aq (some (ae w ((i+1)*9) ad)) (xs.length-i) l,aq (some (ae g (i*9) ad)) (xs.length-i) dk]).run prog (b.setRow w.heap.size a.toArray).drew=.ok (goInt (Nat.min (xs.length-i) (xs.length-i):J)) ((b.setRow w.heap.size a.toArray).drew.setRow w.heap.size h.toArray):=λty l dk=>by
  rw[y];exact zg (b.setRow w.heap.size a.toArray).drew 66 66 ty 45 9 w.heap.size ((i+1)*9) _ l (ae g (i*9) ad) _ dk a.toArray 45 (b4 (xs.drop i)) underlying66 aI B (by rw[m,show Nat.min (xs.length-i) (xs.length-i)=xs.length-i from Nat.min_self _]) (λj v p=>by rw[ij];exact bf (w:=(b.setRow w.heap.size a.toArray).drew) ((iW b w.heap.size a.toArray).heap C U) (Q j v p)) (by rw[m];simp only[hh];omega) (si _)
 have hfin:((b.setRow w.heap.size a.toArray).drew.setRow w.heap.size h.toArray).ownsRow base 45 9 (aq (some (ae w 0 ad)) (xs.length+1) G) (xs.length+1) (b4 (xs.take i++e :: xs.drop i)):=by
  have aK:=S' (X:=b4 (xs.take i)) (E:=e.bu) (D:=b4 (xs.drop i)) (R:=R);rw[f,c,<-x,show i*9+9=(i+1)*9 by omega,<-y]at aK;have V:b4 (xs.take i++e :: xs.drop i)=b4 (xs.take i)++e.bu++b4 (xs.drop i):=by rw[vT,Hm,dL]
  refine⟨by rw[V];simp only[cx,f,c,m];omega,.inr ⟨w,G,h.toArray,rfl,m',(fb (b.setRow w.heap.size a.toArray).drew w.heap.size _ h.toArray 45 B),l',M,?_,?_⟩⟩
  .rw[y];simp only[hh,cx,gB,gg,Z,m];omega
  rw[V,<-aK,m]
  congr 1
  omega
 have Y:Keeps (λj=>(aq (some (ae g 0 ad)) xs.length xs.length).ownBlock=some j) w ((b.setRow w.heap.size a.toArray).drew.setRow w.heap.size h.toArray):=
  cN (lj t) (((iW b w.heap.size a.toArray).drew).trans (iW _ _ _)) a8
 have ab:(xs.take i++e :: xs.drop i).length=xs.length+1:=by
  simp only[cx,gB,dy,gg];omega
 have g':=ag hfin;have hd:=ag Y;have h2:=ag ab;have lb:=ag H;have gf:=ag T;have TS:prog.follows .mixedOrders=true:=aI;have vl:(0:aa)<=(i:aa)+1:=U;have zp:i<=xs.length:=U;have Q':((i:aa)+1).toNat=i+1:=U;have Tq:IntKind.i64.wrap ((i:aa)+1)=(i:aa)+1:=eG _ U;have v':(i:aa)<=(xs.length:aa)+1:=U;have w':¬ (xs.length=i):=U;have sd:¬ (G=i):=U;have s':¬ (G=i+1):=U;have r':G<=9223372036854775807:=M;clear hfin Y T K n B C Q S q f m c Z x y a' ab H s N A hold t O W fr L d z
 go_in
 go_wp2_with (at_builtin;refine Lib.wpList_append_run _ rfl (.tmp 34) (.tmp 39) 66 3 rfl (aq (some (ae g 0 ad)) i xs.length) (I ((xs.length:aa)+1-(i:aa))) rfl rfl _ _ (lb.o _) ?_);simp only[gf.o,hE];go_wp2_with fail
 go_region_law_o (refine step_copy_runI rfl _ _ 66 66 rfl _ _ vo vo (ps _ _ _) ?_)
 go_wp2_with fail;go_ret;exact⟨_,rfl,by rw[h2.o];exact g'.o,hd.o,.inr rfl⟩
def QW{base:J}(xs:ah aC)(v:ay)(f:w.ownsRow base 45 9 v xs.length (b4 xs))(c:base<=w.heap.size)(av:xs.length<=1000)(i:J)(ax:i<=xs.length)(e:aC)(dR:J)(aU:w.heap[dR]?=some (af e 45 (0,0)))(hne:v.ownBlock≠some dR):aA 380 #[v,I i,aq (some (ae dR 0 ad)) 1 1] w (xG w base v (xs.take i++e :: xs.drop i)):=by
 by_cases h:i=xs.length
 .subst h;rw[nU,drop_length];exact QY xs v f c av e dR aU
 obtain⟨_,a⟩:=f;rcases a with⟨rfl,o⟩|⟨g,cap,b,rfl,l,d,n,m,j,k⟩
 .omega
 by_cases a:xs.length+1<=cap
 .exact Q0 xs g cap b l d a m j k av i U e dR aU (λe=>hne (by rw[e];rfl))
 exact QZ c xs g cap b d a n j k av i U e dR aU
structure pX(xs:ah aC)(bX cR eD:J)(t:aC)(W:aj):al where
 an:∀ (j:J) u,(b4 xs)[j]?=some u->W.cell? (ae bX (cR+j) ad)=some u
 bN:W.heap[eD]?=some (af t 45 (0,0))
theorem pX.keep{xs:ah aC}{bX cR eD:J}{t:aC}{W W':aj}(h:pX xs bX cR eD t W)(hk:Keeps aG W W'):pX xs bX cR eD t W':=
 ⟨λj u a=>hk.cell (h.an j u a) id,hk.heap h.bN id⟩
theorem pX.cell{xs:ah aC}{bX cR eD:J}{t:aC}{W:aj}(h:pX xs bX cR eD t W)(i:J)(ax:i<xs.length)(j:J)(a:j<9){u:ay}(b:xs[i].bu[j]?=some u):W.cell? (ae bX (cR+i*9+j) ad)=some u:=by
 rw[hZ];exact h.an _ _ ((tM xs i ax j a).trans b)
def Q4(xs:ah aC){A:b_ Addr}{cap:J}(s:eb w 9 A xs.length cap (b4 xs))(av:xs.length<=1000)(t:aC)(m:J)(hm:m<=xs.length)(Y:∀ i (ax:i<xs.length),i<m->eN xs[i].k t.k<0)(X:∀ i (ax:i<xs.length),m<=i->¬ eN xs[i].k t.k<0):aA 378 #[aq A xs.length cap,aL t,.func (.func 379) #[] #[]] w λr w'=>
   r=aY #[I m,(decide (∃ h:m<xs.length,eN xs[m].k t.k=0))]/\Below w w w':=by
 have b':=(b7 w.heap.size w).alloc bx (af t 45);have T:=aX w (af t 45);have R:=s.keeps (S:=aG) ((Keeps.refl _ w).alloc (af t 45)) (λ_ _ _=>id);have L:=ag R;have M:=ag T;have hj:=ag b';have O:=ag Y;have N:=ag X
 go_in
 go_wp2_with fail;generalize World.alloc w _=bn at *;go_loopg [9,10,11] xs.length (λg i j _ wr=>∃ p q:J,g=q-p/\i=I p/\j=I q/\p<=m/\m<=q/\q<=xs.length/\Keeps aG bn wr)
 case atStart=>exact⟨0,xs.length,rfl,rfl,rfl,de _,hm,df _,Keeps.refl _ _⟩
 obtain⟨p,q,aZ,rfl,rfl,au,P,Q,hk⟩:=hrel;by_cases sd:p<q
 .have aS:(p+q) / 2<xs.length:=U;have s:=L.o.keeps hk (λ_ _ _=>id);obtain⟨bX,cR,rfl,an⟩:=s.at' U;have D:pX xs bX cR w.heap.size t wr:=⟨an,hk.heap M.o id⟩;have C:=ag D;have l:=ag hk;go_upto_region 5 with fail
  have r':p<=(p+q) / 2/\(p+q) / 2<q:=U;rw[show((p:aa)+(q:aa)) / 2=(((p+q) / 2:J):aa)by omega];generalize (p+q) / 2=h at *;obtain⟨G,a⟩:=h0 (F:=λW=>pX xs bX cR w.heap.size t W);have ab:∀ x:bs G,x.to.cell? (ae bX (cR+h*9) ad)=some (I xs[h].k.fr):=λx=>((a _).1 x.held).cell h aS 0 U rfl;have a':∀ x:bs G,x.to.cell? (ae bX (cR+h*9+1) ad)=some (I xs[h].k.em):=λx=>((a _).1 x.held).cell h aS 1 U rfl;have gf:∀ x:bs G,x.to.cell? (ae bX (cR+h*9+2) ad)=some (I xs[h].k.bp):=λx=>((a _).1 x.held).cell h aS 2 U rfl;have g':∀ x:bs G,x.to.cell? (ae bX (cR+h*9+3) ad)=some (I xs[h].k.cg):=λx=>((a _).1 x.held).cell h aS 3 U rfl;have hd:∀ x:bs G,x.to.cell? (ae bX (cR+h*9+4) ad)=some (I xs[h].cy):=λx=>((a _).1 x.held).cell h aS 4 U rfl;have h2:∀ x:bs G,x.to.cell? (ae bX (cR+h*9+5) ad)=some (I xs[h].dd):=λx=>((a _).1 x.held).cell h aS 5 U rfl;have lb:∀ x:bs G,x.to.cell? (ae bX (cR+h*9+6) ad)=some (I xs[h].dP):=λx=>((a _).1 x.held).cell h aS 6 U rfl;have l':∀ x:bs G,x.to.cell? (ae bX (cR+h*9+7) ad)=some (I xs[h].dw):=λx=>((a _).1 x.held).cell h aS 7 U rfl;have m':∀ x:bs G,x.to.cell? (ae bX (cR+h*9+8) ad)=some (I xs[h].le):=λx=>((a _).1 x.held).cell h aS 8 U rfl;have Z:=λx:bs G=>aO (((a _).1 x.held).bN);have b:=(a _).2 (C.o.keep (Keeps.refl _ wr).drew);have f:=ag (λW=>Hi xs[h] t W);exact Mo
 obtain rfl:p=m:=U;obtain rfl:q=p:=U;by_cases H:q<xs.length
 .have aS:=H;have s:=L.o.keeps hk (λ_ _ _=>id);obtain⟨bX,cR,rfl,an⟩:=s.at' U;have D:pX xs bX cR w.heap.size t wr:=⟨an,hk.heap M.o id⟩;have C:=ag D;have l:=ag hk;obtain⟨G,a⟩:=h0 (F:=λW=>pX xs bX cR w.heap.size t W);have ab:∀ x:bs G,x.to.cell? (ae bX (cR+q*9) ad)=some (I xs[q].k.fr):=λx=>((a _).1 x.held).cell q aS 0 U rfl;have a':∀ x:bs G,x.to.cell? (ae bX (cR+q*9+1) ad)=some (I xs[q].k.em):=λx=>((a _).1 x.held).cell q aS 1 U rfl;have gf:∀ x:bs G,x.to.cell? (ae bX (cR+q*9+2) ad)=some (I xs[q].k.bp):=λx=>((a _).1 x.held).cell q aS 2 U rfl;have g':∀ x:bs G,x.to.cell? (ae bX (cR+q*9+3) ad)=some (I xs[q].k.cg):=λx=>((a _).1 x.held).cell q aS 3 U rfl;have hd:∀ x:bs G,x.to.cell? (ae bX (cR+q*9+4) ad)=some (I xs[q].cy):=λx=>((a _).1 x.held).cell q aS 4 U rfl;have h2:∀ x:bs G,x.to.cell? (ae bX (cR+q*9+5) ad)=some (I xs[q].dd):=λx=>((a _).1 x.held).cell q aS 5 U rfl;have lb:∀ x:bs G,x.to.cell? (ae bX (cR+q*9+6) ad)=some (I xs[q].dP):=λx=>((a _).1 x.held).cell q aS 6 U rfl;have l':∀ x:bs G,x.to.cell? (ae bX (cR+q*9+7) ad)=some (I xs[q].dw):=λx=>((a _).1 x.held).cell q aS 7 U rfl;have m':∀ x:bs G,x.to.cell? (ae bX (cR+q*9+8) ad)=some (I xs[q].le):=λx=>((a _).1 x.held).cell q aS 8 U rfl;have Z:=λx:bs G=>aO (((a _).1 x.held).bN);have b:=(a _).2 (C.o.keep (Keeps.refl _ wr).drew);have f:=ag (λW=>Hi xs[q] t W);have u:=ag (λ(W W':aj) (y:G W) (ak:Below W W W')=>(a W').2 (((a W).1 y).keep (Keeps.bJ ak a8)));have bA:=l.o.drew;go_wp2_with fail;refine cJ 16 ?_;refine cK (G) (.range 16) 0 16 ?_;refine dK (b) (.range 11) 5 ?_;generalize wr.drew=z at *;refine eH 11 λK v=>?_;go_simp;refine aW (f.o z) λaD c=>?_;have d:=u.o _ _ b c;refine v _ _ (d) ?_;refine dK (d) [12,13,14,15] 0 ?_;refine ox ?_;have n:=bA.trans (Keeps.bJ (S:=aG) c a8);have B:=hj.o.trans (n.below hj.o.size (λ_ _ e=>e));go_wp2_with fail;have E:(eN xs[q].k t.k == 0)=decide (∃ h:q<xs.length,eN xs[q].k t.k=0):=by
   by_cases e:eN xs[q].k t.k=0
   .simp[e,H]
   simp[e]
  go_ret2;exact⟨by rw[<-E];rfl,B⟩
 have B:=hj.o.trans (hk.below hj.o.size (λ_ _ e=>e));have E:decide (∃ h:q<xs.length,eN xs[q].k t.k=0)=false:=by simp[H]
 obtain rfl:q=xs.length:=U;go_wp2_with fail;go_quiet (fail);have V:=B.trans (((bb wr).drewN nq).below B.size (λ_ _ e=>e));go_wp2_with fail;go_ret2;exact⟨by rw[E];rfl,V⟩
def x2(a b:aa):e1 a b<0↔a<b:=by
 unfold e1;split
 .omega
 split<;>omega
def q3(a b:aa):e1 a b=0↔a=b:=by
 unfold e1;split
 .omega
 split<;>omega
def kL(a b:cU):al:=a.fr<b.fr\/(a.fr=b.fr/\(a.em<b.em\/(a.em=b.em/\(a.bp<b.bp\/(a.bp=b.bp/\a.cg<b.cg)))))
def la(a b:cU):eN a b<0↔kL a b:=by
 unfold eN kL;have h1:=x2 a.fr b.fr;have h2:=x2 a.em b.em;have g:=x2 a.bp b.bp;have h:=x2 a.cg b.cg;have c:=q3 a.fr b.fr;have d:=q3 a.em b.em;have e:=q3 a.bp b.bp;have f:=q3 a.cg b.cg;exact NG
def GB(a b:cU):eN a b=0↔a=b:=by
 unfold eN;have k:=q3 a.fr b.fr;have l:=q3 a.em b.em;have m:=q3 a.bp b.bp;have n:=q3 a.cg b.cg;have c:a=b↔(a.fr=b.fr/\a.em=b.em/\a.bp=b.bp/\a.cg=b.cg):=by
  have⟨d,e,f,g⟩:=a;have⟨bR,h,i,j⟩:=b;simp
 rw[c];exact NG
def ri{a b c:cU}(h:kL a b)(k:kL b c):kL a c:=by unfold kL at *;omega
def mE(a:cU):¬ kL a a:=by unfold kL;omega
def wx(a b:cU):kL a b\/a=b\/kL b a:=by
 by_cases h:a=b
 .exact .inr (.inl h)
 have⟨c,d,e,f⟩:=a;have⟨bR,g,i,j⟩:=b;unfold kL;simp only[cU.mk.injEq]at h;simp only;omega
def ev(xs:ah aC):al:=xs.Pairwise λa b=>kL a.k b.k
def e3(xs:ah aC)(k:cU):J:=(xs.takeWhile λa=>decide (eN a.k k<0)).length
def yP(xs:ah aC)(k:cU):e3 xs k<=xs.length:=(takeWhile_sublist _).length_le
theorem wv:∀ (xs:ah aC) (k:cU) (i:J) (ax:i<xs.length),i<e3 xs k->eN xs[i].k k<0
 | [],_,_,h,_=>by simp at h
 | x :: xs,k,i,ax,h=>by
  by_cases c:eN x.k k<0
  .have e:e3 (x :: xs) k=e3 xs k+1:=by unfold e3;rw[takeWhile_cons_of_pos (by simpa using c)];rfl
   cases i with
   | zero=>exact c
   | succ i=>exact wv xs k i (by simpa using ax) iO
  have e:e3 (x :: xs) k=0:=by unfold e3;rw[takeWhile_cons_of_neg (by simpa using c)];rfl
  omega
theorem Ce:∀ (xs:ah aC) (k:cU) (h:e3 xs k<xs.length),¬ eN xs[e3 xs k].k k<0
 | [],_,h=>by simp at h
 | x :: xs,k,h=>by
  by_cases c:eN x.k k<0
  .have e:e3 (x :: xs) k=e3 xs k+1:=by unfold e3;rw[takeWhile_cons_of_pos (by simpa using c)];rfl
   have a:e3 xs k<xs.length:=by rw[e]at h;simpa using h
   simp only[e,xf];exact(Ce xs k a)
  have e:e3 (x :: xs) k=0:=by unfold e3;rw[takeWhile_cons_of_neg (by simpa using c)];rfl
  simp only[e,Ei];exact c
def Cf{xs:ah aC}(bh:ev xs)(k:cU)(i:J)(ax:i<xs.length)(h:e3 xs k<=i):¬ eN xs[i].k k<0:=by
 have a:=Ce xs k U;by_cases e:e3 xs k=i
 .subst e;exact a
 have b:=ta.1 bh (e3 xs k) i U ax U;rw[la]at a⊢;exact λc=>a (ri b c)
def mz(xs:ah aC)(k:cU):a1:=decide (∃ e∈xs,e.k=k)
def B2{xs:ah aC}(bh:ev xs)(k:cU):decide (∃ h:e3 xs k<xs.length,eN xs[e3 xs k].k k=0)=mz xs k:=by
 congr 1
 apply propext;constructor
 .rintro⟨h,e⟩;exact⟨_,mY h,(GB _ _).1 e⟩
 rintro⟨e,a,rfl⟩;obtain⟨i,ax,rfl⟩:=xg a;have h1:e3 xs xs[i].k<=i:=by
  by_cases c:e3 xs xs[i].k<=i
  .exact c
  exact absurd ((la _ _).1 (wv xs xs[i].k i ax U)) (mE _)
 refine⟨U,?_⟩;by_cases e:e3 xs xs[i].k=i
 .rw[GB];simp only[e]
 have b:=ta.1 bh (e3 xs xs[i].k) i U ax U;exact absurd ((la _ _).2 b) (Ce xs xs[i].k U)
def lg(xs:ah aC)(e:aC):ah aC:=xs.take (e3 xs e.k)++e :: xs.drop (e3 xs e.k)
def Iz{xs:ah aC}(bh:ev xs)(e:aC)(av:mz xs e.k=false):ev (lg xs e):=by
 have hne:∀ x∈xs,x.k≠e.k:=λx l c=>by
  have:mz xs e.k=true:=ei ⟨x,l,c⟩
  rw[av]at this;cases this
 unfold ev lg;rw[pJ];refine⟨bh.sublist (take_sublist _ _),kb.2 ⟨λx l=>?_,bh.sublist (drop_sublist _ _)⟩,λa n b f=>?_⟩
 .obtain⟨j,g,rfl⟩:=xg l;rw[getElem_drop];have d:e3 xs e.k+j<xs.length:=by rw[gg]at g;omega
  have h1:=Cf bh e.k (e3 xs e.k+j) d U;rw[la]at h1;rcases wx e.k xs[e3 xs e.k+j].k with h|h|h
  .exact h
  .exact absurd h.symm (hne _ (mY d))
  exact absurd h h1
 obtain⟨i,ax,rfl⟩:=xg n;rw[getElem_take];have o:i<e3 xs e.k:=by rw[gB]at ax;omega
 have m:i<xs.length:=by have:=yP xs e.k;omega
 have h1:=(la _ _).1 (wv xs e.k i m o);rcases ff.1 f with rfl|f
 .exact h1
 obtain⟨j,g,rfl⟩:=xg f;rw[getElem_drop];have d:e3 xs e.k+j<xs.length:=by rw[gg]at g;omega
 exact ta.1 bh i (e3 xs e.k+j) m d U
def Gm{w:aj}{b:J}{t:TypeId}{bz b6 bw eC dY fV ek c2 fI:ay}(h:w.heap[b]?=some (af #[bz,b6,bw,eC,dY,fV,ek,c2,fI] t (0,0)))(a c v2 d e f g i j:ay):(((((((((w.setCell (ae b 0 ad) a).setCell (ae b 1 ad) c).setCell (ae b 2 ad) v2).setCell (ae b 3 ad) d).setCell (ae b 4 ad) e).setCell (ae b 5 ad) f).setCell (ae b 6 ad) g).setCell (ae b 7 ad) i).setCell (ae b 8 ad) j).heap[b]?=some (af #[a,c,v2,d,e,f,g,i,j] t (0,0)):=by
 have:=b3 (b3 (b3 (b3 (b3 (b3 (b3 (b3 (b3 h 0 a) 1 c) 2 v2) 3 d) 4 e) 5 f) 6 g) 7 i) 8 j
 simpa using this
theorem IM(w:aj)(b:J)(a c v2 d e f g h i:ay):Keeps (λj=>j=b) w (((((((((w.setCell (ae b 0 ad) a).setCell (ae b 1 ad) c).setCell (ae b 2 ad) v2).setCell (ae b 3 ad) d).setCell (ae b 4 ad) e).setCell (ae b 5 ad) f).setCell (ae b 6 ad) g).setCell (ae b 7 ad) h).setCell (ae b 8 ad) i):=
 (((((((((Keeps.refl (λj=>j=b) w).setCell (p:=ae b 0 ad) rfl a).setCell (p:=ae b 1 ad) rfl c).setCell (p:=ae b 2 ad) rfl v2).setCell (p:=ae b 3 ad) rfl d).setCell (p:=ae b 4 ad) rfl e).setCell (p:=ae b 5 ad) rfl f).setCell (p:=ae b 6 ad) rfl g).setCell (p:=ae b 7 ad) rfl h).setCell (p:=ae b 8 ad) rfl i
def Q9(xs:ah aC){A:b_ Addr}{cap:J}(z:eb w 9 A xs.length cap (b4 xs))(av:xs.length<=1000)(bh:ev xs)(k:cU):aA 385 #[aq A xs.length cap,aL k] w λr w'=>(∃ e:aC,r=aY #[aL e,(mz xs k)])/\Below w w w':=by
 have F:(w.alloc (af k 43)).heap.size=w.heap.size+1:=aM;have x:=aX (w.alloc (af k 43)) (af z9 45);rw[F]at x;have G:Keeps aG w ((w.alloc (af k 43)).alloc (af z9 45)):=((Keeps.refl _ w).alloc _).alloc _;have L:((w.alloc (af k 43)).alloc (af z9 45)).heap.size=w.heap.size+2:=aM;have q:=ag (z.keeps G (λ_ _ _=>id));have s:=ag x;have K:=ag (cw (aX w (af k 43)) (af z9 45));have hj:=ag (((b7 w.heap.size w).alloc bx (af k 43)).alloc aM (af z9 45))
 go_in
 go_wp2_with fail;generalize World.alloc (World.alloc w _) _=ao at *;have ar:=ag (Q5 (w:=ao) xs q.o av k (e3 xs k) (yP xs k) (λi ax h=>wv xs k i ax h) (λi ax h=>Cf bh k i ax h));rw[B2 bh k]at ar;cases aS:mz xs k with
 | false=>
  rw[aS]at ar;go_wp2_with fail;refine aW ar.out λaD c=>?_;have b:=(Keeps.bJ (S:=aG) c a8).heap s.out id;have d:=hj.out.trans (c.mono U);have f0:=bP b;have H:=aO b;have l:=Gm b (I 0) (I 0) (I 0) (I 0) (I 0) (I 0) (I 0) (I 0) (I 0);have n:=d.trans ((IM aD (w.heap.size+1) (I 0) (I 0) (I 0) (I 0) (I 0) (I 0) (I 0) (I 0) (I 0)).below d.size a8);have f:=ag l;have g:=ag n;go_wp2_with fail;have p:=dF _ _ _ _ f.o 9 rfl;refine dx (v:=aY #[aL z9,false]) p ?_;exact⟨⟨⟨⟨0,0,0,0⟩,0,0,0,0,0⟩,by rw[aS]⟩,g.o⟩
 | true=>
  have hm:e3 xs k<xs.length:=by
   have t:=B2 bh k;rw[aS]at t;exact(rZ t).1
  rw[aS]at ar;generalize e3 xs k=m at *;go_wp2_with fail;refine aW ar.out λaD c=>?_;have y:=Keeps.bJ (S:=aG) c a8;have b:=y.heap s.out id;have B:=q.out.keeps y (λ_ _ _=>id);have d:=hj.out.trans (c.mono U);obtain⟨bX,cR,rfl,an⟩:=B.at' U;have a:∀ j u,j<9->xs[m].bu[j]?=some u->aD.cell? (ae bX (cR+m*9+j) ad)=some u:=λj u D E=>by rw[hZ];exact an _ _ ((tM xs m hm j D).trans E)
  obtain⟨e,C⟩:∃ e,xs[m]=e:=⟨_,rfl⟩;rw[C]at a;have M:aD.cell? (ae bX (cR+m*9) ad)=some (I e.k.fr):=a 0 _ U rfl;have N:=a 1 _ U rfl;have O:=a 2 _ U rfl;have P:=a 3 _ U rfl;have Q:=a 4 _ U rfl;have R:=a 5 _ U rfl;have T:=a 6 _ U rfl;have V:=a 7 _ U rfl;have W:=a 8 _ U rfl;have f0:=bP b;have H:=aO b;have l:=Gm b (I e.k.fr) (I e.k.em) (I e.k.bp) (I e.k.cg) (I e.cy) (I e.dd) (I e.dP) (I e.dw) (I e.le);have n:=d.trans ((IM aD (w.heap.size+1) (I e.k.fr) (I e.k.em) (I e.k.bp) (I e.k.cg) (I e.cy) (I e.dd) (I e.dP) (I e.dw) (I e.le)).below d.size a8);have f:=ag l;have g:=ag n;go_wp2_with fail;have p:=dF _ _ _ _ f.o 9 rfl;refine dx (v:=aY #[aL e,true]) p ?_;exact⟨⟨e,by rw[aS]⟩,g.o⟩
def Q_(xs:ah aC){A:b_ Addr}{cap:J}(c:eb w 9 A xs.length cap (b4 xs))(av:xs.length<=1000)(bh:ev xs)(k:cU):aA 377 #[aq A xs.length cap,aL k] w λr w'=>r=.returned (.bool (mz xs k))/\Below w w w':=by
 have b':=(b7 w.heap.size w).alloc bx (af k 43);have d:=aX w (af k 43);have b:=ag (Q9 (w:=w.alloc (af k 43)) xs (c.keeps (S:=aG) ((Keeps.refl _ w).alloc _) (λ_ _ _=>id)) av bh k)
 go_in
 go_wp2_with fail;generalize World.alloc w _=ao at *;refine b.o.mono ?_;rintro r aD ⟨⟨e,rfl⟩,ak⟩;have a:=b'.trans (ak.mono b'.size);go_wp2_with fail;go_ret;exact⟨rfl,(a.alloc a.size (af e 45))⟩
def oo(xs:ah aC)(k:cU):J->J->J
 | 0,o=>o
 | f+1,o=>if mz xs {k with cg:=o}then oo xs k f (o+1)else o
def sj(xs:ah aC)(k:cU):J:=oo xs k 17 0
def sg(fr:aa)(e:aC):aC:={e with k:={e.k with fr:=fr,cg:=0}}
def oh(e:aC)(o:J):aC:={e with k:={e.k with cg:=o}}
def ih(fr:aa)(xs:ah aC)(e:aC):ah aC:=
 if fm (sg fr e)=false then xs else if 64<=xs.length\/15<sj xs (sg fr e).k then xs else lg xs (oh (sg fr e) (sj xs (sg fr e).k))
structure o5(w:aj)(base bl:J)(fr:aa)(v:ay)(xs:ah aC):al where
 hd:w.heap[bl]?=some (af #[I fr,v] 476 (0,0))
 row:w.ownsRow base 45 9 v xs.length (b4 xs)
 ne:v.ownBlock≠some bl
 dz:ev xs
 n:xs.length<=64
 rt:∀ e∈xs,fm e=true/\e.k.fr=fr
theorem o5.keep{base bl:J}{fr:aa}{v:ay}{xs:ah aC}{T:J->al}(h:o5 w base bl fr v xs)(hk:Keeps T w w')(h1:¬ T bl)(h2:∀ j,v.ownBlock=some j->¬ T j):o5 w' base bl fr v xs:=
 ⟨hk.heap h.hd h1,b5 h.row hk h2,h.ne,h.dz,h.n,h.rt⟩
def Wc{e:aC}(h:fm e=true):0<=e.k.cg/\e.k.cg<=15:=by
 unfold fm gb f_ at h;simp only[ep,gh]at h;omega
def Ff(w:aj)(base bl:J)(fr:aa)(v:ay)(ys:ah aC)(r:Ending)(w':aj):al:=
 (∃ (k:cU) (b0:aa),r=aY #[aL k,I b0])/\∃ v',o5 w' base bl fr v' ys/\Keeps (λj=>j=bl\/v.ownBlock=some j) w w'/\(v'.ownBlock=v.ownBlock\/∃ j,w.heap.size<=j/\v'.ownBlock=some j)
def WI(W:aj):(Instr.build 43 #[]).run prog W=.ok (aL z4) W:=aI
def xX{w:aj}{b:J}{t:TypeId}{bz b6 bw eC:ay}(h:w.heap[b]?=some (af #[bz,b6,bw,eC] t (0,0)))(a c v2 d:ay):((((w.setCell (ae b 0 ad) a).setCell (ae b 1 ad) c).setCell (ae b 2 ad) v2).setCell (ae b 3 ad) d).heap[b]?=some (af #[a,c,v2,d] t (0,0)):=by
 have:=b3 (b3 (b3 (b3 h 0 a) 1 c) 2 v2) 3 d
 simpa using this
structure o2(w:aj)(base bl:J)(fr:aa)(v:ay)(xs:ah aC)(e:aC)(W:aj):al where
 jn:o5 W base bl fr v xs
 bN:W.heap[w.heap.size]?=some (af e 45 (0,0))
 rs:W.heap[w.heap.size+1]?=some (af z4 43 (0,0))
 cu:Keeps aG w W
theorem o2.keep{base bl:J}{fr:aa}{v:ay}{xs:ah aC}{e:aC}{W W':aj}(h:o2 w base bl fr v xs e W)(hk:Keeps aG W W'):o2 w base bl fr v xs e W':=
 ⟨h.jn.keep hk id (λ_ _=>id),hk.heap h.bN id,hk.heap h.rs id,h.cu.trans hk⟩
def o2.oN{base bl:J}{fr:aa}{v:ay}{xs:ah aC}{e:aC}{W:aj}(h:o2 w base bl fr v xs e W)(b:bl<w.heap.size)(aU:∀ j,v.ownBlock=some j->j<w.heap.size)(o:J):o2 w base bl fr v xs (oh e o) (W.setCell (ae w 3 ad) (I o)):=by
 have k:=(Keeps.refl (λj=>j=w) W).setCell (p:=ae w 3 ad) rfl (I (o:aa));exact⟨h.jn.keep k U (λj a e=>by have:=aU j a;omega),(b3 h.bN 3 (I (o:aa))),k.heap h.rs U,cN h.cu k a8⟩
def QN(e:aC)(a b:J):oh (oh e a) b=oh e b:=rfl
def QO(e:aC)(h:e.k.cg=0):oh e 0=e:=by
 obtain⟨⟨f,m,k,o⟩,a,g,p,r,l⟩:=e;subst h;rfl
def RG(xs:ah aC)(k:cU)(f o:J)(h:mz xs {k with cg:=o}=true):oo xs k (f+1) o=oo xs k f (o+1):=by simp[oo,h]
def RF(xs:ah aC)(k:cU)(f o:J)(h:mz xs {k with cg:=o}=false):oo xs k (f+1) o=o:=by simp[oo,h]
def Jb{xs:ah aC}{e x:aC}(h:x∈lg xs e):x=e\/x∈xs:=by
 rcases eJ.1 h with h|h
 .exact .inr (Ad h)
 rcases ff.1 h with h|h
 .exact .inl h
 exact .inr (Ac h)
def J9{e:aC}{o:J}(h:fm e=true)(a:o<=15):fm (oh e o)=true:=by
 unfold fm gb f_ at h⊢;unfold oh;simp only[ep,gh]at h⊢;omega
def SA{xs:ah aC}{k:cU}{fr:aa}(b:∀ e∈xs,fm e=true/\e.k.fr=fr)(h:mz xs k=true):k.cg<=15:=by
 obtain⟨e,a,rfl⟩:=rZ h;exact(Wc (b e a).1).2
section
variable{P:Program}{o:Oper}{a:Act}{K:Act->aj->al}{Q:Exit->Act->aj->al}
end
def Lu{base:J}{A:b_ Addr}{n cap:J}{xs:ah aC}(h:w.ownsRow base 45 9 (aq A n cap) n (b4 xs)):eb w 9 A n cap (b4 xs):=by
 have⟨cG,c,b,a,_⟩:=cS h;cases b;exact a
def Vk{base bl:J}{fr:aa}{v:ay}{xs:ah aC}(h:o5 w base bl fr v xs)(aaO:base<=w.heap.size)(e:aC):aA 366 #[bl,aL e] w (Ff w base bl fr v (ih fr xs e)):=by
 have M:Keeps aG w ((w.alloc (af e 45)).alloc (af z4 43)):=((Keeps.refl _ w).alloc _).alloc _;have bz:=aO ((h.keep M id (λ_ _=>id)).hd);obtain⟨d,g'⟩:∃ d,sg fr e=d:=⟨_,rfl⟩;have lb:Keeps aG w ((w.alloc (af #[I fr,I e.k.em,I e.k.bp,I 0,I e.cy,I e.dd,I e.dP,I e.dw,I e.le] 45)).alloc (af z4 43)):=((Keeps.refl _ w).alloc _).alloc _;have aaZ:(w.alloc (af #[I fr,I e.k.em,I e.k.bp,I 0,I e.cy,I e.dd,I e.dP,I e.dw,I e.le] 45)).heap.size=w.heap.size+1:=aM;have aaL:=cw (aX w (af #[I fr,I e.k.em,I e.k.bp,I 0,I e.cy,I e.dd,I e.dP,I e.dw,I e.le] 45)) (af z4 43);have aar:=aX (w.alloc (af #[I fr,I e.k.em,I e.k.bp,I 0,I e.cy,I e.dd,I e.dP,I e.dw,I e.le] 45)) (af z4 43);rw[aaZ]at aar;have Q':=bT h.hd;have aaV:∀ j,v.ownBlock=some j->j<w.heap.size:=λj f=>by
  obtain⟨A,cap,rfl,_,aaH⟩:=cS h.row;cases A with
  | none=>simp[Value.ownBlock]at f
  | some x=>have:=aaH x rfl;rw[this.2.2]at f;cases f;exact this.2.1
 have R:o2 w base bl fr v xs d ((w.alloc (af #[I fr,I e.k.em,I e.k.bp,I 0,I e.cy,I e.dd,I e.dP,I e.dw,I e.le] 45)).alloc (af z4 43)):=by
  subst g';exact⟨h.keep lb id (λ_ _=>id),aaL,aar,lb⟩
 have aa_:Hid (d.k.fr=fr):=ag (by rw[<-g'];rfl);have aa':Hid (d.k.cg=0):=ag (by rw[<-g'];rfl);have t:ih fr xs e=if fm d=false then xs else if 64<=xs.length\/15<sj xs d.k then xs else lg xs (oh d (sj xs d.k)):=by unfold ih;rw[g']
 obtain⟨ys,aaY⟩:∃ ys,ih fr xs e=ys:=⟨_,rfl⟩;rw[aaY]at t⊢;have T':=ag t;have abm:=WI;have Y:=ag R;have V:=ag aaV;have aa8:=ag aaO;have H:=ag h;have sd:=ag Q';clear R aaL aar M lb aaZ aaV aaO h g' t aaY
 go_in
 go_upto_region 4 with fail
 clear bz Q';generalize World.alloc (World.alloc _ _) _=ao at *;obtain⟨c,an⟩:∃ c,fm d=c:=⟨_,rfl⟩;have Z:=ag (vS d ao);rw[an]at Z;have aaA:=aO Y.o.bN;cases c
 .go_wp2_with fail;refine aW Z.o λaD D=>?_;have z:=ag (Y.o.keep (Keeps.bJ (S:=aG) D a8));clear aaA Z Y D;have t:ys=xs:=by rw[T'.o,an];rfl
  subst t;have f0:=bP z.o.rs;have z0:=aO z.o.rs;have s':=xX z.o.rs (I 0) (I 0) (I 0) (I 0);have zd:=sr (Keeps.refl (λj=>j=w+1) aD) rfl (I 0) (I 0) (I 0) (I 0);have r':=ag s';have O:=ag zd;clear s' zd;go_wp2_with fail;have vl:=dF _ _ _ _ r'.o 4 rfl;refine dx (v:=aY #[aL z4,I 1]) vl ?_;exact⟨⟨⟨0,0,0,0⟩,1,rfl⟩,_,z.o.jn.keep O.o (by have:=sd.o;omega) (λj f e=>by have:=V.o j f;omega),cN (z.o.cu.mono λ_ _ e=>e.elim) O.o a8,.inl rfl⟩
 go_wp2_with fail;refine aW Z.o λaD D=>?_;have z:=ag (Y.o.keep (Keeps.bJ (S:=aG) D a8));clear aaA Z Y D;obtain⟨A,cap,rfl,_,aaH⟩:=cS H.o.row;go_wp2_with fail;go_loopg [] 17 (λg wr=>∃ o:J,g=17-o/\o<=16/\oo xs d.k (17-o) o=sj xs d.k/\o2 w base bl fr (aq A xs.length cap) xs (oh d o) wr)
 case atStart=>exact⟨0,rfl,U,rfl,by rw[QO d aa'.o];exact z.o⟩
 obtain⟨o,rfl,abn,T,R⟩:=hrel;obtain⟨a,L⟩:∃ a,oh d o=a:=⟨_,rfl⟩;rw[L]at R;have aau:Hid (a.k.cg=o):=ag (by rw[<-L];rfl);obtain⟨c,E⟩:∃ c,mz xs a.k=c:=⟨_,rfl⟩;have gf:mz xs {d.k with cg:=o}=c:=by rw[<-E,<-L];rfl
 have⟨G,b⟩:=h0 (F:=λW=>o2 w base bl fr (aq A xs.length cap) xs a W);have aaz:=λx:bs G=>aO (((b _).1 x.held).jn.hd);have M:=λx:bs G=>aO (((b _).1 x.held).bN);have s:G wr.drew:=(b _).2 (R.keep (Keeps.refl _ wr).drew);have X:Hid (∀ W,G W->aA 377 #[aq A xs.length cap,aL a.k] W λr w'=>r=.returned (.bool c)/\Below W W w'):=ag λW u=>by
  have h:=((b W).1 u).jn;have abd:=Lu h.row;rw[<-E];exact Q_ xs abd (by have:=h.n;omega) h.dz a.k
 have a':=ag (λ(W W':aj) (u:G W) (ak:Below W W W')=>(b W').2 (((b W).1 u).keep (Keeps.bJ ak a8)));have B:=ag (λ(W:aj) (u:G W)=>(b W).1 u);clear b R;go_wp2_with fail;refine cJ 7 ?_;refine cK (G) (.range 7) 0 7 ?_;refine dK (s) (.range 6) 1 ?_;generalize wr.drew=wd at *;refine kM 6 λK C=>?_;go_simp;refine aW (X.o wd s) λaD D=>?_;have aax:=a'.o _ _ s D;refine C _ _ (aax) ?_;clear C K;have y:=B.o _ aax;clear X a' B s aax D aaz M;cases c
 .have aaS:sj xs d.k=o:=by rw[<-T,show 17-o=(16-o)+1 by omega,RF xs d.k (16-o) o gf]
  have t:ys=if 64<=xs.length\/15<o then xs else lg xs a:=by rw[T'.o,an,aaS,L];rfl
  have aaB:=ag t;have gf:=ag gf;have T:=ag T;have E:=ag E;have av:=y.jn.n;have N:=bf (k:=3) y.bN rfl;simp only[Ej,Ei,xf]at N;rw[aau.o]at N;have aaz:=aO y.jn.hd;have Q:=ag y;have aa9:=ag L;clear y t aaS L;by_cases abl:xs.length=64
  .exact MY
  by_cases aaG:15<o
  .exact MY
  have t:ys=lg xs a:=by rw[aaB.o,aB U]
  subst t;clear aaB T';go_wp2_with fail;clear N aaz z;have⟨G,b⟩:=h0 (F:=λW=>o2 w base bl fr (aq A xs.length cap) xs a W);have m':=λx:bs G=>aO (((b _).1 x.held).jn.hd);have M:=λx:bs G=>aO (((b _).1 x.held).bN);have X:Hid (∀ W,G W->aA 378 #[aq A xs.length cap,aL a,.func (.func 379) #[] #[]] W λr w'=>r=aY #[I (e3 xs a.k:J),false]/\Below W W w'):=ag λW u=>by
   have h:=((b W).1 u).jn
   have:=Q4 (w:=W) xs (Lu h.row) (by have:=h.n;omega) a (e3 xs a.k) (yP xs a.k) (λi ax aas=>wv xs a.k i ax aas) (λi ax aas=>Cf h.dz a.k i ax aas)
   rw[B2 h.dz,E.o]at this;exact this
  have a':=ag (λ(W W':aj) (u:G W) (ak:Below W W W')=>(b W').2 (((b W).1 u).keep (Keeps.bJ ak a8)));have B:=ag (λ(W:aj) (u:G W)=>(b W).1 u);have aaK:=ag ((b aD.drew).2 (Q.o.keep (Keeps.refl _ aD).drew));clear b;have abe:=yP xs a.k;generalize aaQ:e3 xs a.k=m at *;have s:=aaK.o;clear aaK;refine cJ 11 ?_;refine cK (G) (.range 11) 0 11 ?_;refine dK (s) (.range 5) 6 ?_;generalize aD.drew=wd at *;refine eH 5 λK C=>?_;go_simp;refine aW (X.o wd s) λbq aaM=>?_;have St:=a'.o _ _ s aaM;refine C _ _ (St) ?_;clear C K;refine dK (St) [6,7,8,9,10] 0 ?_;refine ox ?_;have aaI:=B.o _ St;clear X a' B s St aaM Q;clear m' M;go_wp2_with fail;have ab:=aaI.keep (Keeps.refl _ bq).drew;have Aw:=ab.keep ((bb bq.drew).alloc (af a 45));obtain⟨G,b⟩:=h0 (F:=λW=>(W.heap[bl]?=some (af #[I fr,aq A xs.length cap] 476 (0,0))/\W.heap[w.heap.size]?=some (af a 45 (0,0))));have m':=λx:bs G=>aO (((b _).1 x.held).1);have M:∀ x:bs G,x.to.cell? (ae w 0 ad)=some (I a.k.fr):=λx=>bf (k:=0) ((b _).1 x.held).2 rfl;have lb:∀ x:bs G,x.to.cell? (ae w 1 ad)=some (I a.k.em):=λx=>bf (k:=1) ((b _).1 x.held).2 rfl;have abg:∀ x:bs G,x.to.cell? (ae w 2 ad)=some (I a.k.bp):=λx=>bf (k:=2) ((b _).1 x.held).2 rfl;have N:∀ x:bs G,x.to.cell? (ae w 3 ad)=some (I a.k.cg):=λx=>bf (k:=3) ((b _).1 x.held).2 rfl;have cP:∀ x:bs G,x.to.cell? (ae w 4 ad)=some (I a.cy):=λx=>bf (k:=4) ((b _).1 x.held).2 rfl;have abh:∀ x:bs G,x.to.cell? (ae w 5 ad)=some (I a.dd):=λx=>bf (k:=5) ((b _).1 x.held).2 rfl;have abi:∀ x:bs G,x.to.cell? (ae w 6 ad)=some (I a.dP):=λx=>bf (k:=6) ((b _).1 x.held).2 rfl;have Tq:∀ x:bs G,x.to.cell? (ae w 7 ad)=some (I a.dw):=λx=>bf (k:=7) ((b _).1 x.held).2 rfl;have abj:∀ x:bs G,x.to.cell? (ae w 8 ad)=some (I a.le):=λx=>bf (k:=8) ((b _).1 x.held).2 rfl;have s:=(b _).2 ⟨ab.jn.hd,ab.bN⟩;have aaW:=(b _).2 ⟨Aw.jn.hd,Aw.bN⟩;have B:=ag λW=>(b W).2;have aaR:=aX bq.drew (af a 45);have zp:=ag Aw;have aaJ:=ag ab.cu.size;clear b aaI ab Aw;refine cJ 12 ?_;refine cK (G) (.range 9) 3 9 ?_;refine dK (s) (.range 7) 2 ?_;generalize bq.drew=aa4 at *;have aaC:=ag (QW (base:=base) xs (aq A xs.length cap) zp.o.jn.row (by have:=zp.o.cu.size;have:=aa8.o;omega) U m abe a aa4.heap.size aaR (λe=>by have:=V.o _ e;have:=aaJ.o;omega));have aaD:=ag aaQ;clear aaR aaQ aaJ;refine hs 7 aaW ?_;clear m' M lb abg N cP abh abi Tq abj s aaW;generalize aa4.alloc (af a 45)=abo at *;have l:=zp;refine jG 8 λK C=>?_;go_simp;refine aaC.o.mono ?_;rintro r ps ⟨v',rfl,aav,P,q⟩;obtain⟨TS,aa0,bw,aa5⟩:∃ TS aa0 bw,v'=aq TS aa0 bw:=by
   have⟨TS,bw,h,_,_⟩:=cS aav;exact⟨_,_,_,h⟩
  have aaU:∀ j,v'.ownBlock=some j->j<w.heap.size\/w.heap.size+2<=j:=λj f=>by
   rcases q with q|q
   .rw[q]at f;exact .inl (V.out j f)
   rw[q]at f;cases f;have h1:=l.out.cu.size;have h2:=bT l.out.rs;exact .inr U
  have aaX:=B.out ps ⟨P.heap l.out.jn.hd (λe=>l.out.jn.ne e),P.heap l.out.bN (λe=>E6)⟩;clear aaC B;refine C _ _ (aaX) ?_;clear C K;clear aaX;refine cK (λW=>0<=W.heap.size) [9,10,11] 0 3 ?_;refine hs 9 (de _) ?_;refine hs 10 (de _) ?_;have Q':=sd.out;have aat:=l.out.jn.ne;have CW:=P.heap l.out.jn.hd (λe=>aat e);have aaE:=P.heap l.out.bN (λe=>E6);have aa2:=P.heap l.out.rs (λe=>E6);have m':=aO CW;have g1:=bP CW;have l':=(Keeps.refl (λj=>j=bl) ps).setCell (p:=ae bl 1 ad) rfl v';have aaP:=b3 CW 1 v';have aaF:=l'.heap aaE U;have aa3:=l'.heap aa2 U;have aaw:v'.ownBlock≠some bl:=λe=>by
   rcases q with q|q
   .rw[q]at e;exact aat e
   rw[q]at e;cases e;have h1:=l.out.cu.size;omega
  have abf:(lg xs a).length=xs.length+1:=by unfold lg;rw[aaD.out];simp only[cx,dy,gB,gg];omega
  have aaT:(ps.setCell (ae bl 1 ad) v').ownsRow base 45 9 v' (lg xs a).length (b4 (lg xs a)):=by
   have h:=b5 aav l' (λj f e=>aaw (by rw[f,e]));unfold lg;rw[aaD.out];exact h
  have aa1:o5 (ps.setCell (ae bl 1 ad) v') base bl fr v' (lg xs a):=by
   refine⟨aaP,aaT,aaw,Iz l.out.jn.dz a E.out,U,λx aay=>?_⟩;rcases Jb aay with rfl|aay
   .rw[<-aa9.out];exact⟨J9 an U,aa_.out⟩
   exact l.out.jn.rt x aay
  have Tq:Keeps (λj=>j=bl\/(aq A xs.length cap).ownBlock=some j) w (ps.setCell (ae bl 1 ad) v'):=
   ((l.out.cu.mono λ_ _ e=>e.elim).trans (P.mono λ_ _ e=>.inr e)).trans (l'.mono λ_ _ e=>.inl e)
  have aaN:v'.ownBlock=(aq A xs.length cap).ownBlock\/∃ j,w.heap.size<=j/\v'.ownBlock=some j:=q.imp id λe=>⟨_,l.out.cu.size,e⟩;have abc:=ag aa1;have abb:=ag Tq;have aa7:=ag aaN;have aba:=ag aaU;have aa6:=ag aaF;have V':=ag aa3;clear aa1 Tq aaN aaU aaF aa3 aaE aa2 CW aaP l' aaT aav P q abf l zp aat;subst aa5;refine h9 11 (de _) ?_;clear m' g1 aaw Q';generalize World.setCell _ _ _=abk at *;have aaA:=aO aa6.o;have f0:=bP V'.o;have z0:=aO V'.o;have r':=ag (xX V'.o (I a.k.fr) (I a.k.em) (I a.k.bp) (I a.k.cg));have O:=ag (sr (Keeps.refl (λj=>j=w+1) abk) rfl (I a.k.fr) (I a.k.em) (I a.k.bp) (I a.k.cg));go_wp2_with fail;have vl:=dF _ _ _ _ r'.o 4 rfl;refine dx (v:=aY #[aL a.k,I 0]) vl ?_;exact⟨⟨a.k,0,rfl⟩,_,abc.o.keep O.o (by have:=sd.out;omega) (λj f e=>by have:=aba.o j f;omega),cN abb.o O.o a8,aa7.o⟩
 have aaG:=SA y.jn.rt E;rw[aau.out]at aaG;have N:=bf (k:=3) y.bN rfl;simp only[Ej,Ei,xf]at N;rw[aau.out]at N;have f3:=bP y.bN;have aaq:=ag (y.oN sd.out V.out (o+1));rw[<-L,QN]at aaq;have aZ:=ag (RG xs d.k (16-o) o gf);have T:=ag T;clear y gf L E;go_wp2_with fail;go_roundg (17-(o+1))
 case rel=>exact⟨o+1,rfl,U,by rw[<-T.o,show 17-o=(16-o)+1 by omega,aZ.o,show 17-(o+1)=16-o by omega],by push_cast at aaq;exact aaq.o⟩
 omega
variable{bo g bl:J}{v:J->aa}{fr:aa}{xs:ah aC}
def JE{base p:J}{cQ:ay}(h:o5 w base p fr cQ xs):∀ j,cQ.ownBlock=some j->base<=j/\j<w.heap.size:=λj a=>by
 obtain⟨A,cap,rfl,_,b⟩:=cS h.row;cases A with
 | none=>simp[Value.ownBlock]at a
 | some x=>have:=b x rfl;rw[this.2.2]at a;cases a;exact⟨this.1,this.2.1⟩
structure St(w:aj)(bo g bl:J)(v:J->aa)(fr:aa)(xs:ah aC):al where
 bd:w.heap[g]?=some (af (hf v bl) 458 (0,0))
 wF:∃ cQ,o5 w bo bl fr cQ xs/\cQ.ownBlock≠some g
 ne:g≠bl
 pk:bo<=g
 rh:bo<=bl
namespace St
theorem cell(h:St w bo g bl v fr xs)(k:J)(hk:k<60)(q:IntKind)(a:dA k=q):w.cell? (ae g k ad)=some (.int q (v k)):=by
 subst a;exact bf h.bd (zo v bl k hk)
def free(h:St w bo g bl v fr xs)(k:J):w.frozen? (ae g k ad)=false:=fO h.bd k
def keeps{S:J->al}(h:St w bo g bl v fr xs)(hk:Keeps S w w')(h1:∀ j,bo<=j->¬ S j):St w' bo g bl v fr xs:=by
 have⟨cQ,au,av⟩:=h.wF;exact⟨hk.heap h.bd (h1 _ h.pk),⟨cQ,au.keep hk (h1 _ h.rh) (λj a=>h1 j (JE au j a).1),av⟩,h.ne,h.pk,h.rh⟩
def keep(h:St w bo g bl v fr xs)(hk:Keeps aG w w'):St w' bo g bl v fr xs:=h.keeps hk (λ_ _=>id)
def set(h:St w bo g bl v fr xs)(k:J)(hk:k<60)(q:IntKind)(b:dA k=q)(x:aa):St (w.setCell (ae g k ad) (.int q x)) bo g bl (bK v k x) fr xs:=by
 subst b;obtain⟨cQ,au,av⟩:=h.wF;exact⟨by rw[b3 h.bd k,XF v bl k x hk],⟨cQ,au.keep ((Keeps.refl (λj=>j=g) w).setCell (p:=ae g k ad) rfl (.int (dA k) x)) (gE h.ne) (λj a e=>av (by rw[a,e])),av⟩,h.ne,h.pk,h.rh⟩
def low(h:St w bo g bl v fr xs):bo<=w.heap.size:=by have:=bT h.bd;have:=h.pk;omega
end St
def y1(em x:aa):aa:=if 0<em then max (-32768) (min (x*32768 / 4194304) 32768)else 0
def kk(em bp a dd dw le x:aa):aC:=⟨⟨0,em,bp,0⟩,a,dd,y1 em x,dw,le⟩
def qv(h:St w bo g bl v fr xs)(em bp b dd dw le x:aa)(s:bm x):aA 352 #[g,I em,I bp,I b,I dd,I dw,I le,ai x] w λe w'=>e=aY #[]/\St w' bo g bl v fr (ih fr xs (kk em bp b dd dw le x))/\Keeps (λj=>bo<=j) w w':=by
 have au:=bf h.bd (by rw[hf,pQ,aE (et v).symm]);obtain⟨cQ,q,av⟩:=h.wF;obtain⟨ys,t⟩:∃ ys,ih fr xs (kk em bp b dd dw le x)=ys:=⟨_,rfl⟩;have u:aA 366 #[bl,aL #[I 0,I em,I bp,I 0,I b,I dd,I (y1 em x),I dw,I le]] w (Ff w bo bl fr cQ ys):=by
  rw[<-t];exact Vk q h.low (kk em bp b dd dw le x)
 have f:=ag av;have n:=ag (JE q);have H:=ag h;have d:=ag u;have z:=s.1;have A:=s.2;rw[t];by_cases p:0<em
 .rw[show y1 em x=_ from aE p]at d
  go_in
  go_wp2_with fail;refine d.o.mono ?_;rintro r aD ⟨⟨k,b0,rfl⟩,m,i,c,a⟩;have h2:St aD bo g bl v fr ys:=⟨c.heap H.out.bd (λe=>e.elim H.out.ne f.out),⟨m,i,λe=>by
   rcases a with a|⟨j,y,a⟩
   .exact f.out (by rw[<-a,e])
   .rw[a]at e;cases e;have:=bT H.out.bd;omega⟩,H.out.ne,H.out.pk,H.out.rh⟩
  have l:=c.mono (T:=λj=>bo<=j) (λj _ e=>e.elim (λe=>by rw[e];exact H.out.rh) (λe=>(n.out j e).1));go_wp2;go_end0;exact⟨rfl,h2,l⟩
 rw[show y1 em x=_ from aB p]at d
 go_in
 go_wp2_with fail;refine d.out.mono ?_;rintro r aD ⟨⟨k,b0,rfl⟩,m,i,c,a⟩;have h2:St aD bo g bl v fr ys:=⟨c.heap H.out.bd (λe=>e.elim H.out.ne f.out),⟨m,i,λe=>by
  rcases a with a|⟨j,y,a⟩
  .exact f.out (by rw[<-a,e])
  .rw[a]at e;cases e;have:=bT H.out.bd;omega⟩,H.out.ne,H.out.pk,H.out.rh⟩
 have l:=c.mono (T:=λj=>bo<=j) (λj _ e=>e.elim (λe=>by rw[e];exact H.out.rh) (λe=>(n.out j e).1));go_wp2;go_end0;exact⟨rfl,h2,l⟩
def eo(bY b:aa):a1:=bits .and .u8 bY b != 0
def tX(i b:aa)(w:aj):aA 349 #[aH i,aH b] w λe w'=>e=.returned (.bool (eo i b))/\w=w':=by
 go_in
 go_wp2;go_ret;exact⟨rfl,rfl⟩
def h5(f l:aa):aa:=eu (sc f) l
def h6(f l:aa):aa:=eu (nH f) l
def yx(f l:aa)(h:bm l)(w:aj):aA 362 #[I f,ai l] w λe w'=>e=.returned (aL #[ai (h5 f l),ai (h6 f l)])/\Below w w w':=by
 have b':=(b7 w.heap.size w).alloc bx (af c_ 91);unfold h5 h6
 go_in
 go_wp2_with fail;refine bE ((YS f) _) ?_;go_wp2_with fail;refine bE ((Lj f) _) ?_;go_wp2_with fail;refine aW (((C8 (sc f) (nH f) l (KV _) (KV f) h)) _) λao h1=>?_;have a:=(Keeps.bJ (S:=aG) h1 a8).heap (aX w (af c_ 91)) id;generalize i:eu (sc f) l=x at *;generalize k:eu (nH f) l=y at *;have g:=ag k;have g0:=bP a;have m:=aO a;have b:=b'.trans (h1.mono b'.size);have c:=ag (b3 (b3 a 0 (ai x)) 1 (ai y));have d:=ag (b.trans ((((Keeps.refl (λj=>j=w) ao).setCell (p:=ae w 0 ad) rfl (ai x)).setCell (p:=ae w 1 ad) rfl (ai y)).below b.size a8));go_wp2_with fail;refine dx (v:=aL #[ai x,ai y]) (dF _ _ _ _ c.o 2 rfl) ?_;exact⟨by rw[i,g.o],d.o⟩
end Go.Proofs.YtalagblioepadaaGreatDoor
