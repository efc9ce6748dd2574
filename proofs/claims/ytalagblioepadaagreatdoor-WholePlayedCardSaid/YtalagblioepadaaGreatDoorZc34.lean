/- The proof, part 34. -/
import Derived.Test.YtalagblioepadaaGreatDoorZc33
import Derived.Shelf.Spec.SlicesInsertGrow
namespace Go.Proofs.YtalagblioepadaaGreatDoor
set_option linter.all false
open Proofs.Tryz List Go.RowKit Go.Shelf Go.Lib
set_option maxRecDepth 100000
set_option maxHeartbeats 1000000
def xj{p:ak}(h:p:=by simpa using c):p:=h
def uZ{p:ak}(h:p:=by simp[Act.eval,Act.put]):p:=h
def Ey{p:ak}(h:p:=by have:=V.out _ e;omega):p:=h
def MB{p:ak}(h:p:=by rw[c,show Nat.min 1 (xs.length+1-i)=1 from oG U]):p:=h
def Mm{p:ak}(h:p:=by
 have t:ys=xs:=by rw[ZR.o,aD U]
 subst t;have f0:=bI Q.o.rs;have z0:=aS Q.o.rs;have s':=xF Q.o.rs (I 0) (I 0) (I 0) (I 0);have zd:=r5 (Keeps.refl (λj=>j=w+1) aC) rfl (I 0) (I 0) (I 0) (I 0);have r':=af s';have O:=af zd;clear s' zd;go_wp2_with fail;have vl:=dx _ _ _ _ r'.o 4 rfl;refine dq (v:=aV #[aQ z4,I 8]) vl ?_;exact⟨⟨⟨0,0,0,0⟩,8,rfl⟩,_,Q.o.jb.keep O.o (by have:=sd.o;omega) (λj f e=>by have:=V.o j f;omega),cL (Q.o.cv.mono λ_ _ e=>e.elim) O.o a7,.inl rfl⟩
 ):p:=h
def MX{p:ak}(h:p:=by
 simp only[p4];by_cases bY:eV a.fr b.fr=0
 .rw[aD bY];by_cases bo:eV a.em b.em=0
  .rw[aD bo];by_cases eo:eV a.bL b.bL=0
   .rw[aD eo];by_cases dM:eV a.cq b.cq=0
    .rw[aD dM];omega
    rw[az dM];omega
   rw[az eo];omega
  rw[az bo];omega
 rw[az bY];omega
 ):p:=h
def NH{p:ak}(h:p:=by
 rw[<-nw,q,dD,l3 U,f,show i*9+j-i*9=j by omega,jU (hp.1 r).1];exact r
 ):p:=h
variable{w w':ai}
def y0{P:Program}(w:ai)(h s ty d:TypeId)(k g o c l:J)(a:Addr)(f r:J)(b:a6 ax)(t:TypeId)(cs:ah ax)(q:P.underlying h=some (.slice d))(av:(P.info? d).map (·.size)=some k)(aZ:w.heap[g]?=some (ae b t (0,0)))(ar:cs.length=Nat.min f c*k)(n:∀ j v,cs[j]?=some v->w.cell? (a.add j)=some v)(m:o+cs.length<=b.size)(h1:∀ v∈cs,v.oneCell'=true):(Builtin.copy_ #[h,s] ty #[aq (some (ad g o ab)) c l,aq (some a) f r]).run P w =
   .ok (goInt (Nat.min f c:J)) (w.setRow g (b.toList.take o++cs++b.toList.drop (o+cs.length)).toArray):=by
 have p:=DB P g o t cs 0 b w aZ (by simpa using m) h1;cases e:P.info? d with
 | none=>simp[e]at av
 | some i=>
  have aw:i.size=k:=by simpa[e]using av
  simp[Builtin.copy_,rp q,Builtin.lenOf,Builtin.firstCells,sizeOf,typeInfo,e,aw,<-ar,(wU (P:=P) w a cs n),p]
def FL{b:J}{cs:a6 ax}{t:TypeId}(h:w.heap[b]?=some (ae cs t (0,0))):w.shape? b=some (t,cs.size):=by
 unfold World.shape?;rw[h]
def Um{dH g o dB fh lb fD:J}{cs a:a6 ax}(hne:dH≠g)(aW:w.heap[dH]?=some (ae cs 45 (0,0)))(aZ:w.heap[g]?=some (ae a 45 (0,0)))(al:a.size≠0):(callFunc 386 #[aq (some (ad dH 0 ab)) dB fh,aq (some (ad g o ab)) lb fD]).run prog w=.ok (.value (.bool false)) w:=by
 have b:∀ w,(Go.sizeOf 45).run prog w=.ok 9 w:=λw=>aH
 rw[run_callFunc_extern func386 aH aH aH (e:=Extern.SlicesOverlaps.overlaps #[66,66] #[4]) aH,
  Lib.run_overlaps_apart w 66 4 45 underlying66 9 b (ad dH 0 ab) (ad g o ab) dB fh lb fD hne 45 45 cs.size a.size (FL aW) (FL aZ) al (fx aW 0) (fx aW _)]
 rfl
def ym:∃ i,prog.info? 45=some i/\i.zero=some (aQ z9)/\i.size=9/\i.bytes=72:=by
 have h:(prog.info? 45).map (λi=>(i.zero,i.size,i.bytes))=some (some (aQ z9),9,72):=aH;cases aJ:prog.info? 45 with
 | none=>rw[aJ]at h;cases h
 | some i=>rw[aJ]at h;simp only[pw,hr,jA]at h;exact⟨i,rfl,h⟩
def rX(l:ah aB):∀ u∈bX l,u.oneCell'=true:=by
 intro u b;obtain⟨e,_,a⟩:=uO.1 b;simp only[aB.br,e6,uP,or_false]at a;rcases a with rfl|rfl|rfl|rfl|rfl|rfl|rfl|rfl|rfl<;>rfl
def vG(e:aB):bX [e]=e.br:=by simp[bX]
def vF(a b:ah aB):bX (a++b)=bX a++bX b:=by simp[bX]
def GJ(e:aB)(b:ah aB):bX (e :: b)=e.br++bX b:=by simp[bX]
def xn(w:ai)(base:J)(v:ax)(ys:ah aB)(r:Ending)(w':ai):ak:=
 ∃ v',r=.returned v'/\w'.ownsRow base 45 9 v' ys.length (bX ys)/\Keeps (λj=>v.ownBlock=some j) w w'/\(v'.ownBlock=v.ownBlock\/v'.ownBlock=some w.heap.size)
def Qf{base:J}(xs:ah aB)(v:ax)(a:w.ownsRow base 45 9 v xs.length (bX xs))(g:base<=w.heap.size)(ar:xs.length<=1000)(e:aB)(dH:J)(aW:w.heap[dH]?=some (ae e 45 (0,0))):aA 380 #[v,I xs.length,aq (some (ad dH 0 ab)) 1 1] w (xn w base v (xs++[e])):=by
 obtain⟨q,i,m,n,p⟩:=ym;have d:=af a;obtain⟨A,cap,rfl,_,_⟩:=cS a;have f:dR w 9 (some (ad dH 0 ab)) 1 1 e.br:=uD (xs:=e.br) aW rfl jY;have h1:∀ u∈e.br,u.oneCell'=true:=by rw[<-vG];exact rX [e]
 have c:=af f;have b:=af h1
 go_in
 go_wp2_with (at_builtin;refine Db _ rfl (.tmp 23) (.tmp 24) _ rfl base 45 q _ 9 72 underlying66 i m n p rfl U _ xs.length (bX xs) rfl d.o (some (ad dH 0 ab)) 1 1 e.br rfl c.o b.o pB U g ?_)
 all_goals
  intro r aC l h k;go_wp2_with fail;go_ret;refine⟨r,rfl,?_,(Keeps.refl _ w).grown h (λj e=>.inl (by revert e;cases A<;>exact id)),by revert k;cases A<;>exact id⟩;rw[vF,vG,cx];exact l
def Sq{α:Type}{L X D E R:List α}(a:L=X++D++R)(c:E.length<=R.length):((((L.take (X.length+E.length)++D++L.drop (X.length+E.length+D.length)).take X.length++E++(L.take (X.length+E.length)++D++L.drop (X.length+E.length+D.length)).drop (X.length+E.length))).take (X.length+E.length+D.length)=X++E++D):=by
 have b:(L.take (X.length+E.length)).length=X.length+E.length:=by
  rw[gn,a];simp only[cx];omega
 have h1:(L.take (X.length+E.length)++D++L.drop (X.length+E.length+D.length)).take X.length=X:=by
  rw[dD,zM U,take_take,oG U,a,dD,zN]
 have h2:(L.take (X.length+E.length)++D++L.drop (X.length+E.length+D.length)).drop (X.length+E.length)=D++L.drop (X.length+E.length+D.length):=by
  rw[dD,wW b]
 rw[h1,h2,<-dD,rB (by simp only[cx])]
def Qh{base:J}(xs:ah aB)(g cap:J)(d:a6 ax)(M:base<=g)(p:w.heap[g]?=some (ae d 45 (0,0)))(N:xs.length+1<=cap)(O:cap<=maxLen)(R:d.size=cap*9)(F:d.toList.take (xs.length*9)=bX xs)(ar:xs.length<=1000)(i:J)(aw:i<xs.length)(e:aB)(dH:J)(aW:w.heap[dH]?=some (ae e 45 (0,0)))(hne:dH≠g):aA 380 #[aq (some (ad g 0 ab)) xs.length cap,I i,aq (some (ad dH 0 ab)) 1 1] w (xn w base (aq (some (ad g 0 ab)) xs.length cap) (xs.take i++e :: xs.drop i)):=by
 have q:d.toList=bX (xs.take i)++bX (xs.drop i)++d.toList.drop (xs.length*9):=by
  rw[<-vF,l5,<-F,l5]
 have f:(bX (xs.take i)).length=i*9:=by rw[tx,gn,oG U]
 have k:(bX (xs.drop i)).length=(xs.length-i)*9:=by rw[tx,gm]
 have c:e.br.length=9:=rfl;have t:d.toList.length=cap*9:=by rw[pA];exact R
 have y:∀ j u,(bX (xs.drop i))[j]?=some u->d[i*9+j]?=some u:=λj u r=>by
  exact NH
 have⟨b,m⟩:=cO (d.toList.take ((i+1)*9)++bX (xs.drop i)++d.toList.drop ((i+1)*9+(bX (xs.drop i)).length));have C:b.length=cap*9:=by
  rw[m];simp only[cx,gn,gm,t,k];omega
 have P:∀ ty h dc,(Builtin.copy_ #[66,66] ty #[aq (some (ad g ((i+1)*9) ab)) (xs.length-i) h,aq (some (ad g (i*9) ab)) (xs.length+1-i) dc]).run prog w.drew=.ok (goInt (Nat.min (xs.length+1-i) (xs.length-i):J)) (w.drew.setRow g b.toArray):=λty h dc=>by
  rw[m];exact y0 w.drew 66 66 ty 45 9 g ((i+1)*9) _ h (ad g (i*9) ab) _ dc d 45 (bX (xs.drop i)) underlying66 aH p (by rw[k,show Nat.min (xs.length+1-i) (xs.length-i)=xs.length-i from DX U]) (λj v x=>by rw[h3];exact bb (w:=w.drew) p (y j v x)) (by rw[k];omega) (rX _)
 have s:=fl w.drew g d b.toArray 45 p;have⟨l,n⟩:=cO (b.take (i*9)++e.br++b.drop (i*9+9));have z:∀ ty h,(Builtin.copy_ #[66,66] ty #[aq (some (ad g (i*9) ab)) (xs.length+1-i) h,aq (some (ad dH 0 ab)) 1 1]).run prog (w.drew.setRow g b.toArray)=.ok (goInt (Nat.min 1 (xs.length+1-i):J)) ((w.drew.setRow g b.toArray).setRow g l.toArray):=λty h=>by
  rw[n];exact y0 (w.drew.setRow g b.toArray) 66 66 ty 45 9 g (i*9) _ h (ad dH 0 ab) 1 1 b.toArray 45 e.br underlying66 aH s MB (λj v x=>by rw[h3,gC];exact bb ((iG w.drew g b.toArray).heap (a:=w.drew) aW hne) (by rw[<-nw];exact x)) (by rw[c];simp only[gW];omega) (by rw[<-vG];exact rX [e])
 have hfin:((w.drew.setRow g b.toArray).setRow g l.toArray).ownsRow base 45 9 (aq (some (ad g 0 ab)) (xs.length+1) cap) (xs.length+1) (bX (xs.take i++e :: xs.drop i)):=by
  have aO:=Sq (E:=e.br) q (by rw[c,gm,t];omega);rw[f,c,show i*9+9=(i+1)*9 by omega,<-m,show(i+1)*9=i*9+9 by omega,<-n]at aO;have A:bX (xs.take i++e :: xs.drop i)=bX (xs.take i)++e.br++bX (xs.drop i):=by rw[vF,GJ,dD]
  refine⟨by rw[A];simp only[cx,f,c,k];omega,.inr ⟨g,cap,l.toArray,rfl,M,fl _ g _ l.toArray 45 s,N,O,?_,?_⟩⟩
  .rw[n];simp only[gW,cx,gn,gm,C,c];omega
  rw[A,<-aO,k]
  congr 1
  omega
 have B:Keeps (λj=>(aq (some (ad g 0 ab)) xs.length cap).ownBlock=some j) w ((w.drew.setRow g b.toArray).setRow g l.toArray):=
  (((Keeps.refl (λj=>j=g) w).drew.trans (iG _ g _)).trans (iG _ g _)).mono λj _ e=>by rw[e];rfl
 have D:(xs.take i++e :: xs.drop i).length=xs.length+1:=by
  simp only[cx,gn,ds,gm];omega
 have H:=af hfin;have K:=af B;have L:=af D;have G:=af z;have Q:∀ o lb fD,(callFunc 386 #[aq (some (ad dH 0 ab)) 1 1,aq (some (ad g o ab)) lb fD]).run prog w=.ok (.value (.bool false)) w:=λo lb fD=>Um hne aW p U;have a':prog.follows .mixedOrders=true:=aH;have S:(0:aa)<=(i:aa)+1:=U;have X:i<=xs.length:=U;have Y:((i:aa)+1).toNat=i+1:=U;have Z:IntKind.i64.wrap ((i:aa)+1)=(i:aa)+1:=ev _ U;have T:¬ (cap=i+1):=U;have V:(i:aa)<=(xs.length:aa)+1:=U;have W:¬ (cap=i):=U;clear hfin B z s y q f k c t C m n F D
 go_in
 go_wp2_with simp only[Q]
 go_region_law_o (refine step_copy_runI rfl _ _ 66 66 rfl _ _ uZ uZ (P _ _ _) ?_)
 go_wp2_with fail;simp only[G.o,hq];go_wp2_with fail;go_ret;exact⟨_,rfl,by rw[L.o];exact H.o,K.o,.inl rfl⟩
def Sr{α:Type}{X D E R:List α}:((((X++R).take X.length++E++(X++R).drop (X.length+E.length)).take (X.length+E.length)++D++((X++R).take X.length++E++(X++R).drop (X.length+E.length)).drop (X.length+E.length+D.length)).take (X.length+E.length+D.length))=X++E++D:=by
 have h:((X++R).take X.length++E++(X++R).drop (X.length+E.length)).take (X.length+E.length)=X++E:=by
  rw[zN,rB (by simp only[cx])]
 rw[h,rB (by simp only[cx])]
def Qg{base:J}(m':base<=w.heap.size)(xs:ah aB)(g cap:J)(k:a6 ax)(F:w.heap[g]?=some (ae k 45 (0,0)))(ys:¬ xs.length+1<=cap)(Aw:xs.length<=cap)(CW:k.size=cap*9)(fr:k.toList.take (xs.length*9)=bX xs)(ar:xs.length<=1000)(i:J)(aw:i<xs.length)(e:aB)(dH:J)(aW:w.heap[dH]?=some (ae e 45 (0,0))):aA 380 #[aq (some (ad g 0 ab)) xs.length cap,I i,aq (some (ad dH 0 ab)) 1 1] w (xn w base (aq (some (ad g 0 ab)) xs.length cap) (xs.take i++e :: xs.drop i)):=by
 obtain⟨i0,W,gf,L,d⟩:=ym;obtain rfl:cap=xs.length:=U;have q:k.toList=bX (xs.take i)++bX (xs.drop i)++k.toList.drop (xs.length*9):=by
  rw[<-vF,l5,<-fr,l5]
 have f:(bX (xs.take i)).length=i*9:=by rw[tx,gn,oG U]
 have m:(bX (xs.drop i)).length=(xs.length-i)*9:=by rw[tx,gm]
 have c:e.br.length=9:=rfl;have S:∀ j u,(bX (xs.take i))[j]?=some u->k[j]?=some u:=λj u r=>by
  rw[<-nw,q,dD,jU (hp.1 r).1];exact r
 have Q:∀ j u,(bX (xs.drop i))[j]?=some u->k[i*9+j]?=some u:=λj u r=>by
  exact NH
 have hold:(Builtin.firstCells i0.size i (aq (some (ad g 0 ab)) i xs.length)).run prog w.drew=.ok (bX (xs.take i)).toArray w.drew:=by
  rw[L];exact run_firstCells_some (w:=w.drew) 9 i (ad g 0 ab) i xs.length (bX (xs.take i)) f (λj v p=>by rw[h3,gC];exact bb (w:=w.drew) F (S j v p))
 have s:=λty=>run_append_grow_zeros (P:=prog) (ty:=ty) w 66 3 45 i0 _ .i64 .i64 underlying66 underlying3 W gf (some (ad g 0 ab)) i xs.length (bX (xs.take i)) hold (xs.length+1-i) U (by rw[L];omega) U U vd (by rw[d,show i+(xs.length+1-i)=xs.length+1 by omega];exact growslice_fits U U);rw[show i+(xs.length+1-i)=xs.length+1 by omega]at s;have⟨G,z⟩:=cO (grownCap w (xs.length+1) xs.length 45);have mv:xs.length+1<=G:=by rw[z];exact Dy w _ _ _
 have M:G<=maxLen:=by rw[z];exact grownCap_le_maxLen w _ _ _ jY
 rw[<-z]at s;obtain⟨R,N,A⟩:∃ R:ah ax,(bX (xs.take i)).toArray++Builtin.zeroCells (aQ z9).cells (xs.length+1-i)++Builtin.zeroCells (aQ z9).cells (G-(xs.length+1))=(bX (xs.take i)++R).toArray/\R.length=(G-i)*9:=by
  refine⟨(Builtin.zeroCells (aQ z9).cells (xs.length+1-i)).toList++(Builtin.zeroCells (aQ z9).cells (G-(xs.length+1))).toList,?_,?_⟩
  .apply Array.ext';simp
  simp[Builtin.zeroCells,Value.cells];omega
 rw[N]at s;have H:∀ ty,(Builtin.append_ #[66,3] ty #[aq (some (ad g 0 ab)) i xs.length,I ((xs.length:aa)+1-(i:aa))]).run prog w=.ok (aq (some (ad w 0 ab)) (xs.length+1) G) (w.drew.alloc (ae (bX (xs.take i)++R).toArray 45)):=λty=>by
  have:=s ty
  rwa [show((xs.length+1-i:J):aa)=(xs.length:aa)+1-(i:aa)by omega]at this
 have zd:=bP F;have St:=bP aW;have n:=aX w.drew (ae (bX (xs.take i)++R).toArray 45);have t:Keeps aI w (w.drew.alloc (ae (bX (xs.take i)++R).toArray 45)):=(Keeps.refl _ w).drew.alloc _;have K:=t.heap aW id;have C:=t.heap F id;obtain⟨b,O⟩:=cO (w.drew.alloc (ae (bX (xs.take i)++R).toArray 45));rw[<-O]at H n t K C;have n:=n;obtain⟨a,x⟩:∃ a,a=(bX (xs.take i)++R).take (i*9)++e.br++(bX (xs.take i)++R).drop (i*9+9):=⟨_,rfl⟩;have Z:a.length=G*9:=by
  rw[x];simp only[cx,gn,gm,f,c,A];omega
 have T:∀ ty l,(Builtin.copy_ #[66,66] ty #[aq (some (ad w (i*9) ab)) (xs.length+1-i) l,aq (some (ad dH 0 ab)) 1 1]).run prog b=.ok (goInt (Nat.min 1 (xs.length+1-i):J)) (b.setRow w.heap.size a.toArray):=λty l=>by
  rw[x];exact y0 b 66 66 ty 45 9 w.heap.size (i*9) _ l (ad dH 0 ab) 1 1 (bX (xs.take i)++R).toArray 45 e.br underlying66 aH n MB (λj v p=>by rw[h3,gC];exact bb K (by rw[<-nw];exact p)) (by rw[c];simp only[gW,cx,f,A];omega) (by rw[<-vG];exact rX [e])
 have B:=fl b w.heap.size _ a.toArray 45 n;obtain⟨h,y⟩:∃ h,h=a.take ((i+1)*9)++bX (xs.drop i)++a.drop ((i+1)*9+(bX (xs.drop i)).length):=⟨_,rfl⟩;have ps:∀ ty l dc,(Builtin.copy_ #[66,66] ty #[aq (some (ad w ((i+1)*9) ab)) (xs.length-i) l,aq (some (ad g (i*9) ab)) (xs.length-i) dc]).run prog (b.setRow w.heap.size a.toArray).drew=.ok (goInt (Nat.min (xs.length-i) (xs.length-i):J)) ((b.setRow w.heap.size a.toArray).drew.setRow w.heap.size h.toArray):=λty l dc=>by
  rw[y];exact y0 (b.setRow w.heap.size a.toArray).drew 66 66 ty 45 9 w.heap.size ((i+1)*9) _ l (ad g (i*9) ab) _ dc a.toArray 45 (bX (xs.drop i)) underlying66 aH B (by rw[m,show Nat.min (xs.length-i) (xs.length-i)=xs.length-i from Nat.min_self _]) (λj v p=>by rw[h3];exact bb (w:=(b.setRow w.heap.size a.toArray).drew) ((iG b w.heap.size a.toArray).heap C U) (Q j v p)) (by rw[m];simp only[gW];omega) (rX _)
 have hfin:((b.setRow w.heap.size a.toArray).drew.setRow w.heap.size h.toArray).ownsRow base 45 9 (aq (some (ad w 0 ab)) (xs.length+1) G) (xs.length+1) (bX (xs.take i++e :: xs.drop i)):=by
  have aO:=Sr (X:=bX (xs.take i)) (E:=e.br) (D:=bX (xs.drop i)) (R:=R);rw[f,c,<-x,show i*9+9=(i+1)*9 by omega,<-y]at aO;have V:bX (xs.take i++e :: xs.drop i)=bX (xs.take i)++e.br++bX (xs.drop i):=by rw[vF,GJ,dD]
  refine⟨by rw[V];simp only[cx,f,c,m];omega,.inr ⟨w,G,h.toArray,rfl,m',(fl (b.setRow w.heap.size a.toArray).drew w.heap.size _ h.toArray 45 B),mv,M,?_,?_⟩⟩
  .rw[y];simp only[gW,cx,gn,gm,Z,m];omega
  rw[V,<-aO,m]
  congr 1
  omega
 have Y:Keeps (λj=>(aq (some (ad g 0 ab)) xs.length xs.length).ownBlock=some j) w ((b.setRow w.heap.size a.toArray).drew.setRow w.heap.size h.toArray):=
  cL (k2 t) (((iG b w.heap.size a.toArray).drew).trans (iG _ _ _)) a7
 have a':(xs.take i++e :: xs.drop i).length=xs.length+1:=by
  simp only[cx,gn,ds,gm];omega
 have hd:=af hfin;have h2:=af Y;have lb:=af a';have l':=af H;have g':=af T;have TS:prog.follows .mixedOrders=true:=aH;have vl:(0:aa)<=(i:aa)+1:=U;have zp:i<=xs.length:=U;have Q':((i:aa)+1).toNat=i+1:=U;have Tq:IntKind.i64.wrap ((i:aa)+1)=(i:aa)+1:=ev _ U;have v':(i:aa)<=(xs.length:aa)+1:=U;have w':¬ (xs.length=i):=U;have sd:¬ (G=i):=U;have s':¬ (G=i+1):=U;have r':G<=9223372036854775807:=M;clear hfin Y T K n B C Q S q f m c Z x y fr a' H s N A hold t O W gf L d z
 go_in
 go_wp2_with (at_builtin;refine Lib.wpList_append_run _ rfl (.tmp 34) (.tmp 39) 66 3 rfl (aq (some (ad g 0 ab)) i xs.length) (I ((xs.length:aa)+1-(i:aa))) rfl rfl _ _ (l'.o _) ?_);simp only[g'.o,hq];go_wp2_with fail
 go_region_law_o (refine step_copy_runI rfl _ _ 66 66 rfl _ _ uZ uZ (ps _ _ _) ?_)
 go_wp2_with fail;go_ret;exact⟨_,rfl,by rw[lb.o];exact hd.o,h2.o,.inr rfl⟩
def Qd{base:J}(xs:ah aB)(v:ax)(f:w.ownsRow base 45 9 v xs.length (bX xs))(c:base<=w.heap.size)(ar:xs.length<=1000)(i:J)(aw:i<=xs.length)(e:aB)(dH:J)(aW:w.heap[dH]?=some (ae e 45 (0,0)))(hne:v.ownBlock≠some dH):aA 380 #[v,I i,aq (some (ad dH 0 ab)) 1 1] w (xn w base v (xs.take i++e :: xs.drop i)):=by
 by_cases h:i=xs.length
 .subst h;rw[nE,drop_length];exact Qf xs v f c ar e dH aW
 obtain⟨_,a⟩:=f;rcases a with⟨rfl,o⟩|⟨g,cap,b,rfl,l,d,n,m,j,k⟩
 .omega
 by_cases a:xs.length+1<=cap
 .exact Qh xs g cap b l d a m j k ar i U e dH aW (λe=>hne (by rw[e];rfl))
 exact Qg c xs g cap b d a n j k ar i U e dH aW
structure pF(xs:ah aB)(bR cN er:J)(t:aB)(W:ai):ak where
 al:∀ (j:J) u,(bX xs)[j]?=some u->W.cell? (ad bR (cN+j) ab)=some u
 bM:W.heap[er]?=some (ae t 45 (0,0))
theorem pF.keep{xs:ah aB}{bR cN er:J}{t:aB}{W W':ai}(h:pF xs bR cN er t W)(hk:Keeps aI W W'):pF xs bR cN er t W':=
 ⟨λj u a=>hk.cell (h.al j u a) id,hk.heap h.bM id⟩
theorem pF.cell{xs:ah aB}{bR cN er:J}{t:aB}{W:ai}(h:pF xs bR cN er t W)(i:J)(aw:i<xs.length)(j:J)(a:j<9){u:ax}(b:xs[i].br[j]?=some u):W.cell? (ad bR (cN+i*9+j) ab)=some u:=by
 rw[ih];exact h.al _ _ ((tw xs i aw j a).trans b)
def Ql(xs:ah aB){A:b5 Addr}{cap:J}(s:dR w 9 A xs.length cap (bX xs))(ar:xs.length<=1000)(t:aB)(m:J)(hm:m<=xs.length)(Y:∀ i (aw:i<xs.length),i<m->eE xs[i].k t.k<0)(X:∀ i (aw:i<xs.length),m<=i->¬ eE xs[i].k t.k<0):aA 378 #[aq A xs.length cap,aQ t,.func (.func 379) #[] #[]] w λr w'=>
   r=aV #[I m,(decide (∃ h:m<xs.length,eE xs[m].k t.k=0))]/\Below w w w':=by
 have cb:=(b3 w.heap.size w).alloc bs (ae t 45);have T:=aX w (ae t 45);have R:=s.keeps (S:=aI) ((Keeps.refl _ w).alloc (ae t 45)) (λ_ _ _=>id);have L:=af R;have M:=af T;have gX:=af cb;have O:=af Y;have N:=af X
 go_in
 go_wp2_with fail;generalize World.alloc w _=bk at *;go_loopg [9,10,11] xs.length (λg i j _ wr=>∃ p q:J,g=q-p/\i=I p/\j=I q/\p<=m/\m<=q/\q<=xs.length/\Keeps aI bk wr)
 case atStart=>exact⟨0,xs.length,rfl,rfl,rfl,c' _,hm,c9 _,Keeps.refl _ _⟩
 obtain⟨p,q,aZ,rfl,rfl,au,P,Q,hk⟩:=hrel;by_cases sd:p<q
 .have aJ:(p+q) / 2<xs.length:=U;have s:=L.o.keeps hk (λ_ _ _=>id);obtain⟨bR,cN,rfl,al⟩:=s.at' U;have D:pF xs bR cN w.heap.size t wr:=⟨al,hk.heap M.o id⟩;have C:=af D;have l:=af hk;go_upto_region 5 with fail
  have r':p<=(p+q) / 2/\(p+q) / 2<q:=U;rw[show((p:aa)+(q:aa)) / 2=(((p+q) / 2:J):aa)by omega];generalize (p+q) / 2=h at *;obtain⟨G,a⟩:=hJ (F:=λW=>pF xs bR cN w.heap.size t W);have a':∀ x:bp G,x.to.cell? (ad bR (cN+h*9) ab)=some (I xs[h].k.fr):=λx=>((a _).1 x.held).cell h aJ 0 U rfl;have gf:∀ x:bp G,x.to.cell? (ad bR (cN+h*9+1) ab)=some (I xs[h].k.em):=λx=>((a _).1 x.held).cell h aJ 1 U rfl;have g':∀ x:bp G,x.to.cell? (ad bR (cN+h*9+2) ab)=some (I xs[h].k.bL):=λx=>((a _).1 x.held).cell h aJ 2 U rfl;have hd:∀ x:bp G,x.to.cell? (ad bR (cN+h*9+3) ab)=some (I xs[h].k.cq):=λx=>((a _).1 x.held).cell h aJ 3 U rfl;have h2:∀ x:bp G,x.to.cell? (ad bR (cN+h*9+4) ab)=some (I xs[h].cG):=λx=>((a _).1 x.held).cell h aJ 4 U rfl;have lb:∀ x:bp G,x.to.cell? (ad bR (cN+h*9+5) ab)=some (I xs[h].dr):=λx=>((a _).1 x.held).cell h aJ 5 U rfl;have l':∀ x:bp G,x.to.cell? (ad bR (cN+h*9+6) ab)=some (I xs[h].et):=λx=>((a _).1 x.held).cell h aJ 6 U rfl;have mv:∀ x:bp G,x.to.cell? (ad bR (cN+h*9+7) ab)=some (I xs[h].dJ):=λx=>((a _).1 x.held).cell h aJ 7 U rfl;have m':∀ x:bp G,x.to.cell? (ad bR (cN+h*9+8) ab)=some (I xs[h].le):=λx=>((a _).1 x.held).cell h aJ 8 U rfl;have Z:=λx:bp G=>aS (((a _).1 x.held).bM);have b:=(a _).2 (C.o.keep (Keeps.refl _ wr).drew);have f:=af (λW=>GF xs[h] t W);exact LN
 obtain rfl:p=m:=U;obtain rfl:q=p:=U;by_cases H:q<xs.length
 .have aJ:=H;have s:=L.o.keeps hk (λ_ _ _=>id);obtain⟨bR,cN,rfl,al⟩:=s.at' U;have D:pF xs bR cN w.heap.size t wr:=⟨al,hk.heap M.o id⟩;have C:=af D;have l:=af hk;obtain⟨G,a⟩:=hJ (F:=λW=>pF xs bR cN w.heap.size t W);have a':∀ x:bp G,x.to.cell? (ad bR (cN+q*9) ab)=some (I xs[q].k.fr):=λx=>((a _).1 x.held).cell q aJ 0 U rfl;have gf:∀ x:bp G,x.to.cell? (ad bR (cN+q*9+1) ab)=some (I xs[q].k.em):=λx=>((a _).1 x.held).cell q aJ 1 U rfl;have g':∀ x:bp G,x.to.cell? (ad bR (cN+q*9+2) ab)=some (I xs[q].k.bL):=λx=>((a _).1 x.held).cell q aJ 2 U rfl;have hd:∀ x:bp G,x.to.cell? (ad bR (cN+q*9+3) ab)=some (I xs[q].k.cq):=λx=>((a _).1 x.held).cell q aJ 3 U rfl;have h2:∀ x:bp G,x.to.cell? (ad bR (cN+q*9+4) ab)=some (I xs[q].cG):=λx=>((a _).1 x.held).cell q aJ 4 U rfl;have lb:∀ x:bp G,x.to.cell? (ad bR (cN+q*9+5) ab)=some (I xs[q].dr):=λx=>((a _).1 x.held).cell q aJ 5 U rfl;have l':∀ x:bp G,x.to.cell? (ad bR (cN+q*9+6) ab)=some (I xs[q].et):=λx=>((a _).1 x.held).cell q aJ 6 U rfl;have mv:∀ x:bp G,x.to.cell? (ad bR (cN+q*9+7) ab)=some (I xs[q].dJ):=λx=>((a _).1 x.held).cell q aJ 7 U rfl;have m':∀ x:bp G,x.to.cell? (ad bR (cN+q*9+8) ab)=some (I xs[q].le):=λx=>((a _).1 x.held).cell q aJ 8 U rfl;have Z:=λx:bp G=>aS (((a _).1 x.held).bM);have b:=(a _).2 (C.o.keep (Keeps.refl _ wr).drew);have f:=af (λW=>GF xs[q] t W);have u:=af (λ(W W':ai) (y:G W) (aj:Below W W W')=>(a W').2 (((a W).1 y).keep (Keeps.bD aj a7)));have bu:=l.o.drew;go_wp2_with fail;refine cH 16 ?_;refine cI (G) (.range 16) 0 16 ?_;refine dC (b) (.range 11) 5 ?_;generalize wr.drew=z at *;refine ew 11 λK v=>?_;go_simp;refine aU (f.o z) λaC c=>?_;have d:=u.o _ _ b c;refine v _ _ (d) ?_;refine dC (d) [12,13,14,15] 0 ?_;refine n5 ?_;have n:=bu.trans (Keeps.bD (S:=aI) c a7);have B:=gX.o.trans (n.below gX.o.size (λ_ _ e=>e));go_wp2_with fail;have E:(eE xs[q].k t.k == 0)=decide (∃ h:q<xs.length,eE xs[q].k t.k=0):=by
   by_cases e:eE xs[q].k t.k=0
   .simp[e,H]
   simp[e]
  go_ret2;exact⟨by rw[<-E];rfl,B⟩
 have B:=gX.o.trans (hk.below gX.o.size (λ_ _ e=>e));have E:decide (∃ h:q<xs.length,eE xs[q].k t.k=0)=false:=by simp[H]
 obtain rfl:q=xs.length:=U;go_wp2_with fail;go_quiet (fail);have V:=B.trans (((ba wr).drewN nq).below B.size (λ_ _ e=>e));go_wp2_with fail;go_ret2;exact⟨by rw[E];rfl,V⟩
def xL(a b:aa):eV a b<0↔a<b:=by
 unfold eV;split
 .omega
 split<;>omega
def qL(a b:aa):eV a b=0↔a=b:=by
 unfold eV;split
 .omega
 split<;>omega
def ku(a b:de):ak:=a.fr<b.fr\/(a.fr=b.fr/\(a.em<b.em\/(a.em=b.em/\(a.bL<b.bL\/(a.bL=b.bL/\a.cq<b.cq)))))
def kV(a b:de):eE a b<0↔ku a b:=by
 unfold eE ku;have h1:=xL a.fr b.fr;have h2:=xL a.em b.em;have g:=xL a.bL b.bL;have h:=xL a.cq b.cq;have c:=qL a.fr b.fr;have d:=qL a.em b.em;have e:=qL a.bL b.bL;have f:=qL a.cq b.cq;exact MX
def F0(a b:de):eE a b=0↔a=b:=by
 unfold eE;have k:=qL a.fr b.fr;have l:=qL a.em b.em;have m:=qL a.bL b.bL;have n:=qL a.cq b.cq;have c:a=b↔(a.fr=b.fr/\a.em=b.em/\a.bL=b.bL/\a.cq=b.cq):=by
  have⟨d,e,f,g⟩:=a;have⟨bO,h,i,j⟩:=b;simp
 rw[c];exact MX
def q0{a b c:de}(h:ku a b)(k:ku b c):ku a c:=by unfold ku at *;omega
def mm(a:de):¬ ku a a:=by unfold ku;omega
def v7(a b:de):ku a b\/a=b\/ku b a:=by
 by_cases h:a=b
 .exact .inr (.inl h)
 have⟨c,d,e,f⟩:=a;have⟨bO,g,i,j⟩:=b;unfold ku;simp only[de.mk.injEq]at h;simp only;omega
def en(xs:ah aB):ak:=xs.Pairwise λa b=>ku a.k b.k
def eZ(xs:ah aB)(k:de):J:=(xs.takeWhile λa=>decide (eE a.k k<0)).length
def yy(xs:ah aB)(k:de):eZ xs k<=xs.length:=(takeWhile_sublist _).length_le
theorem vZ:∀ (xs:ah aB) (k:de) (i:J) (aw:i<xs.length),i<eZ xs k->eE xs[i].k k<0
 | [],_,_,h,_=>by simp at h
 | x :: xs,k,i,aw,h=>by
  by_cases c:eE x.k k<0
  .have e:eZ (x :: xs) k=eZ xs k+1:=by unfold eZ;rw[takeWhile_cons_of_pos xj];rfl
   cases i with
   | zero=>exact c
   | succ i=>exact vZ xs k i (by simpa using aw) kh
  have e:eZ (x :: xs) k=0:=by unfold eZ;rw[takeWhile_cons_of_neg xj];rfl
  omega
theorem BJ:∀ (xs:ah aB) (k:de) (h:eZ xs k<xs.length),¬ eE xs[eZ xs k].k k<0
 | [],_,h=>by simp at h
 | x :: xs,k,h=>by
  by_cases c:eE x.k k<0
  .have e:eZ (x :: xs) k=eZ xs k+1:=by unfold eZ;rw[takeWhile_cons_of_pos xj];rfl
   have a:eZ xs k<xs.length:=by rw[e]at h;simpa using h
   simp only[e,wZ];exact(BJ xs k a)
  have e:eZ (x :: xs) k=0:=by unfold eZ;rw[takeWhile_cons_of_neg xj];rfl
  simp only[e,DO];exact c
def BK{xs:ah aB}(bd:en xs)(k:de)(i:J)(aw:i<xs.length)(h:eZ xs k<=i):¬ eE xs[i].k k<0:=by
 have a:=BJ xs k U;by_cases e:eZ xs k=i
 .subst e;exact a
 have b:=sR.1 bd (eZ xs k) i U aw U;rw[kV]at a⊢;exact λc=>a (q0 b c)
def mg(xs:ah aB)(k:de):aY:=decide (∃ e∈xs,e.k=k)
def Bw{xs:ah aB}(bd:en xs)(k:de):decide (∃ h:eZ xs k<xs.length,eE xs[eZ xs k].k k=0)=mg xs k:=by
 congr 1
 apply propext;constructor
 .rintro⟨h,e⟩;exact⟨_,nC h,(F0 _ _).1 e⟩
 rintro⟨e,a,rfl⟩;obtain⟨i,aw,rfl⟩:=w0 a;have h1:eZ xs xs[i].k<=i:=by
  by_cases c:eZ xs xs[i].k<=i
  .exact c
  exact absurd ((kV _ _).1 (vZ xs xs[i].k i aw U)) (mm _)
 refine⟨U,?_⟩;by_cases e:eZ xs xs[i].k=i
 .rw[F0];simp only[e]
 have b:=sR.1 bd (eZ xs xs[i].k) i U aw U;exact absurd ((kV _ _).2 b) (BJ xs xs[i].k U)
def k0(xs:ah aB)(e:aB):ah aB:=xs.take (eZ xs e.k)++e :: xs.drop (eZ xs e.k)
def HT{xs:ah aB}(bd:en xs)(e:aB)(ar:mg xs e.k=false):en (k0 xs e):=by
 have hne:∀ x∈xs,x.k≠e.k:=λx l c=>by
  have:mg xs e.k=true:=ee ⟨x,l,c⟩
  rw[ar]at this;cases this
 unfold en k0;rw[pq];refine⟨bd.sublist (take_sublist _ _),jg.2 ⟨λx l=>?_,bd.sublist (drop_sublist _ _)⟩,λa n b f=>?_⟩
 .obtain⟨j,g,rfl⟩:=w0 l;rw[getElem_drop];have d:eZ xs e.k+j<xs.length:=by rw[gm]at g;omega
  have h1:=BK bd e.k (eZ xs e.k+j) d U;rw[kV]at h1;rcases v7 e.k xs[eZ xs e.k+j].k with h|h|h
  .exact h
  .exact absurd h.symm (hne _ (nC d))
  exact absurd h h1
 obtain⟨i,aw,rfl⟩:=w0 n;rw[getElem_take];have o:i<eZ xs e.k:=by rw[gn]at aw;omega
 have m:i<xs.length:=by have:=yy xs e.k;omega
 have h1:=(kV _ _).1 (vZ xs e.k i m o);rcases e6.1 f with rfl|f
 .exact h1
 obtain⟨j,g,rfl⟩:=w0 f;rw[getElem_drop];have d:eZ xs e.k+j<xs.length:=by rw[gm]at g;omega
 exact sR.1 bd i (eZ xs e.k+j) m d U
def FM{w:ai}{b:J}{t:TypeId}{bt bY bo eo dM fN eb c5 fy:ax}(h:w.heap[b]?=some (ae #[bt,bY,bo,eo,dM,fN,eb,c5,fy] t (0,0)))(a c v2 d e f g i j:ax):(((((((((w.setCell (ad b 0 ab) a).setCell (ad b 1 ab) c).setCell (ad b 2 ab) v2).setCell (ad b 3 ab) d).setCell (ad b 4 ab) e).setCell (ad b 5 ab) f).setCell (ad b 6 ab) g).setCell (ad b 7 ab) i).setCell (ad b 8 ab) j).heap[b]?=some (ae #[a,c,v2,d,e,f,g,i,j] t (0,0)):=by
 have:=bV (bV (bV (bV (bV (bV (bV (bV (bV h 0 a) 1 c) 2 v2) 3 d) 4 e) 5 f) 6 g) 7 i) 8 j
 simpa using this
theorem H8(w:ai)(b:J)(a c v2 d e f g h i:ax):Keeps (λj=>j=b) w (((((((((w.setCell (ad b 0 ab) a).setCell (ad b 1 ab) c).setCell (ad b 2 ab) v2).setCell (ad b 3 ab) d).setCell (ad b 4 ab) e).setCell (ad b 5 ab) f).setCell (ad b 6 ab) g).setCell (ad b 7 ab) h).setCell (ad b 8 ab) i):=
 (((((((((Keeps.refl (λj=>j=b) w).setCell (p:=ad b 0 ab) rfl a).setCell (p:=ad b 1 ab) rfl c).setCell (p:=ad b 2 ab) rfl v2).setCell (p:=ad b 3 ab) rfl d).setCell (p:=ad b 4 ab) rfl e).setCell (p:=ad b 5 ab) rfl f).setCell (p:=ad b 6 ab) rfl g).setCell (p:=ad b 7 ab) rfl h).setCell (p:=ad b 8 ab) rfl i
def Qq(xs:ah aB){A:b5 Addr}{cap:J}(z:dR w 9 A xs.length cap (bX xs))(ar:xs.length<=1000)(bd:en xs)(k:de):aA 385 #[aq A xs.length cap,aQ k] w λr w'=>(∃ e:aB,r=aV #[aQ e,(mg xs k)])/\Below w w w':=by
 have F:(w.alloc (ae k 43)).heap.size=w.heap.size+1:=aK;have x:=aX (w.alloc (ae k 43)) (ae z9 45);rw[F]at x;have G:Keeps aI w ((w.alloc (ae k 43)).alloc (ae z9 45)):=((Keeps.refl _ w).alloc _).alloc _;have L:((w.alloc (ae k 43)).alloc (ae z9 45)).heap.size=w.heap.size+2:=aK;have q:=af (z.keeps G (λ_ _ _=>id));have s:=af x;have K:=af (cm (aX w (ae k 43)) (ae z9 45));have gX:=af (((b3 w.heap.size w).alloc bs (ae k 43)).alloc aK (ae z9 45))
 go_in
 go_wp2_with fail;generalize World.alloc (World.alloc w _) _=ao at *;have an:=af (Qm (w:=ao) xs q.o ar k (eZ xs k) (yy xs k) (λi aw h=>vZ xs k i aw h) (λi aw h=>BK bd k i aw h));rw[Bw bd k]at an;cases aJ:mg xs k with
 | false=>
  rw[aJ]at an;go_wp2_with fail;refine aU an.out λaC c=>?_;have b:=(Keeps.bD (S:=aI) c a7).heap s.out id;have d:=gX.out.trans (c.mono U);have f0:=bI b;have H:=aS b;have l:=FM b (I 0) (I 0) (I 0) (I 0) (I 0) (I 0) (I 0) (I 0) (I 0);have n:=d.trans ((H8 aC (w.heap.size+1) (I 0) (I 0) (I 0) (I 0) (I 0) (I 0) (I 0) (I 0) (I 0)).below d.size a7);have f:=af l;have g:=af n;go_wp2_with fail;have p:=dx _ _ _ _ f.o 9 rfl;refine dq (v:=aV #[aQ z9,false]) p ?_;exact⟨⟨⟨⟨0,0,0,0⟩,0,0,0,0,0⟩,by rw[aJ]⟩,g.o⟩
 | true=>
  have hm:eZ xs k<xs.length:=by
   have t:=Bw bd k;rw[aJ]at t;exact(rG t).1
  rw[aJ]at an;generalize eZ xs k=m at *;go_wp2_with fail;refine aU an.out λaC c=>?_;have y:=Keeps.bD (S:=aI) c a7;have b:=y.heap s.out id;have B:=q.out.keeps y (λ_ _ _=>id);have d:=gX.out.trans (c.mono U);obtain⟨bR,cN,rfl,al⟩:=B.at' U;have a:∀ j u,j<9->xs[m].br[j]?=some u->aC.cell? (ad bR (cN+m*9+j) ab)=some u:=λj u D E=>by rw[ih];exact al _ _ ((tw xs m hm j D).trans E)
  obtain⟨e,C⟩:∃ e,xs[m]=e:=⟨_,rfl⟩;rw[C]at a;have M:aC.cell? (ad bR (cN+m*9) ab)=some (I e.k.fr):=a 0 _ U rfl;have N:=a 1 _ U rfl;have O:=a 2 _ U rfl;have P:=a 3 _ U rfl;have Q:=a 4 _ U rfl;have R:=a 5 _ U rfl;have T:=a 6 _ U rfl;have V:=a 7 _ U rfl;have W:=a 8 _ U rfl;have f0:=bI b;have H:=aS b;have l:=FM b (I e.k.fr) (I e.k.em) (I e.k.bL) (I e.k.cq) (I e.cG) (I e.dr) (I e.et) (I e.dJ) (I e.le);have n:=d.trans ((H8 aC (w.heap.size+1) (I e.k.fr) (I e.k.em) (I e.k.bL) (I e.k.cq) (I e.cG) (I e.dr) (I e.et) (I e.dJ) (I e.le)).below d.size a7);have f:=af l;have g:=af n;go_wp2_with fail;have p:=dx _ _ _ _ f.o 9 rfl;refine dq (v:=aV #[aQ e,true]) p ?_;exact⟨⟨e,by rw[aJ]⟩,g.o⟩
def Qr(xs:ah aB){A:b5 Addr}{cap:J}(c:dR w 9 A xs.length cap (bX xs))(ar:xs.length<=1000)(bd:en xs)(k:de):aA 377 #[aq A xs.length cap,aQ k] w λr w'=>r=.returned (.bool (mg xs k))/\Below w w w':=by
 have cb:=(b3 w.heap.size w).alloc bs (ae k 43);have d:=aX w (ae k 43);have b:=af (Qq (w:=w.alloc (ae k 43)) xs (c.keeps (S:=aI) ((Keeps.refl _ w).alloc _) (λ_ _ _=>id)) ar bd k)
 go_in
 go_wp2_with fail;generalize World.alloc w _=ao at *;refine b.o.mono ?_;rintro r aC ⟨⟨e,rfl⟩,aj⟩;have a:=cb.trans (aj.mono cb.size);go_wp2_with fail;go_ret;exact⟨rfl,(a.alloc a.size (ae e 45))⟩
def n0(xs:ah aB)(k:de):J->J->J
 | 0,o=>o
 | f+1,o=>if mg xs {k with cq:=o}then n0 xs k f (o+1)else o
def rY(xs:ah aB)(k:de):J:=n0 xs k 17 0
def rW(fr:aa)(e:aB):aB:={e with k:={e.k with fr:=fr,cq:=0}}
def nW(e:aB)(o:J):aB:={e with k:={e.k with cq:=o}}
def h0(fr:aa)(xs:ah aB)(e:aB):ah aB:=
 if fz (rW fr e)=false then xs else if 64<=xs.length\/15<rY xs (rW fr e).k then xs else k0 xs (nW (rW fr e) (rY xs (rW fr e).k))
structure oO(w:ai)(base bh:J)(fr:aa)(v:ax)(xs:ah aB):ak where
 hd:w.heap[bh]?=some (ae #[I fr,v] 476 (0,0))
 row:w.ownsRow base 45 9 v xs.length (bX xs)
 ne:v.ownBlock≠some bh
 dL:en xs
 n:xs.length<=64
 rt:∀ e∈xs,fz e=true/\e.k.fr=fr
theorem oO.keep{base bh:J}{fr:aa}{v:ax}{xs:ah aB}{T:J->ak}(h:oO w base bh fr v xs)(hk:Keeps T w w')(h1:¬ T bh)(h2:∀ j,v.ownBlock=some j->¬ T j):oO w' base bh fr v xs:=
 ⟨hk.heap h.hd h1,b4 h.row hk h2,h.ne,h.dL,h.n,h.rt⟩
def Vv{e:aB}(h:fz e=true):0<=e.k.cq/\e.k.cq<=15:=by
 unfold fz hC fU at h;simp only[d',fZ]at h;omega
def EI(w:ai)(base bh:J)(fr:aa)(v:ax)(ys:ah aB)(r:Ending)(w':ai):ak:=
 (∃ (k:de) (b0:aa),r=aV #[aQ k,I b0])/\∃ v',oO w' base bh fr v' ys/\Keeps (λj=>j=bh\/v.ownBlock=some j) w w'/\(v'.ownBlock=v.ownBlock\/∃ j,w.heap.size<=j/\v'.ownBlock=some j)
def V0(W:ai):(Instr.build 43 #[]).run prog W=.ok (aQ z4) W:=aH
def xF{w:ai}{b:J}{t:TypeId}{bt bY bo eo:ax}(h:w.heap[b]?=some (ae #[bt,bY,bo,eo] t (0,0)))(a c v2 d:ax):((((w.setCell (ad b 0 ab) a).setCell (ad b 1 ab) c).setCell (ad b 2 ab) v2).setCell (ad b 3 ab) d).heap[b]?=some (ae #[a,c,v2,d] t (0,0)):=by
 have:=bV (bV (bV (bV h 0 a) 1 c) 2 v2) 3 d
 simpa using this
structure oK(w:ai)(base bh:J)(fr:aa)(v:ax)(xs:ah aB)(e:aB)(W:ai):ak where
 jb:oO W base bh fr v xs
 bM:W.heap[w.heap.size]?=some (ae e 45 (0,0))
 rs:W.heap[w.heap.size+1]?=some (ae z4 43 (0,0))
 cv:Keeps aI w W
theorem oK.keep{base bh:J}{fr:aa}{v:ax}{xs:ah aB}{e:aB}{W W':ai}(h:oK w base bh fr v xs e W)(hk:Keeps aI W W'):oK w base bh fr v xs e W':=
 ⟨h.jb.keep hk id (λ_ _=>id),hk.heap h.bM id,hk.heap h.rs id,h.cv.trans hk⟩
def oK.ou{base bh:J}{fr:aa}{v:ax}{xs:ah aB}{e:aB}{W:ai}(h:oK w base bh fr v xs e W)(b:bh<w.heap.size)(aW:∀ j,v.ownBlock=some j->j<w.heap.size)(o:J):oK w base bh fr v xs (nW e o) (W.setCell (ad w 3 ab) (I o)):=by
 have k:=(Keeps.refl (λj=>j=w) W).setCell (p:=ad w 3 ab) rfl (I (o:aa));exact⟨h.jb.keep k U (λj a e=>by have:=aW j a;omega),(bV h.bM 3 (I (o:aa))),k.heap h.rs U,cL h.cv k a7⟩
def P6(e:aB)(a b:J):nW (nW e a) b=nW e b:=rfl
def P7(e:aB)(h:e.k.cq=0):nW e 0=e:=by
 obtain⟨⟨f,m,k,o⟩,a,g,p,r,l⟩:=e;subst h;rfl
def QW(xs:ah aB)(k:de)(f o:J)(h:mg xs {k with cq:=o}=true):n0 xs k (f+1) o=n0 xs k f (o+1):=by simp[n0,h]
def QV(xs:ah aB)(k:de)(f o:J)(h:mg xs {k with cq:=o}=false):n0 xs k (f+1) o=o:=by simp[n0,h]
def Iy{xs:ah aB}{e x:aB}(h:x∈k0 xs e):x=e\/x∈xs:=by
 rcases e5.1 h with h|h
 .exact .inr (zL h)
 rcases e6.1 h with h|h
 .exact .inl h
 exact .inr (zK h)
def Jv{e:aB}{o:J}(h:fz e=true)(a:o<=15):fz (nW e o)=true:=by
 unfold fz hC fU at h⊢;unfold nW;simp only[d',fZ]at h⊢;omega
def RR{xs:ah aB}{k:de}{fr:aa}(b:∀ e∈xs,fz e=true/\e.k.fr=fr)(h:mg xs k=true):k.cq<=15:=by
 obtain⟨e,a,rfl⟩:=rG h;exact(Vv (b e a).1).2
section
variable{P:Program}{o:Oper}{a:Act}{K:Act->ai->ak}{Q:Exit->Act->ai->ak}
end
def KT{base:J}{A:b5 Addr}{n cap:J}{xs:ah aB}(h:w.ownsRow base 45 9 (aq A n cap) n (bX xs)):dR w 9 A n cap (bX xs):=by
 have⟨cB,c,b,a,_⟩:=cS h;cases b;exact a
def UG{base bh:J}{fr:aa}{v:ax}{xs:ah aB}(h:oO w base bh fr v xs)(Z4:base<=w.heap.size)(e:aB):aA 366 #[bh,aQ e] w (EI w base bh fr v (h0 fr xs e)):=by
 have M:Keeps aI w ((w.alloc (ae e 45)).alloc (ae z4 43)):=((Keeps.refl _ w).alloc _).alloc _;have bt:=aS ((h.keep M id (λ_ _=>id)).hd);obtain⟨d,lb⟩:∃ d,rW fr e=d:=⟨_,rfl⟩;have l':Keeps aI w ((w.alloc (ae #[I fr,I e.k.em,I e.k.bL,I 0,I e.cG,I e.dr,I e.et,I e.dJ,I e.le] 45)).alloc (ae z4 43)):=((Keeps.refl _ w).alloc _).alloc _;have aad:(w.alloc (ae #[I fr,I e.k.em,I e.k.bL,I 0,I e.cG,I e.dr,I e.et,I e.dJ,I e.le] 45)).heap.size=w.heap.size+1:=aK;have Z1:=cm (aX w (ae #[I fr,I e.k.em,I e.k.bL,I 0,I e.cG,I e.dr,I e.et,I e.dJ,I e.le] 45)) (ae z4 43);have ZH:=aX (w.alloc (ae #[I fr,I e.k.em,I e.k.bL,I 0,I e.cG,I e.dr,I e.et,I e.dJ,I e.le] 45)) (ae z4 43);rw[aad]at ZH;have Q':=bP h.hd;have Z':∀ j,v.ownBlock=some j->j<w.heap.size:=λj f=>by
  obtain⟨A,cap,rfl,_,ZX⟩:=cS h.row;cases A with
  | none=>simp[Value.ownBlock]at f
  | some x=>have:=ZX x rfl;rw[this.2.2]at f;cases f;exact this.2.1
 have R:oK w base bh fr v xs d ((w.alloc (ae #[I fr,I e.k.em,I e.k.bL,I 0,I e.cG,I e.dr,I e.et,I e.dJ,I e.le] 45)).alloc (ae z4 43)):=by
  subst lb;exact⟨h.keep l' id (λ_ _=>id),Z1,ZH,l'⟩
 have aao:Hid (d.k.fr=fr):=af (by rw[<-lb];rfl);have aap:Hid (d.k.cq=0):=af (by rw[<-lb];rfl);have t:h0 fr xs e=if fz d=false then xs else if 64<=xs.length\/15<rY xs d.k then xs else k0 xs (nW d (rY xs d.k)):=by unfold h0;rw[lb]
 obtain⟨ys,aac⟩:∃ ys,h0 fr xs e=ys:=⟨_,rfl⟩;rw[aac]at t⊢;have T':=af t;have aaD:=V0;have Y:=af R;have V:=af Z';have aam:=af Z4;have H:=af h;have sd:=af Q';clear R Z1 ZH M l' aad Z' Z4 h lb t aac
 go_in
 go_upto_region 4 with fail
 clear bt Q';generalize World.alloc (World.alloc _ _) _=ao at *;obtain⟨c,al⟩:∃ c,fz d=c:=⟨_,rfl⟩;have Z:=af (vE d ao);rw[al]at Z;have ZQ:=aS Y.o.bM;cases c
 .go_wp2_with fail;refine aU Z.o λaC D=>?_;have z:=af (Y.o.keep (Keeps.bD (S:=aI) D a7));clear ZQ Z Y D;have t:ys=xs:=by rw[T'.o,al];rfl
  subst t;have f0:=bI z.o.rs;have z0:=aS z.o.rs;have s':=xF z.o.rs (I 0) (I 0) (I 0) (I 0);have zd:=r5 (Keeps.refl (λj=>j=w+1) aC) rfl (I 0) (I 0) (I 0) (I 0);have r':=af s';have O:=af zd;clear s' zd;go_wp2_with fail;have vl:=dx _ _ _ _ r'.o 4 rfl;refine dq (v:=aV #[aQ z4,I 1]) vl ?_;exact⟨⟨⟨0,0,0,0⟩,1,rfl⟩,_,z.o.jb.keep O.o (by have:=sd.o;omega) (λj f e=>by have:=V.o j f;omega),cL (z.o.cv.mono λ_ _ e=>e.elim) O.o a7,.inl rfl⟩
 go_wp2_with fail;refine aU Z.o λaC D=>?_;have z:=af (Y.o.keep (Keeps.bD (S:=aI) D a7));clear ZQ Z Y D;obtain⟨A,cap,rfl,_,ZX⟩:=cS H.o.row;go_wp2_with fail;go_loopg [] 17 (λg wr=>∃ o:J,g=17-o/\o<=16/\n0 xs d.k (17-o) o=rY xs d.k/\oK w base bh fr (aq A xs.length cap) xs (nW d o) wr)
 case atStart=>exact⟨0,rfl,U,rfl,by rw[P7 d aap.o];exact z.o⟩
 obtain⟨o,rfl,aaE,T,R⟩:=hrel;obtain⟨a,L⟩:∃ a,nW d o=a:=⟨_,rfl⟩;rw[L]at R;have ZK:Hid (a.k.cq=o):=af (by rw[<-L];rfl);obtain⟨c,E⟩:∃ c,mg xs a.k=c:=⟨_,rfl⟩;have g':mg xs {d.k with cq:=o}=c:=by rw[<-E,<-L];rfl
 have⟨G,b⟩:=hJ (F:=λW=>oK w base bh fr (aq A xs.length cap) xs a W);have ZP:=λx:bp G=>aS (((b _).1 x.held).jb.hd);have M:=λx:bp G=>aS (((b _).1 x.held).bM);have s:G wr.drew:=(b _).2 (R.keep (Keeps.refl _ wr).drew);have X:Hid (∀ W,G W->aA 377 #[aq A xs.length cap,aQ a.k] W λr w'=>r=.returned (.bool c)/\Below W W w'):=af λW u=>by
  have h:=((b W).1 u).jb;have aat:=KT h.row;rw[<-E];exact Qr xs aat (by have:=h.n;omega) h.dL a.k
 have gf:=af (λ(W W':ai) (u:G W) (aj:Below W W W')=>(b W').2 (((b W).1 u).keep (Keeps.bD aj a7)));have B:=af (λ(W:ai) (u:G W)=>(b W).1 u);clear b R;go_wp2_with fail;refine cH 7 ?_;refine cI (G) (.range 7) 0 7 ?_;refine dC (s) (.range 6) 1 ?_;generalize wr.drew=wd at *;refine kx 6 λK C=>?_;go_simp;refine aU (X.o wd s) λaC D=>?_;have ZN:=gf.o _ _ s D;refine C _ _ (ZN) ?_;clear C K;have y:=B.o _ ZN;clear X gf B s ZN D ZP M;cases c
 .have Z8:rY xs d.k=o:=by rw[<-T,show 17-o=(16-o)+1 by omega,QV xs d.k (16-o) o g']
  have t:ys=if 64<=xs.length\/15<o then xs else k0 xs a:=by rw[T'.o,al,Z8,L];rfl
  have ZR:=af t;have g':=af g';have T:=af T;have E:=af E;have ar:=y.jb.n;have N:=bb (k:=3) y.bM rfl;simp only[DP,DO,wZ]at N;rw[ZK.o]at N;have ZP:=aS y.jb.hd;have Q:=af y;have aan:=af L;clear y t Z8 L;by_cases aaC:xs.length=64
  .exact Mm
  by_cases ZW:15<o
  .exact Mm
  have t:ys=k0 xs a:=by rw[ZR.o,az U]
  subst t;clear ZR T';go_wp2_with fail;clear N ZP z;have⟨G,b⟩:=hJ (F:=λW=>oK w base bh fr (aq A xs.length cap) xs a W);have m':=λx:bp G=>aS (((b _).1 x.held).jb.hd);have M:=λx:bp G=>aS (((b _).1 x.held).bM);have X:Hid (∀ W,G W->aA 378 #[aq A xs.length cap,aQ a,.func (.func 379) #[] #[]] W λr w'=>r=aV #[I (eZ xs a.k:J),false]/\Below W W w'):=af λW u=>by
   have h:=((b W).1 u).jb
   have:=Ql (w:=W) xs (KT h.row) (by have:=h.n;omega) a (eZ xs a.k) (yy xs a.k) (λi aw ZI=>vZ xs a.k i aw ZI) (λi aw ZI=>BK h.dL a.k i aw ZI)
   rw[Bw h.dL,E.o]at this;exact this
  have gf:=af (λ(W W':ai) (u:G W) (aj:Below W W W')=>(b W').2 (((b W).1 u).keep (Keeps.bD aj a7)));have B:=af (λ(W:ai) (u:G W)=>(b W).1 u);have Z0:=af ((b aC.drew).2 (Q.o.keep (Keeps.refl _ aC).drew));clear b;have aau:=yy xs a.k;generalize Z6:eZ xs a.k=m at *;have s:=Z0.o;clear Z0;refine cH 11 ?_;refine cI (G) (.range 11) 0 11 ?_;refine dC (s) (.range 5) 6 ?_;generalize aC.drew=wd at *;refine ew 5 λK C=>?_;go_simp;refine aU (X.o wd s) λbm Z2=>?_;have St:=gf.o _ _ s Z2;refine C _ _ (St) ?_;clear C K;refine dC (St) [6,7,8,9,10] 0 ?_;refine n5 ?_;have ZY:=B.o _ St;clear X gf B s St Z2 Q;clear m' M;go_wp2_with fail;have a':=ZY.keep (Keeps.refl _ bm).drew;have Aw:=a'.keep ((ba bm.drew).alloc (ae a 45));obtain⟨G,b⟩:=hJ (F:=λW=>(W.heap[bh]?=some (ae #[I fr,aq A xs.length cap] 476 (0,0))/\W.heap[w.heap.size]?=some (ae a 45 (0,0))));have m':=λx:bp G=>aS (((b _).1 x.held).1);have M:∀ x:bp G,x.to.cell? (ad w 0 ab)=some (I a.k.fr):=λx=>bb (k:=0) ((b _).1 x.held).2 rfl;have l':∀ x:bp G,x.to.cell? (ad w 1 ab)=some (I a.k.em):=λx=>bb (k:=1) ((b _).1 x.held).2 rfl;have aaw:∀ x:bp G,x.to.cell? (ad w 2 ab)=some (I a.k.bL):=λx=>bb (k:=2) ((b _).1 x.held).2 rfl;have N:∀ x:bp G,x.to.cell? (ad w 3 ab)=some (I a.k.cq):=λx=>bb (k:=3) ((b _).1 x.held).2 rfl;have aax:∀ x:bp G,x.to.cell? (ad w 4 ab)=some (I a.cG):=λx=>bb (k:=4) ((b _).1 x.held).2 rfl;have aay:∀ x:bp G,x.to.cell? (ad w 5 ab)=some (I a.dr):=λx=>bb (k:=5) ((b _).1 x.held).2 rfl;have aaz:∀ x:bp G,x.to.cell? (ad w 6 ab)=some (I a.et):=λx=>bb (k:=6) ((b _).1 x.held).2 rfl;have Tq:∀ x:bp G,x.to.cell? (ad w 7 ab)=some (I a.dJ):=λx=>bb (k:=7) ((b _).1 x.held).2 rfl;have aaA:∀ x:bp G,x.to.cell? (ad w 8 ab)=some (I a.le):=λx=>bb (k:=8) ((b _).1 x.held).2 rfl;have s:=(b _).2 ⟨a'.jb.hd,a'.bM⟩;have aaa:=(b _).2 ⟨Aw.jb.hd,Aw.bM⟩;have B:=af λW=>(b W).2;have Z7:=aX bm.drew (ae a 45);have zp:=af Aw;have ZZ:=af a'.cv.size;clear b ZY a' Aw;refine cH 12 ?_;refine cI (G) (.range 9) 3 9 ?_;refine dC (s) (.range 7) 2 ?_;generalize bm.drew=aai at *;have ZS:=af (Qd (base:=base) xs (aq A xs.length cap) zp.o.jb.row (by have:=zp.o.cv.size;have:=aam.o;omega) U m aau a aai.heap.size Z7 (λe=>by have:=V.o _ e;have:=ZZ.o;omega));have ZT:=af Z6;clear Z7 Z6 ZZ;refine hg 7 aaa ?_;clear m' M l' aaw N aax aay aaz Tq aaA s aaa;generalize aai.alloc (ae a 45)=aaF at *;have l:=zp;refine jq 8 λK C=>?_;go_simp;refine ZS.o.mono ?_;rintro r ps ⟨v',rfl,ZL,P,q⟩;obtain⟨TS,aae,bo,aaj⟩:∃ TS aae bo,v'=aq TS aae bo:=by
   have⟨TS,bo,h,_,_⟩:=cS ZL;exact⟨_,_,_,h⟩
  have Z_:∀ j,v'.ownBlock=some j->j<w.heap.size\/w.heap.size+2<=j:=λj f=>by
   rcases q with q|q
   .rw[q]at f;exact .inl (V.out j f)
   rw[q]at f;cases f;have h1:=l.out.cv.size;have h2:=bP l.out.rs;exact .inr U
  have aab:=B.out ps ⟨P.heap l.out.jb.hd (λe=>l.out.jb.ne e),P.heap l.out.bM (λe=>Ey)⟩;clear ZS B;refine C _ _ (aab) ?_;clear C K;clear aab;refine cI (λW=>0<=W.heap.size) [9,10,11] 0 3 ?_;refine hg 9 (c' _) ?_;refine hg 10 (c' _) ?_;have Q':=sd.out;have ZJ:=l.out.jb.ne;have CW:=P.heap l.out.jb.hd (λe=>ZJ e);have ZU:=P.heap l.out.bM (λe=>Ey);have aag:=P.heap l.out.rs (λe=>Ey);have m':=aS CW;have g1:=bI CW;have mv:=(Keeps.refl (λj=>j=bh) ps).setCell (p:=ad bh 1 ab) rfl v';have Z5:=bV CW 1 v';have ZV:=mv.heap ZU U;have aah:=mv.heap aag U;have ZM:v'.ownBlock≠some bh:=λe=>by
   rcases q with q|q
   .rw[q]at e;exact ZJ e
   rw[q]at e;cases e;have h1:=l.out.cv.size;omega
  have aav:(k0 xs a).length=xs.length+1:=by unfold k0;rw[ZT.out];simp only[cx,ds,gn,gm];omega
  have Z9:(ps.setCell (ad bh 1 ab) v').ownsRow base 45 9 v' (k0 xs a).length (bX (k0 xs a)):=by
   have h:=b4 ZL mv (λj f e=>ZM (by rw[f,e]));unfold k0;rw[ZT.out];exact h
  have aaf:oO (ps.setCell (ad bh 1 ab) v') base bh fr v' (k0 xs a):=by
   refine⟨Z5,Z9,ZM,HT l.out.jb.dL a E.out,U,λx ZO=>?_⟩;rcases Iy ZO with rfl|ZO
   .rw[<-aan.out];exact⟨Jv al U,aao.out⟩
   exact l.out.jb.rt x ZO
  have Tq:Keeps (λj=>j=bh\/(aq A xs.length cap).ownBlock=some j) w (ps.setCell (ad bh 1 ab) v'):=
   ((l.out.cv.mono λ_ _ e=>e.elim).trans (P.mono λ_ _ e=>.inr e)).trans (mv.mono λ_ _ e=>.inl e)
  have Z3:v'.ownBlock=(aq A xs.length cap).ownBlock\/∃ j,w.heap.size<=j/\v'.ownBlock=some j:=q.imp id λe=>⟨_,l.out.cv.size,e⟩;have aas:=af aaf;have aar:=af Tq;have aal:=af Z3;have aaq:=af Z_;have aak:=af ZV;have V':=af aah;clear aaf Tq Z3 Z_ ZV aah ZU aag CW Z5 mv Z9 ZL P q aav l zp ZJ;subst aaj;refine h_ 11 (c' _) ?_;clear m' g1 ZM Q';generalize World.setCell _ _ _=aaB at *;have ZQ:=aS aak.o;have f0:=bI V'.o;have z0:=aS V'.o;have r':=af (xF V'.o (I a.k.fr) (I a.k.em) (I a.k.bL) (I a.k.cq));have O:=af (r5 (Keeps.refl (λj=>j=w+1) aaB) rfl (I a.k.fr) (I a.k.em) (I a.k.bL) (I a.k.cq));go_wp2_with fail;have vl:=dx _ _ _ _ r'.o 4 rfl;refine dq (v:=aV #[aQ a.k,I 0]) vl ?_;exact⟨⟨a.k,0,rfl⟩,_,aas.o.keep O.o (by have:=sd.out;omega) (λj f e=>by have:=aaq.o j f;omega),cL aar.o O.o a7,aal.o⟩
 have ZW:=RR y.jb.rt E;rw[ZK.out]at ZW;have N:=bb (k:=3) y.bM rfl;simp only[DP,DO,wZ]at N;rw[ZK.out]at N;have f3:=bI y.bM;have ZG:=af (y.ou sd.out V.out (o+1));rw[<-L,P6]at ZG;have aZ:=af (QW xs d.k (16-o) o g');have T:=af T;clear y g' L E;go_wp2_with fail;go_roundg (17-(o+1))
 case rel=>exact⟨o+1,rfl,U,by rw[<-T.o,show 17-o=(16-o)+1 by omega,aZ.o,show 17-(o+1)=16-o by omega],by push_cast at ZG;exact ZG.o⟩
 omega
variable{bl g bh:J}{v:J->aa}{fr:aa}{xs:ah aB}
def I1{base p:J}{cC:ax}(h:oO w base p fr cC xs):∀ j,cC.ownBlock=some j->base<=j/\j<w.heap.size:=λj a=>by
 obtain⟨A,cap,rfl,_,b⟩:=cS h.row;cases A with
 | none=>simp[Value.ownBlock]at a
 | some x=>have:=b x rfl;rw[this.2.2]at a;cases a;exact⟨this.1,this.2.1⟩
structure St(w:ai)(bl g bh:J)(v:J->aa)(fr:aa)(xs:ah aB):ak where
 bc:w.heap[g]?=some (ae (gT v bh) 458 (0,0))
 wj:∃ cC,oO w bl bh fr cC xs/\cC.ownBlock≠some g
 ne:g≠bh
 o5:bl<=g
 qZ:bl<=bh
namespace St
theorem cell(h:St w bl g bh v fr xs)(k:J)(hk:k<60)(q:IntKind)(a:dt k=q):w.cell? (ad g k ab)=some (.int q (v k)):=by
 subst a;exact bb h.bc (y6 v bh k hk)
def free(h:St w bl g bh v fr xs)(k:J):w.frozen? (ad g k ab)=false:=fx h.bc k
def keeps{S:J->ak}(h:St w bl g bh v fr xs)(hk:Keeps S w w')(h1:∀ j,bl<=j->¬ S j):St w' bl g bh v fr xs:=by
 have⟨cC,au,ar⟩:=h.wj;exact⟨hk.heap h.bc (h1 _ h.o5),⟨cC,au.keep hk (h1 _ h.qZ) (λj a=>h1 j (I1 au j a).1),ar⟩,h.ne,h.o5,h.qZ⟩
def keep(h:St w bl g bh v fr xs)(hk:Keeps aI w w'):St w' bl g bh v fr xs:=h.keeps hk (λ_ _=>id)
def set(h:St w bl g bh v fr xs)(k:J)(hk:k<60)(q:IntKind)(b:dt k=q)(x:aa):St (w.setCell (ad g k ab) (.int q x)) bl g bh (bF v k x) fr xs:=by
 subst b;obtain⟨cC,au,ar⟩:=h.wj;exact⟨by rw[bV h.bc k,WX v bh k x hk],⟨cC,au.keep ((Keeps.refl (λj=>j=g) w).setCell (p:=ad g k ab) rfl (.int (dt k) x)) (hW h.ne) (λj a e=>ar (by rw[a,e])),ar⟩,h.ne,h.o5,h.qZ⟩
def low(h:St w bl g bh v fr xs):bl<=w.heap.size:=by have:=bP h.bc;have:=h.o5;omega
end St
def yJ(em x:aa):aa:=if 0<em then max (-32768) (min (x*32768 / 4194304) 32768)else 0
def j6(em bL a dr dJ le x:aa):aB:=⟨⟨0,em,bL,0⟩,a,dr,yJ em x,dJ,le⟩
def qc(h:St w bl g bh v fr xs)(em bL b dr dJ le x:aa)(s:bj x):aA 352 #[g,I em,I bL,I b,I dr,I dJ,I le,ag x] w λe w'=>e=aV #[]/\St w' bl g bh v fr (h0 fr xs (j6 em bL b dr dJ le x))/\Keeps (λj=>bl<=j) w w':=by
 have au:=bb h.bc (by rw[gT,pz,aD (eg v).symm]);obtain⟨cC,q,ar⟩:=h.wj;obtain⟨ys,t⟩:∃ ys,h0 fr xs (j6 em bL b dr dJ le x)=ys:=⟨_,rfl⟩;have u:aA 366 #[bh,aQ #[I 0,I em,I bL,I 0,I b,I dr,I (yJ em x),I dJ,I le]] w (EI w bl bh fr cC ys):=by
  rw[<-t];exact UG q h.low (j6 em bL b dr dJ le x)
 have f:=af ar;have n:=af (I1 q);have H:=af h;have d:=af u;have z:=s.1;have A:=s.2;rw[t];by_cases p:0<em
 .rw[show yJ em x=_ from aD p]at d
  go_in
  go_wp2_with fail;refine d.o.mono ?_;rintro r aC ⟨⟨k,b0,rfl⟩,m,i,c,a⟩;have h2:St aC bl g bh v fr ys:=⟨c.heap H.out.bc (λe=>e.elim H.out.ne f.out),⟨m,i,λe=>by
   rcases a with a|⟨j,y,a⟩
   .exact f.out (by rw[<-a,e])
   .rw[a]at e;cases e;have:=bP H.out.bc;omega⟩,H.out.ne,H.out.o5,H.out.qZ⟩
  have l:=c.mono (T:=λj=>bl<=j) (λj _ e=>e.elim (λe=>by rw[e];exact H.out.qZ) (λe=>(n.out j e).1));go_wp2;go_end0;exact⟨rfl,h2,l⟩
 rw[show yJ em x=_ from az p]at d
 go_in
 go_wp2_with fail;refine d.out.mono ?_;rintro r aC ⟨⟨k,b0,rfl⟩,m,i,c,a⟩;have h2:St aC bl g bh v fr ys:=⟨c.heap H.out.bc (λe=>e.elim H.out.ne f.out),⟨m,i,λe=>by
  rcases a with a|⟨j,y,a⟩
  .exact f.out (by rw[<-a,e])
  .rw[a]at e;cases e;have:=bP H.out.bc;omega⟩,H.out.ne,H.out.o5,H.out.qZ⟩
 have l:=c.mono (T:=λj=>bl<=j) (λj _ e=>e.elim (λe=>by rw[e];exact H.out.qZ) (λe=>(n.out j e).1));go_wp2;go_end0;exact⟨rfl,h2,l⟩
def ed(bS b:aa):aY:=bits .and .u8 bS b != 0
def tI(i b:aa)(w:ai):aA 349 #[aF i,aF b] w λe w'=>e=.returned (.bool (ed i b))/\w=w':=by
 go_in
 go_wp2;go_ret;exact⟨rfl,rfl⟩
def hN(f l:aa):aa:=eh (rT f) l
def hO(f l:aa):aa:=eh (nn f) l
def ye(f l:aa)(h:bj l)(w:ai):aA 362 #[I f,ag l] w λe w'=>e=.returned (aQ #[ag (hN f l),ag (hO f l)])/\Below w w w':=by
 have cb:=(b3 w.heap.size w).alloc bs (ae c2 91);unfold hN hO
 go_in
 go_wp2_with fail;refine bA ((X9 f) _) ?_;go_wp2_with fail;refine bA ((KI f) _) ?_;go_wp2_with fail;refine aU (((CB (rT f) (nn f) l (Ki _) (Ki f) h)) _) λao h1=>?_;have a:=(Keeps.bD (S:=aI) h1 a7).heap (aX w (ae c2 91)) id;generalize i:eh (rT f) l=x at *;generalize k:eh (nn f) l=y at *;have g:=af k;have g0:=bI a;have m:=aS a;have b:=cb.trans (h1.mono cb.size);have c:=af (bV (bV a 0 (ag x)) 1 (ag y));have d:=af (b.trans ((((Keeps.refl (λj=>j=w) ao).setCell (p:=ad w 0 ab) rfl (ag x)).setCell (p:=ad w 1 ab) rfl (ag y)).below b.size a7));go_wp2_with fail;refine dq (v:=aQ #[ag x,ag y]) (dx _ _ _ _ c.o 2 rfl) ?_;exact⟨by rw[i,g.o],d.o⟩
end Go.Proofs.YtalagblioepadaaGreatDoor
