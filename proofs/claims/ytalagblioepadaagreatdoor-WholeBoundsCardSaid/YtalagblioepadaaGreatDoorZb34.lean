/- The proof, part 34. -/
import Derived.Test.YtalagblioepadaaGreatDoorZb33
import Derived.Shelf.Spec.SlicesInsertGrow
namespace Go.Proofs.YtalagblioepadaaGreatDoor
set_option linter.all false
open Proofs.Tryz List Go.RowKit Go.Shelf Go.Lib
set_option maxRecDepth 100000
set_option maxHeartbeats 1000000
def uK{p:ak}(h:p:=by simp[Act.eval,Act.put]):p:=h
def D9{p:ak}(h:p:=by have:=V.out _ e;omega):p:=h
def L5{p:ak}(h:p:=by rw[c,show Nat.min 1 (xs.length+1-i)=1 from oq U]):p:=h
def LQ{p:ak}(h:p:=by
 have t:ys=xs:=by rw[Zc.o,aD U]
 subst t;have f0:=bJ Q.o.rs;have z0:=aP Q.o.rs;have vl:=xj Q.o.rs (I 0) (I 0) (I 0) (I 0);have zp:=rS (Keeps.refl (λj=>j=w+1) aB) rfl (I 0) (I 0) (I 0) (I 0);have sd:=af vl;have O:=af zp;clear vl zp;go_wp2_with fail;have zd:=dv _ _ _ _ sd.o 4 rfl;refine dn (v:=aV #[aM z4,I 8]) zd ?_;exact⟨⟨⟨0,0,0,0⟩,8,rfl⟩,_,Q.o.iV.keep O.o (by have:=s'.o;omega) (λj f e=>by have:=V.o j f;omega),cK (Q.o.cv.mono λ_ _ e=>e.elim) O.o a7,.inl rfl⟩
 ):p:=h
def Mp{p:ak}(h:p:=by
 simp only[pP];by_cases b0:eP a.fr b.fr=0
 .rw[aD b0];by_cases bs:eP a.em b.em=0
  .rw[aD bs];by_cases ez:eP a.bN b.bN=0
   .rw[aD ez];by_cases dR:eP a.cp b.cp=0
    .rw[aD dR];omega
    rw[aA dR];omega
   rw[aA ez];omega
  rw[aA bs];omega
 rw[aA b0];omega
 ):p:=h
def M8{p:ak}(h:p:=by
 rw[<-nc,q,dD,mu U,f,show i*9+j-i*9=j by omega,jL (hf.1 r).1];exact r
 ):p:=h
variable{w w':ai}
def yE{P:Program}(w:ai)(h s ty d:TypeId)(k g o c l:J)(a:Addr)(f r:J)(b:a6 aw)(t:TypeId)(cs:ah aw)(q:P.underlying h=some (.slice d))(ax:(P.info? d).map (·.size)=some k)(a1:w.heap[g]?=some (ae b t (0,0)))(au:cs.length=Nat.min f c*k)(n:∀ j v,cs[j]?=some v->w.cell? (a.add j)=some v)(m:o+cs.length<=b.size)(h1:∀ v∈cs,v.oneCell'=true):(Builtin.copy_ #[h,s] ty #[ao (some (ad g o ab)) c l,ao (some a) f r]).run P w =
   .ok (goInt (Nat.min f c:J)) (w.setRow g (b.toList.take o++cs++b.toList.drop (o+cs.length)).toArray):=by
 have p:=Da P g o t cs 0 b w a1 (by simpa using m) h1;cases e:P.info? d with
 | none=>simp[e]at ax
 | some i=>
  have av:i.size=k:=by simpa[e]using ax
  simp[Builtin.copy_,q3 q,Builtin.lenOf,Builtin.firstCells,sizeOf,typeInfo,e,av,<-au,(wB (P:=P) w a cs n),p]
def Fi{b:J}{cs:a6 aw}{t:TypeId}(h:w.heap[b]?=some (ae cs t (0,0))):w.shape? b=some (t,cs.size):=by
 unfold World.shape?;rw[h]
def TK{dH g o dz fa lb fA:J}{cs a:a6 aw}(hne:dH≠g)(aX:w.heap[dH]?=some (ae cs 45 (0,0)))(a1:w.heap[g]?=some (ae a 45 (0,0)))(aq:a.size≠0):(callFunc 386 #[ao (some (ad dH 0 ab)) dz fa,ao (some (ad g o ab)) lb fA]).run prog w=.ok (.value (.bool false)) w:=by
 have b:∀ w,(Go.sizeOf 45).run prog w=.ok 9 w:=λw=>aH
 rw[run_callFunc_extern func386 aH aH aH (e:=Extern.SlicesOverlaps.overlaps #[66,66] #[4]) aH,
  Lib.run_overlaps_apart w 66 4 45 underlying66 9 b (ad dH 0 ab) (ad g o ab) dz fa lb fA hne 45 45 cs.size a.size (Fi aX) (Fi a1) aq (fJ aX 0) (fJ aX _)]
 rfl
def x1:∃ i,prog.info? 45=some i/\i.zero=some (aM z9)/\i.size=9/\i.bytes=72:=by
 have h:(prog.info? 45).map (λi=>(i.zero,i.size,i.bytes))=some (some (aM z9),9,72):=aH;cases aR:prog.info? 45 with
 | none=>rw[aR]at h;cases h
 | some i=>rw[aR]at h;simp only[pb,hi,jq]at h;exact⟨i,rfl,h⟩
def rK(l:ah aC):∀ u∈bX l,u.oneCell'=true:=by
 intro u b;obtain⟨e,_,a⟩:=wI.1 b;simp only[aC.bt,e3,uz,or_false]at a;rcases a with rfl|rfl|rfl|rfl|rfl|rfl|rfl|rfl|rfl<;>rfl
def vr(e:aC):bX [e]=e.bt:=by simp[bX]
def vq(a b:ah aC):bX (a++b)=bX a++bX b:=by simp[bX]
def Gc(e:aC)(b:ah aC):bX (e :: b)=e.bt++bX b:=by simp[bX]
def w4(w:ai)(base:J)(v:aw)(ys:ah aC)(r:Ending)(w':ai):ak:=
 ∃ v',r=.returned v'/\w'.ownsRow base 45 9 v' ys.length (bX ys)/\Keeps (λj=>v.ownBlock=some j) w w'/\(v'.ownBlock=v.ownBlock\/v'.ownBlock=some w.heap.size)
def PE{base:J}(xs:ah aC)(v:aw)(a:w.ownsRow base 45 9 v xs.length (bX xs))(g:base<=w.heap.size)(au:xs.length<=1000)(e:aC)(dH:J)(aX:w.heap[dH]?=some (ae e 45 (0,0))):az 380 #[v,I xs.length,ao (some (ad dH 0 ab)) 1 1] w (w4 w base v (xs++[e])):=by
 obtain⟨q,i,m,n,p⟩:=x1;have d:=af a;obtain⟨A,cap,rfl,_,_⟩:=cP a;have f:dQ w 9 (some (ad dH 0 ab)) 1 1 e.bt:=uj (xs:=e.bt) aX rfl jR;have h1:∀ u∈e.bt,u.oneCell'=true:=by rw[<-vr];exact rK [e]
 have c:=af f;have b:=af h1
 go_in
 go_wp2_with (at_builtin;refine CL _ rfl (.tmp 23) (.tmp 24) _ rfl base 45 q _ 9 72 underlying66 i m n p rfl U _ xs.length (bX xs) rfl d.o (some (ad dH 0 ab)) 1 1 e.bt rfl c.o b.o pj U g ?_)
 all_goals
  intro r aB l h k;go_wp2_with fail;go_ret;refine⟨r,rfl,?_,(Keeps.refl _ w).grown h (λj e=>.inl (by revert e;cases A<;>exact id)),by revert k;cases A<;>exact id⟩;rw[vq,vr,cx];exact l
def RO{α:Type}{L X D E R:List α}(a:L=X++D++R)(c:E.length<=R.length):((((L.take (X.length+E.length)++D++L.drop (X.length+E.length+D.length)).take X.length++E++(L.take (X.length+E.length)++D++L.drop (X.length+E.length+D.length)).drop (X.length+E.length))).take (X.length+E.length+D.length)=X++E++D):=by
 have b:(L.take (X.length+E.length)).length=X.length+E.length:=by
  rw[gw,a];simp only[cx];omega
 have h1:(L.take (X.length+E.length)++D++L.drop (X.length+E.length+D.length)).take X.length=X:=by
  rw[dD,zs U,take_take,oq U,a,dD,zt]
 have h2:(L.take (X.length+E.length)++D++L.drop (X.length+E.length+D.length)).drop (X.length+E.length)=D++L.drop (X.length+E.length+D.length):=by
  rw[dD,wC b]
 rw[h1,h2,<-dD,rb (by simp only[cx])]
def PG{base:J}(xs:ah aC)(g cap:J)(d:a6 aw)(M:base<=g)(p:w.heap[g]?=some (ae d 45 (0,0)))(N:xs.length+1<=cap)(O:cap<=maxLen)(R:d.size=cap*9)(F:d.toList.take (xs.length*9)=bX xs)(au:xs.length<=1000)(i:J)(av:i<xs.length)(e:aC)(dH:J)(aX:w.heap[dH]?=some (ae e 45 (0,0)))(hne:dH≠g):az 380 #[ao (some (ad g 0 ab)) xs.length cap,I i,ao (some (ad dH 0 ab)) 1 1] w (w4 w base (ao (some (ad g 0 ab)) xs.length cap) (xs.take i++e :: xs.drop i)):=by
 have q:d.toList=bX (xs.take i)++bX (xs.drop i)++d.toList.drop (xs.length*9):=by
  rw[<-vq,lR,<-F,lR]
 have f:(bX (xs.take i)).length=i*9:=by rw[ti,gw,oq U]
 have k:(bX (xs.drop i)).length=(xs.length-i)*9:=by rw[ti,gd]
 have c:e.bt.length=9:=rfl;have t:d.toList.length=cap*9:=by rw[pe];exact R
 have y:∀ j u,(bX (xs.drop i))[j]?=some u->d[i*9+j]?=some u:=λj u r=>by
  exact M8
 have⟨b,m⟩:=cQ (d.toList.take ((i+1)*9)++bX (xs.drop i)++d.toList.drop ((i+1)*9+(bX (xs.drop i)).length));have C:b.length=cap*9:=by
  rw[m];simp only[cx,gw,gd,t,k];omega
 have P:∀ ty h dd,(Builtin.copy_ #[66,66] ty #[ao (some (ad g ((i+1)*9) ab)) (xs.length-i) h,ao (some (ad g (i*9) ab)) (xs.length+1-i) dd]).run prog w.drew=.ok (goInt (Nat.min (xs.length+1-i) (xs.length-i):J)) (w.drew.setRow g b.toArray):=λty h dd=>by
  rw[m];exact yE w.drew 66 66 ty 45 9 g ((i+1)*9) _ h (ad g (i*9) ab) _ dd d 45 (bX (xs.drop i)) underlying66 aH p (by rw[k,show Nat.min (xs.length+1-i) (xs.length-i)=xs.length-i from Dx U]) (λj v x=>by rw[hN];exact bb (w:=w.drew) p (y j v x)) (by rw[k];omega) (rK _)
 have s:=fe w.drew g d b.toArray 45 p;have⟨l,n⟩:=cQ (b.take (i*9)++e.bt++b.drop (i*9+9));have z:∀ ty h,(Builtin.copy_ #[66,66] ty #[ao (some (ad g (i*9) ab)) (xs.length+1-i) h,ao (some (ad dH 0 ab)) 1 1]).run prog (w.drew.setRow g b.toArray)=.ok (goInt (Nat.min 1 (xs.length+1-i):J)) ((w.drew.setRow g b.toArray).setRow g l.toArray):=λty h=>by
  rw[n];exact yE (w.drew.setRow g b.toArray) 66 66 ty 45 9 g (i*9) _ h (ad dH 0 ab) 1 1 b.toArray 45 e.bt underlying66 aH s L5 (λj v x=>by rw[hN,gv];exact bb ((iB w.drew g b.toArray).heap (a:=w.drew) aX hne) (by rw[<-nc];exact x)) (by rw[c];simp only[gR];omega) (by rw[<-vr];exact rK [e])
 have hfin:((w.drew.setRow g b.toArray).setRow g l.toArray).ownsRow base 45 9 (ao (some (ad g 0 ab)) (xs.length+1) cap) (xs.length+1) (bX (xs.take i++e :: xs.drop i)):=by
  have aN:=RO (E:=e.bt) q (by rw[c,gd,t];omega);rw[f,c,show i*9+9=(i+1)*9 by omega,<-m,show(i+1)*9=i*9+9 by omega,<-n]at aN;have A:bX (xs.take i++e :: xs.drop i)=bX (xs.take i)++e.bt++bX (xs.drop i):=by rw[vq,Gc,dD]
  refine⟨by rw[A];simp only[cx,f,c,k];omega,.inr ⟨g,cap,l.toArray,rfl,M,fe _ g _ l.toArray 45 s,N,O,?_,?_⟩⟩
  .rw[n];simp only[gR,cx,gw,gd,C,c];omega
  rw[A,<-aN,k]
  congr 1
  omega
 have B:Keeps (λj=>(ao (some (ad g 0 ab)) xs.length cap).ownBlock=some j) w ((w.drew.setRow g b.toArray).setRow g l.toArray):=
  (((Keeps.refl (λj=>j=g) w).drew.trans (iB _ g _)).trans (iB _ g _)).mono λj _ e=>by rw[e];rfl
 have D:(xs.take i++e :: xs.drop i).length=xs.length+1:=by
  simp only[cx,gw,dr,gd];omega
 have H:=af hfin;have K:=af B;have L:=af D;have G:=af z;have Q:∀ o lb fA,(callFunc 386 #[ao (some (ad dH 0 ab)) 1 1,ao (some (ad g o ab)) lb fA]).run prog w=.ok (.value (.bool false)) w:=λo lb fA=>TK hne aX p U;have a':prog.follows .mixedOrders=true:=aH;have S:(0:aa)<=(i:aa)+1:=U;have X:i<=xs.length:=U;have Y:((i:aa)+1).toNat=i+1:=U;have Z:IntKind.i64.wrap ((i:aa)+1)=(i:aa)+1:=et _ U;have T:¬ (cap=i+1):=U;have V:(i:aa)<=(xs.length:aa)+1:=U;have W:¬ (cap=i):=U;clear hfin B z s y q f k c t C m n F D
 go_in
 go_wp2_with simp only[Q]
 go_region_law_o (refine step_copy_runI rfl _ _ 66 66 rfl _ _ uK uK (P _ _ _) ?_)
 go_wp2_with fail;simp only[G.o,hg];go_wp2_with fail;go_ret;exact⟨_,rfl,by rw[L.o];exact H.o,K.o,.inl rfl⟩
def RP{α:Type}{X D E R:List α}:((((X++R).take X.length++E++(X++R).drop (X.length+E.length)).take (X.length+E.length)++D++((X++R).take X.length++E++(X++R).drop (X.length+E.length)).drop (X.length+E.length+D.length)).take (X.length+E.length+D.length))=X++E++D:=by
 have h:((X++R).take X.length++E++(X++R).drop (X.length+E.length)).take (X.length+E.length)=X++E:=by
  rw[zt,rb (by simp only[cx])]
 rw[h,rb (by simp only[cx])]
def PF{base:J}(ps:base<=w.heap.size)(xs:ah aC)(g cap:J)(k:a6 aw)(F:w.heap[g]?=some (ae k 45 (0,0)))(zd:¬ xs.length+1<=cap)(CW:xs.length<=cap)(Q':k.size=cap*9)(fr:k.toList.take (xs.length*9)=bX xs)(au:xs.length<=1000)(i:J)(av:i<xs.length)(e:aC)(dH:J)(aX:w.heap[dH]?=some (ae e 45 (0,0))):az 380 #[ao (some (ad g 0 ab)) xs.length cap,I i,ao (some (ad dH 0 ab)) 1 1] w (w4 w base (ao (some (ad g 0 ab)) xs.length cap) (xs.take i++e :: xs.drop i)):=by
 obtain⟨i0,W,gf,L,d⟩:=x1;obtain rfl:cap=xs.length:=U;have q:k.toList=bX (xs.take i)++bX (xs.drop i)++k.toList.drop (xs.length*9):=by
  rw[<-vq,lR,<-fr,lR]
 have f:(bX (xs.take i)).length=i*9:=by rw[ti,gw,oq U]
 have m:(bX (xs.drop i)).length=(xs.length-i)*9:=by rw[ti,gd]
 have c:e.bt.length=9:=rfl;have S:∀ j u,(bX (xs.take i))[j]?=some u->k[j]?=some u:=λj u r=>by
  rw[<-nc,q,dD,jL (hf.1 r).1];exact r
 have Q:∀ j u,(bX (xs.drop i))[j]?=some u->k[i*9+j]?=some u:=λj u r=>by
  exact M8
 have hold:(Builtin.firstCells i0.size i (ao (some (ad g 0 ab)) i xs.length)).run prog w.drew=.ok (bX (xs.take i)).toArray w.drew:=by
  rw[L];exact run_firstCells_some (w:=w.drew) 9 i (ad g 0 ab) i xs.length (bX (xs.take i)) f (λj v p=>by rw[hN,gv];exact bb (w:=w.drew) F (S j v p))
 have s:=λty=>run_append_grow_zeros (P:=prog) (ty:=ty) w 66 3 45 i0 _ .i64 .i64 underlying66 underlying3 W gf (some (ad g 0 ab)) i xs.length (bX (xs.take i)) hold (xs.length+1-i) U (by rw[L];omega) U U uQ (by rw[d,show i+(xs.length+1-i)=xs.length+1 by omega];exact growslice_fits U U);rw[show i+(xs.length+1-i)=xs.length+1 by omega]at s;have⟨G,z⟩:=cQ (grownCap w (xs.length+1) xs.length 45);have m':xs.length+1<=G:=by rw[z];exact C9 w _ _ _
 have M:G<=maxLen:=by rw[z];exact grownCap_le_maxLen w _ _ _ jR
 rw[<-z]at s;obtain⟨R,N,A⟩:∃ R:ah aw,(bX (xs.take i)).toArray++Builtin.zeroCells (aM z9).cells (xs.length+1-i)++Builtin.zeroCells (aM z9).cells (G-(xs.length+1))=(bX (xs.take i)++R).toArray/\R.length=(G-i)*9:=by
  refine⟨(Builtin.zeroCells (aM z9).cells (xs.length+1-i)).toList++(Builtin.zeroCells (aM z9).cells (G-(xs.length+1))).toList,?_,?_⟩
  .apply Array.ext';simp
  simp[Builtin.zeroCells,Value.cells];omega
 rw[N]at s;have H:∀ ty,(Builtin.append_ #[66,3] ty #[ao (some (ad g 0 ab)) i xs.length,I ((xs.length:aa)+1-(i:aa))]).run prog w=.ok (ao (some (ad w 0 ab)) (xs.length+1) G) (w.drew.alloc (ae (bX (xs.take i)++R).toArray 45)):=λty=>by
  have:=s ty
  rwa [show((xs.length+1-i:J):aa)=(xs.length:aa)+1-(i:aa)by omega]at this
 have zp:=bR F;have Tq:=bR aX;have n:=aW w.drew (ae (bX (xs.take i)++R).toArray 45);have t:Keeps aG w (w.drew.alloc (ae (bX (xs.take i)++R).toArray 45)):=(Keeps.refl _ w).drew.alloc _;have K:=t.heap aX id;have C:=t.heap F id;obtain⟨b,O⟩:=cQ (w.drew.alloc (ae (bX (xs.take i)++R).toArray 45));rw[<-O]at H n t K C;have n:=n;obtain⟨a,x⟩:∃ a,a=(bX (xs.take i)++R).take (i*9)++e.bt++(bX (xs.take i)++R).drop (i*9+9):=⟨_,rfl⟩;have Z:a.length=G*9:=by
  rw[x];simp only[cx,gw,gd,f,c,A];omega
 have T:∀ ty l,(Builtin.copy_ #[66,66] ty #[ao (some (ad w (i*9) ab)) (xs.length+1-i) l,ao (some (ad dH 0 ab)) 1 1]).run prog b=.ok (goInt (Nat.min 1 (xs.length+1-i):J)) (b.setRow w.heap.size a.toArray):=λty l=>by
  rw[x];exact yE b 66 66 ty 45 9 w.heap.size (i*9) _ l (ad dH 0 ab) 1 1 (bX (xs.take i)++R).toArray 45 e.bt underlying66 aH n L5 (λj v p=>by rw[hN,gv];exact bb K (by rw[<-nc];exact p)) (by rw[c];simp only[gR,cx,f,A];omega) (by rw[<-vr];exact rK [e])
 have B:=fe b w.heap.size _ a.toArray 45 n;obtain⟨h,y⟩:∃ h,h=a.take ((i+1)*9)++bX (xs.drop i)++a.drop ((i+1)*9+(bX (xs.drop i)).length):=⟨_,rfl⟩;have r':∀ ty l dd,(Builtin.copy_ #[66,66] ty #[ao (some (ad w ((i+1)*9) ab)) (xs.length-i) l,ao (some (ad g (i*9) ab)) (xs.length-i) dd]).run prog (b.setRow w.heap.size a.toArray).drew=.ok (goInt (Nat.min (xs.length-i) (xs.length-i):J)) ((b.setRow w.heap.size a.toArray).drew.setRow w.heap.size h.toArray):=λty l dd=>by
  rw[y];exact yE (b.setRow w.heap.size a.toArray).drew 66 66 ty 45 9 w.heap.size ((i+1)*9) _ l (ad g (i*9) ab) _ dd a.toArray 45 (bX (xs.drop i)) underlying66 aH B (by rw[m,show Nat.min (xs.length-i) (xs.length-i)=xs.length-i from Nat.min_self _]) (λj v p=>by rw[hN];exact bb (w:=(b.setRow w.heap.size a.toArray).drew) ((iB b w.heap.size a.toArray).heap C U) (Q j v p)) (by rw[m];simp only[gR];omega) (rK _)
 have hfin:((b.setRow w.heap.size a.toArray).drew.setRow w.heap.size h.toArray).ownsRow base 45 9 (ao (some (ad w 0 ab)) (xs.length+1) G) (xs.length+1) (bX (xs.take i++e :: xs.drop i)):=by
  have aN:=RP (X:=bX (xs.take i)) (E:=e.bt) (D:=bX (xs.drop i)) (R:=R);rw[f,c,<-x,show i*9+9=(i+1)*9 by omega,<-y]at aN;have V:bX (xs.take i++e :: xs.drop i)=bX (xs.take i)++e.bt++bX (xs.drop i):=by rw[vq,Gc,dD]
  refine⟨by rw[V];simp only[cx,f,c,m];omega,.inr ⟨w,G,h.toArray,rfl,ps,(fe (b.setRow w.heap.size a.toArray).drew w.heap.size _ h.toArray 45 B),m',M,?_,?_⟩⟩
  .rw[y];simp only[gR,cx,gw,gd,Z,m];omega
  rw[V,<-aN,m]
  congr 1
  omega
 have Y:Keeps (λj=>(ao (some (ad g 0 ab)) xs.length xs.length).ownBlock=some j) w ((b.setRow w.heap.size a.toArray).drew.setRow w.heap.size h.toArray):=
  cK (kQ t) (((iB b w.heap.size a.toArray).drew).trans (iB _ _ _)) a7
 have a':(xs.take i++e :: xs.drop i).length=xs.length+1:=by
  simp only[cx,gw,dr,gd];omega
 have hd:=af hfin;have h2:=af Y;have lb:=af a';have l':=af H;have g':=af T;have T':prog.follows .mixedOrders=true:=aH;have v':(0:aa)<=(i:aa)+1:=U;have Aw:i<=xs.length:=U;have St:((i:aa)+1).toNat=i+1:=U;have TS:IntKind.i64.wrap ((i:aa)+1)=(i:aa)+1:=et _ U;have w':(i:aa)<=(xs.length:aa)+1:=U;have ys:¬ (xs.length=i):=U;have s':¬ (G=i):=U;have vl:¬ (G=i+1):=U;have sd:G<=9223372036854775807:=M;clear hfin Y T K n B C Q S q f m c Z x y fr a' H s N A hold t O W gf L d z
 go_in
 go_wp2_with (at_builtin;refine Lib.wpList_append_run _ rfl (.tmp 34) (.tmp 39) 66 3 rfl (ao (some (ad g 0 ab)) i xs.length) (I ((xs.length:aa)+1-(i:aa))) rfl rfl _ _ (l'.o _) ?_);simp only[g'.o,hg];go_wp2_with fail
 go_region_law_o (refine step_copy_runI rfl _ _ 66 66 rfl _ _ uK uK (r' _ _ _) ?_)
 go_wp2_with fail;go_ret;exact⟨_,rfl,by rw[lb.o];exact hd.o,h2.o,.inr rfl⟩
def PC{base:J}(xs:ah aC)(v:aw)(f:w.ownsRow base 45 9 v xs.length (bX xs))(c:base<=w.heap.size)(au:xs.length<=1000)(i:J)(av:i<=xs.length)(e:aC)(dH:J)(aX:w.heap[dH]?=some (ae e 45 (0,0)))(hne:v.ownBlock≠some dH):az 380 #[v,I i,ao (some (ad dH 0 ab)) 1 1] w (w4 w base v (xs.take i++e :: xs.drop i)):=by
 by_cases h:i=xs.length
 .subst h;rw[nk,drop_length];exact PE xs v f c au e dH aX
 obtain⟨_,a⟩:=f;rcases a with⟨rfl,o⟩|⟨g,cap,b,rfl,l,d,n,m,j,k⟩
 .omega
 by_cases a:xs.length+1<=cap
 .exact PG xs g cap b l d a m j k au i U e dH aX (λe=>hne (by rw[e];rfl))
 exact PF c xs g cap b d a n j k au i U e dH aX
structure pq(xs:ah aC)(bS cM en:J)(t:aC)(W:ai):ak where
 aq:∀ (j:J) u,(bX xs)[j]?=some u->W.cell? (ad bS (cM+j) ab)=some u
 bM:W.heap[en]?=some (ae t 45 (0,0))
theorem pq.keep{xs:ah aC}{bS cM en:J}{t:aC}{W W':ai}(h:pq xs bS cM en t W)(hk:Keeps aG W W'):pq xs bS cM en t W':=
 ⟨λj u a=>hk.cell (h.aq j u a) id,hk.heap h.bM id⟩
theorem pq.cell{xs:ah aC}{bS cM en:J}{t:aC}{W:ai}(h:pq xs bS cM en t W)(i:J)(av:i<xs.length)(j:J)(a:j<9){u:aw}(b:xs[i].bt[j]?=some u):W.cell? (ad bS (cM+i*9+j) ab)=some u:=by
 rw[iN];exact h.aq _ _ ((th xs i av j a).trans b)
def PK(xs:ah aC){A:b4 Addr}{cap:J}(s:dQ w 9 A xs.length cap (bX xs))(au:xs.length<=1000)(t:aC)(m:J)(hm:m<=xs.length)(Y:∀ i (av:i<xs.length),i<m->eC xs[i].k t.k<0)(X:∀ i (av:i<xs.length),m<=i->¬ eC xs[i].k t.k<0):az 378 #[ao A xs.length cap,aM t,.func (.func 379) #[] #[]] w λr w'=>
   r=aV #[I m,(decide (∃ h:m<xs.length,eC xs[m].k t.k=0))]/\Below w w w':=by
 have ca:=(bY w.heap.size w).alloc bA (ae t 45);have T:=aW w (ae t 45);have R:=s.keeps (S:=aG) ((Keeps.refl _ w).alloc (ae t 45)) (λ_ _ _=>id);have L:=af R;have M:=af T;have gS:=af ca;have O:=af Y;have N:=af X
 go_in
 go_wp2_with fail;generalize World.alloc w _=bl at *;go_loopg [9,10,11] xs.length (λg i j _ wr=>∃ p q:J,g=q-p/\i=I p/\j=I q/\p<=m/\m<=q/\q<=xs.length/\Keeps aG bl wr)
 case atStart=>exact⟨0,xs.length,rfl,rfl,rfl,c' _,hm,c9 _,Keeps.refl _ _⟩
 obtain⟨p,q,a1,rfl,rfl,ar,P,Q,hk⟩:=hrel;by_cases s':p<q
 .have aR:(p+q) / 2<xs.length:=U;have s:=L.o.keeps hk (λ_ _ _=>id);obtain⟨bS,cM,rfl,aq⟩:=s.at' U;have D:pq xs bS cM w.heap.size t wr:=⟨aq,hk.heap M.o id⟩;have C:=af D;have l:=af hk;go_upto_region 5 with fail
  have sd:p<=(p+q) / 2/\(p+q) / 2<q:=U;rw[show((p:aa)+(q:aa)) / 2=(((p+q) / 2:J):aa)by omega];generalize (p+q) / 2=h at *;obtain⟨G,a⟩:=hj (F:=λW=>pq xs bS cM w.heap.size t W);have a':∀ x:bp G,x.to.cell? (ad bS (cM+h*9) ab)=some (I xs[h].k.fr):=λx=>((a _).1 x.held).cell h aR 0 U rfl;have gf:∀ x:bp G,x.to.cell? (ad bS (cM+h*9+1) ab)=some (I xs[h].k.em):=λx=>((a _).1 x.held).cell h aR 1 U rfl;have g':∀ x:bp G,x.to.cell? (ad bS (cM+h*9+2) ab)=some (I xs[h].k.bN):=λx=>((a _).1 x.held).cell h aR 2 U rfl;have hd:∀ x:bp G,x.to.cell? (ad bS (cM+h*9+3) ab)=some (I xs[h].k.cp):=λx=>((a _).1 x.held).cell h aR 3 U rfl;have h2:∀ x:bp G,x.to.cell? (ad bS (cM+h*9+4) ab)=some (I xs[h].cF):=λx=>((a _).1 x.held).cell h aR 4 U rfl;have lb:∀ x:bp G,x.to.cell? (ad bS (cM+h*9+5) ab)=some (I xs[h].dq):=λx=>((a _).1 x.held).cell h aR 5 U rfl;have l':∀ x:bp G,x.to.cell? (ad bS (cM+h*9+6) ab)=some (I xs[h].eo):=λx=>((a _).1 x.held).cell h aR 6 U rfl;have m':∀ x:bp G,x.to.cell? (ad bS (cM+h*9+7) ab)=some (I xs[h].dJ):=λx=>((a _).1 x.held).cell h aR 7 U rfl;have ps:∀ x:bp G,x.to.cell? (ad bS (cM+h*9+8) ab)=some (I xs[h].le):=λx=>((a _).1 x.held).cell h aR 8 U rfl;have Z:=λx:bp G=>aP (((a _).1 x.held).bM);have b:=(a _).2 (C.o.keep (Keeps.refl _ wr).drew);have f:=af (λW=>F_ xs[h] t W);exact Lg
 obtain rfl:p=m:=U;obtain rfl:q=p:=U;by_cases H:q<xs.length
 .have aR:=H;have s:=L.o.keeps hk (λ_ _ _=>id);obtain⟨bS,cM,rfl,aq⟩:=s.at' U;have D:pq xs bS cM w.heap.size t wr:=⟨aq,hk.heap M.o id⟩;have C:=af D;have l:=af hk;obtain⟨G,a⟩:=hj (F:=λW=>pq xs bS cM w.heap.size t W);have a':∀ x:bp G,x.to.cell? (ad bS (cM+q*9) ab)=some (I xs[q].k.fr):=λx=>((a _).1 x.held).cell q aR 0 U rfl;have gf:∀ x:bp G,x.to.cell? (ad bS (cM+q*9+1) ab)=some (I xs[q].k.em):=λx=>((a _).1 x.held).cell q aR 1 U rfl;have g':∀ x:bp G,x.to.cell? (ad bS (cM+q*9+2) ab)=some (I xs[q].k.bN):=λx=>((a _).1 x.held).cell q aR 2 U rfl;have hd:∀ x:bp G,x.to.cell? (ad bS (cM+q*9+3) ab)=some (I xs[q].k.cp):=λx=>((a _).1 x.held).cell q aR 3 U rfl;have h2:∀ x:bp G,x.to.cell? (ad bS (cM+q*9+4) ab)=some (I xs[q].cF):=λx=>((a _).1 x.held).cell q aR 4 U rfl;have lb:∀ x:bp G,x.to.cell? (ad bS (cM+q*9+5) ab)=some (I xs[q].dq):=λx=>((a _).1 x.held).cell q aR 5 U rfl;have l':∀ x:bp G,x.to.cell? (ad bS (cM+q*9+6) ab)=some (I xs[q].eo):=λx=>((a _).1 x.held).cell q aR 6 U rfl;have m':∀ x:bp G,x.to.cell? (ad bS (cM+q*9+7) ab)=some (I xs[q].dJ):=λx=>((a _).1 x.held).cell q aR 7 U rfl;have ps:∀ x:bp G,x.to.cell? (ad bS (cM+q*9+8) ab)=some (I xs[q].le):=λx=>((a _).1 x.held).cell q aR 8 U rfl;have Z:=λx:bp G=>aP (((a _).1 x.held).bM);have b:=(a _).2 (C.o.keep (Keeps.refl _ wr).drew);have f:=af (λW=>F_ xs[q] t W);have u:=af (λ(W W':ai) (y:G W) (aj:Below W W W')=>(a W').2 (((a W).1 y).keep (Keeps.bE aj a7)));have bw:=l.o.drew;go_wp2_with fail;refine cB 16 ?_;refine cC (G) (.range 16) 0 16 ?_;refine de (b) (.range 11) 5 ?_;generalize wr.drew=z at *;refine dC 11 λK v=>?_;go_simp;refine aT (f.o z) λaB c=>?_;have d:=u.o _ _ b c;refine v _ _ (d) ?_;refine de (d) [12,13,14,15] 0 ?_;refine mL ?_;have n:=bw.trans (Keeps.bE (S:=aG) c a7);have B:=gS.o.trans (n.below gS.o.size (λ_ _ e=>e));go_wp2_with fail;have E:(eC xs[q].k t.k == 0)=decide (∃ h:q<xs.length,eC xs[q].k t.k=0):=by
   by_cases e:eC xs[q].k t.k=0
   .simp[e,H]
   simp[e]
  go_ret2;exact⟨by rw[<-E];rfl,B⟩
 have B:=gS.o.trans (hk.below gS.o.size (λ_ _ e=>e));have E:decide (∃ h:q<xs.length,eC xs[q].k t.k=0)=false:=by simp[H]
 obtain rfl:q=xs.length:=U;go_wp2_with fail;go_quiet (fail);have V:=B.trans (((a_ wr).drewN nq).below B.size (λ_ _ e=>e));go_wp2_with fail;go_ret2;exact⟨by rw[E];rfl,V⟩
def xo(a b:aa):eP a b<0↔a<b:=by
 unfold eP;split
 .omega
 split<;>omega
def qu(a b:aa):eP a b=0↔a=b:=by
 unfold eP;split
 .omega
 split<;>omega
def kl(a b:dp):ak:=a.fr<b.fr\/(a.fr=b.fr/\(a.em<b.em\/(a.em=b.em/\(a.bN<b.bN\/(a.bN=b.bN/\a.cp<b.cp)))))
def kL(a b:dp):eC a b<0↔kl a b:=by
 unfold eC kl;have h1:=xo a.fr b.fr;have h2:=xo a.em b.em;have g:=xo a.bN b.bN;have h:=xo a.cp b.cp;have c:=qu a.fr b.fr;have d:=qu a.em b.em;have e:=qu a.bN b.bN;have f:=qu a.cp b.cp;exact Mp
def Fy(a b:dp):eC a b=0↔a=b:=by
 unfold eC;have k:=qu a.fr b.fr;have l:=qu a.em b.em;have m:=qu a.bN b.bN;have n:=qu a.cp b.cp;have c:a=b↔(a.fr=b.fr/\a.em=b.em/\a.bN=b.bN/\a.cp=b.cp):=by
  have⟨d,e,f,g⟩:=a;have⟨bP,h,i,j⟩:=b;simp
 rw[c];exact Mp
def qH{a b c:dp}(h:kl a b)(k:kl b c):kl a c:=by unfold kl at *;omega
def oR(a:dp):¬ kl a a:=by unfold kl;omega
def vJ(a b:dp):kl a b\/a=b\/kl b a:=by
 by_cases h:a=b
 .exact .inr (.inl h)
 have⟨c,d,e,f⟩:=a;have⟨bP,g,i,j⟩:=b;unfold kl;simp only[dp.mk.injEq]at h;simp only;omega
def fg(xs:ah aC):ak:=xs.Pairwise λa b=>kl a.k b.k
def eS(xs:ah aC)(k:dp):J:=(xs.takeWhile λa=>decide (eC a.k k<0)).length
def yc(xs:ah aC)(k:dp):eS xs k<=xs.length:=(takeWhile_sublist _).length_le
theorem vI:∀ (xs:ah aC) (k:dp) (i:J) (av:i<xs.length),i<eS xs k->eC xs[i].k k<0
 | [],_,_,h,_=>by simp at h
 | x :: xs,k,i,av,h=>by
  by_cases c:eC x.k k<0
  .have e:eS (x :: xs) k=eS xs k+1:=by unfold eS;rw[takeWhile_cons_of_pos (by simpa using c)];rfl
   cases i with
   | zero=>exact c
   | succ i=>exact vI xs k i (by simpa using av) lU
  have e:eS (x :: xs) k=0:=by unfold eS;rw[takeWhile_cons_of_neg (by simpa using c)];rfl
  omega
theorem Bl:∀ (xs:ah aC) (k:dp) (h:eS xs k<xs.length),¬ eC xs[eS xs k].k k<0
 | [],_,h=>by simp at h
 | x :: xs,k,h=>by
  by_cases c:eC x.k k<0
  .have e:eS (x :: xs) k=eS xs k+1:=by unfold eS;rw[takeWhile_cons_of_pos (by simpa using c)];rfl
   have a:eS xs k<xs.length:=by rw[e]at h;simpa using h
   simp only[e,wF];exact(Bl xs k a)
  have e:eS (x :: xs) k=0:=by unfold eS;rw[takeWhile_cons_of_neg (by simpa using c)];rfl
  simp only[e,Dn];exact c
def Bm{xs:ah aC}(bj:fg xs)(k:dp)(i:J)(av:i<xs.length)(h:eS xs k<=i):¬ eC xs[i].k k<0:=by
 have a:=Bl xs k U;by_cases e:eS xs k=i
 .subst e;exact a
 have b:=sE.1 bj (eS xs k) i U av U;rw[kL]at a⊢;exact λc=>a (qH b c)
def l5(xs:ah aC)(k:dp):aY:=decide (∃ e∈xs,e.k=k)
def A'{xs:ah aC}(bj:fg xs)(k:dp):decide (∃ h:eS xs k<xs.length,eC xs[eS xs k].k k=0)=l5 xs k:=by
 congr 1
 apply propext;constructor
 .rintro⟨h,e⟩;exact⟨_,og h,(Fy _ _).1 e⟩
 rintro⟨e,a,rfl⟩;obtain⟨i,av,rfl⟩:=wG a;have h1:eS xs xs[i].k<=i:=by
  by_cases c:eS xs xs[i].k<=i
  .exact c
  exact absurd ((kL _ _).1 (vI xs xs[i].k i av U)) (oR _)
 refine⟨U,?_⟩;by_cases e:eS xs xs[i].k=i
 .rw[Fy];simp only[e]
 have b:=sE.1 bj (eS xs xs[i].k) i U av U;exact absurd ((kL _ _).2 b) (Bl xs xs[i].k U)
def ln(xs:ah aC)(e:aC):ah aC:=xs.take (eS xs e.k)++e :: xs.drop (eS xs e.k)
def Hr{xs:ah aC}(bj:fg xs)(e:aC)(au:l5 xs e.k=false):fg (ln xs e):=by
 have hne:∀ x∈xs,x.k≠e.k:=λx l c=>by
  have:l5 xs e.k=true:=ed ⟨x,l,c⟩
  rw[au]at this;cases this
 unfold fg ln;rw[q_];refine⟨bj.sublist (take_sublist _ _),jP.2 ⟨λx l=>?_,bj.sublist (drop_sublist _ _)⟩,λa n b f=>?_⟩
 .obtain⟨j,g,rfl⟩:=wG l;rw[getElem_drop];have d:eS xs e.k+j<xs.length:=by rw[gd]at g;omega
  have h1:=Bm bj e.k (eS xs e.k+j) d U;rw[kL]at h1;rcases vJ e.k xs[eS xs e.k+j].k with h|h|h
  .exact h
  .exact absurd h.symm (hne _ (og d))
  exact absurd h h1
 obtain⟨i,av,rfl⟩:=wG n;rw[getElem_take];have o:i<eS xs e.k:=by rw[gw]at av;omega
 have m:i<xs.length:=by have:=yc xs e.k;omega
 have h1:=(kL _ _).1 (vI xs e.k i m o);rcases e3.1 f with rfl|f
 .exact h1
 obtain⟨j,g,rfl⟩:=wG f;rw[getElem_drop];have d:eS xs e.k+j<xs.length:=by rw[gd]at g;omega
 exact sE.1 bj i (eS xs e.k+j) m d U
def Fj{w:ai}{b:J}{t:TypeId}{bu b0 bs ez dR fV dS c6 fv:aw}(h:w.heap[b]?=some (ae #[bu,b0,bs,ez,dR,fV,dS,c6,fv] t (0,0)))(a c v2 d e f g i j:aw):(((((((((w.setCell (ad b 0 ab) a).setCell (ad b 1 ab) c).setCell (ad b 2 ab) v2).setCell (ad b 3 ab) d).setCell (ad b 4 ab) e).setCell (ad b 5 ab) f).setCell (ad b 6 ab) g).setCell (ad b 7 ab) i).setCell (ad b 8 ab) j).heap[b]?=some (ae #[a,c,v2,d,e,f,g,i,j] t (0,0)):=by
 have:=bW (bW (bW (bW (bW (bW (bW (bW (bW h 0 a) 1 c) 2 v2) 3 d) 4 e) 5 f) 6 g) 7 i) 8 j
 simpa using this
theorem HG(w:ai)(b:J)(a c v2 d e f g h i:aw):Keeps (λj=>j=b) w (((((((((w.setCell (ad b 0 ab) a).setCell (ad b 1 ab) c).setCell (ad b 2 ab) v2).setCell (ad b 3 ab) d).setCell (ad b 4 ab) e).setCell (ad b 5 ab) f).setCell (ad b 6 ab) g).setCell (ad b 7 ab) h).setCell (ad b 8 ab) i):=
 (((((((((Keeps.refl (λj=>j=b) w).setCell (p:=ad b 0 ab) rfl a).setCell (p:=ad b 1 ab) rfl c).setCell (p:=ad b 2 ab) rfl v2).setCell (p:=ad b 3 ab) rfl d).setCell (p:=ad b 4 ab) rfl e).setCell (p:=ad b 5 ab) rfl f).setCell (p:=ad b 6 ab) rfl g).setCell (p:=ad b 7 ab) rfl h).setCell (p:=ad b 8 ab) rfl i
def PQ(xs:ah aC){A:b4 Addr}{cap:J}(z:dQ w 9 A xs.length cap (bX xs))(au:xs.length<=1000)(bj:fg xs)(k:dp):az 385 #[ao A xs.length cap,aM k] w λr w'=>(∃ e:aC,r=aV #[aM e,(l5 xs k)])/\Below w w w':=by
 have F:(w.alloc (ae k 43)).heap.size=w.heap.size+1:=aI;have x:=aW (w.alloc (ae k 43)) (ae z9 45);rw[F]at x;have G:Keeps aG w ((w.alloc (ae k 43)).alloc (ae z9 45)):=((Keeps.refl _ w).alloc _).alloc _;have L:((w.alloc (ae k 43)).alloc (ae z9 45)).heap.size=w.heap.size+2:=aI;have q:=af (z.keeps G (λ_ _ _=>id));have s:=af x;have K:=af (cm (aW w (ae k 43)) (ae z9 45));have gS:=af (((bY w.heap.size w).alloc bA (ae k 43)).alloc aI (ae z9 45))
 go_in
 go_wp2_with fail;generalize World.alloc (World.alloc w _) _=an at *;have al:=af (PL (w:=an) xs q.o au k (eS xs k) (yc xs k) (λi av h=>vI xs k i av h) (λi av h=>Bm bj k i av h));rw[A' bj k]at al;cases aR:l5 xs k with
 | false=>
  rw[aR]at al;go_wp2_with fail;refine aT al.out λaB c=>?_;have b:=(Keeps.bE (S:=aG) c a7).heap s.out id;have d:=gS.out.trans (c.mono U);have f0:=bJ b;have H:=aP b;have l:=Fj b (I 0) (I 0) (I 0) (I 0) (I 0) (I 0) (I 0) (I 0) (I 0);have n:=d.trans ((HG aB (w.heap.size+1) (I 0) (I 0) (I 0) (I 0) (I 0) (I 0) (I 0) (I 0) (I 0)).below d.size a7);have f:=af l;have g:=af n;go_wp2_with fail;have p:=dv _ _ _ _ f.o 9 rfl;refine dn (v:=aV #[aM z9,false]) p ?_;exact⟨⟨⟨⟨0,0,0,0⟩,0,0,0,0,0⟩,by rw[aR]⟩,g.o⟩
 | true=>
  have hm:eS xs k<xs.length:=by
   have t:=A' bj k;rw[aR]at t;exact(ri t).1
  rw[aR]at al;generalize eS xs k=m at *;go_wp2_with fail;refine aT al.out λaB c=>?_;have y:=Keeps.bE (S:=aG) c a7;have b:=y.heap s.out id;have B:=q.out.keeps y (λ_ _ _=>id);have d:=gS.out.trans (c.mono U);obtain⟨bS,cM,rfl,aq⟩:=B.at' U;have a:∀ j u,j<9->xs[m].bt[j]?=some u->aB.cell? (ad bS (cM+m*9+j) ab)=some u:=λj u D E=>by rw[iN];exact aq _ _ ((th xs m hm j D).trans E)
  obtain⟨e,C⟩:∃ e,xs[m]=e:=⟨_,rfl⟩;rw[C]at a;have M:aB.cell? (ad bS (cM+m*9) ab)=some (I e.k.fr):=a 0 _ U rfl;have N:=a 1 _ U rfl;have O:=a 2 _ U rfl;have P:=a 3 _ U rfl;have Q:=a 4 _ U rfl;have R:=a 5 _ U rfl;have T:=a 6 _ U rfl;have V:=a 7 _ U rfl;have W:=a 8 _ U rfl;have f0:=bJ b;have H:=aP b;have l:=Fj b (I e.k.fr) (I e.k.em) (I e.k.bN) (I e.k.cp) (I e.cF) (I e.dq) (I e.eo) (I e.dJ) (I e.le);have n:=d.trans ((HG aB (w.heap.size+1) (I e.k.fr) (I e.k.em) (I e.k.bN) (I e.k.cp) (I e.cF) (I e.dq) (I e.eo) (I e.dJ) (I e.le)).below d.size a7);have f:=af l;have g:=af n;go_wp2_with fail;have p:=dv _ _ _ _ f.o 9 rfl;refine dn (v:=aV #[aM e,true]) p ?_;exact⟨⟨e,by rw[aR]⟩,g.o⟩
def PR(xs:ah aC){A:b4 Addr}{cap:J}(c:dQ w 9 A xs.length cap (bX xs))(au:xs.length<=1000)(bj:fg xs)(k:dp):az 377 #[ao A xs.length cap,aM k] w λr w'=>r=.returned (.bool (l5 xs k))/\Below w w w':=by
 have ca:=(bY w.heap.size w).alloc bA (ae k 43);have d:=aW w (ae k 43);have b:=af (PQ (w:=w.alloc (ae k 43)) xs (c.keeps (S:=aG) ((Keeps.refl _ w).alloc _) (λ_ _ _=>id)) au bj k)
 go_in
 go_wp2_with fail;generalize World.alloc w _=an at *;refine b.o.mono ?_;rintro r aB ⟨⟨e,rfl⟩,aj⟩;have a:=ca.trans (aj.mono ca.size);go_wp2_with fail;go_ret;exact⟨rfl,(a.alloc a.size (ae e 45))⟩
def nG(xs:ah aC)(k:dp):J->J->J
 | 0,o=>o
 | f+1,o=>if l5 xs {k with cp:=o}then nG xs k f (o+1)else o
def rL(xs:ah aC)(k:dp):J:=nG xs k 17 0
def rI(fr:aa)(e:aC):aC:={e with k:={e.k with fr:=fr,cp:=0}}
def nE(e:aC)(o:J):aC:={e with k:={e.k with cp:=o}}
def iv(fr:aa)(xs:ah aC)(e:aC):ah aC:=
 if fw (rI fr e)=false then xs else if 64<=xs.length\/15<rL xs (rI fr e).k then xs else ln xs (nE (rI fr e) (rL xs (rI fr e).k))
structure oB(w:ai)(base bg:J)(fr:aa)(v:aw)(xs:ah aC):ak where
 hd:w.heap[bg]?=some (ae #[I fr,v] 476 (0,0))
 row:w.ownsRow base 45 9 v xs.length (bX xs)
 ne:v.ownBlock≠some bg
 ef:fg xs
 n:xs.length<=64
 rt:∀ e∈xs,fw e=true/\e.k.fr=fr
theorem oB.keep{base bg:J}{fr:aa}{v:aw}{xs:ah aC}{T:J->ak}(h:oB w base bg fr v xs)(hk:Keeps T w w')(h1:¬ T bg)(h2:∀ j,v.ownBlock=some j->¬ T j):oB w' base bg fr v xs:=
 ⟨hk.heap h.hd h1,b3 h.row hk h2,h.ne,h.ef,h.n,h.rt⟩
def UW{e:aC}(h:fw e=true):0<=e.k.cp/\e.k.cp<=15:=by
 unfold fw ht fO at h;simp only[ee,gg]at h;omega
def Eg(w:ai)(base bg:J)(fr:aa)(v:aw)(ys:ah aC)(r:Ending)(w':ai):ak:=
 (∃ (k:dp) (bZ:aa),r=aV #[aM k,I bZ])/\∃ v',oB w' base bg fr v' ys/\Keeps (λj=>j=bg\/v.ownBlock=some j) w w'/\(v'.ownBlock=v.ownBlock\/∃ j,w.heap.size<=j/\v'.ownBlock=some j)
def Vq(W:ai):(Instr.build 43 #[]).run prog W=.ok (aM z4) W:=aH
def xj{w:ai}{b:J}{t:TypeId}{bu b0 bs ez:aw}(h:w.heap[b]?=some (ae #[bu,b0,bs,ez] t (0,0)))(a c v2 d:aw):((((w.setCell (ad b 0 ab) a).setCell (ad b 1 ab) c).setCell (ad b 2 ab) v2).setCell (ad b 3 ab) d).heap[b]?=some (ae #[a,c,v2,d] t (0,0)):=by
 have:=bW (bW (bW (bW h 0 a) 1 c) 2 v2) 3 d
 simpa using this
structure ow(w:ai)(base bg:J)(fr:aa)(v:aw)(xs:ah aC)(e:aC)(W:ai):ak where
 iV:oB W base bg fr v xs
 bM:W.heap[w.heap.size]?=some (ae e 45 (0,0))
 rs:W.heap[w.heap.size+1]?=some (ae z4 43 (0,0))
 cv:Keeps aG w W
theorem ow.keep{base bg:J}{fr:aa}{v:aw}{xs:ah aC}{e:aC}{W W':ai}(h:ow w base bg fr v xs e W)(hk:Keeps aG W W'):ow w base bg fr v xs e W':=
 ⟨h.iV.keep hk id (λ_ _=>id),hk.heap h.bM id,hk.heap h.rs id,h.cv.trans hk⟩
def ow.n5{base bg:J}{fr:aa}{v:aw}{xs:ah aC}{e:aC}{W:ai}(h:ow w base bg fr v xs e W)(b:bg<w.heap.size)(aX:∀ j,v.ownBlock=some j->j<w.heap.size)(o:J):ow w base bg fr v xs (nE e o) (W.setCell (ad w 3 ab) (I o)):=by
 have k:=(Keeps.refl (λj=>j=w) W).setCell (p:=ad w 3 ab) rfl (I (o:aa));exact⟨h.iV.keep k U (λj a e=>by have:=aX j a;omega),(bW h.bM 3 (I (o:aa))),k.heap h.rs U,cK h.cv k a7⟩
def Pt(e:aC)(a b:J):nE (nE e a) b=nE e b:=rfl
def Pu(e:aC)(h:e.k.cp=0):nE e 0=e:=by
 obtain⟨⟨f,m,k,o⟩,a,g,p,r,l⟩:=e;subst h;rfl
def Ql(xs:ah aC)(k:dp)(f o:J)(h:l5 xs {k with cp:=o}=true):nG xs k (f+1) o=nG xs k f (o+1):=by simp[nG,h]
def Qk(xs:ah aC)(k:dp)(f o:J)(h:l5 xs {k with cp:=o}=false):nG xs k (f+1) o=o:=by simp[nG,h]
def H6{xs:ah aC}{e x:aC}(h:x∈ln xs e):x=e\/x∈xs:=by
 rcases ft.1 h with h|h
 .exact .inr (zr h)
 rcases e3.1 h with h|h
 .exact .inl h
 exact .inr (zq h)
def I5{e:aC}{o:J}(h:fw e=true)(a:o<=15):fw (nE e o)=true:=by
 unfold fw ht fO at h⊢;unfold nE;simp only[ee,gg]at h⊢;omega
def Rf{xs:ah aC}{k:dp}{fr:aa}(b:∀ e∈xs,fw e=true/\e.k.fr=fr)(h:l5 xs k=true):k.cp<=15:=by
 obtain⟨e,a,rfl⟩:=ri h;exact(UW (b e a).1).2
section
variable{P:Program}{o:Oper}{a:Act}{K:Act->ai->ak}{Q:Exit->Act->ai->ak}
end
def Kn{base:J}{A:b4 Addr}{n cap:J}{xs:ah aC}(h:w.ownsRow base 45 9 (ao A n cap) n (bX xs)):dQ w 9 A n cap (bX xs):=by
 have⟨cA,c,b,a,_⟩:=cP h;cases b;exact a
def T5{base bg:J}{fr:aa}{v:aw}{xs:ah aC}(h:oB w base bg fr v xs)(Zp:base<=w.heap.size)(e:aC):az 366 #[bg,aM e] w (Eg w base bg fr v (iv fr xs e)):=by
 have M:Keeps aG w ((w.alloc (ae e 45)).alloc (ae z4 43)):=((Keeps.refl _ w).alloc _).alloc _;have bu:=aP ((h.keep M id (λ_ _=>id)).hd);obtain⟨d,lb⟩:∃ d,rI fr e=d:=⟨_,rfl⟩;have l':Keeps aG w ((w.alloc (ae #[I fr,I e.k.em,I e.k.bN,I 0,I e.cF,I e.dq,I e.eo,I e.dJ,I e.le] 45)).alloc (ae z4 43)):=((Keeps.refl _ w).alloc _).alloc _;have ZA:(w.alloc (ae #[I fr,I e.k.em,I e.k.bN,I 0,I e.cF,I e.dq,I e.eo,I e.dJ,I e.le] 45)).heap.size=w.heap.size+1:=aI;have Zm:=cm (aW w (ae #[I fr,I e.k.em,I e.k.bN,I 0,I e.cF,I e.dq,I e.eo,I e.dJ,I e.le] 45)) (ae z4 43);have Y4:=aW (w.alloc (ae #[I fr,I e.k.em,I e.k.bN,I 0,I e.cF,I e.dq,I e.eo,I e.dJ,I e.le] 45)) (ae z4 43);rw[ZA]at Y4;have St:=bR h.hd;have Zw:∀ j,v.ownBlock=some j->j<w.heap.size:=λj f=>by
  obtain⟨A,cap,rfl,_,Zi⟩:=cP h.row;cases A with
  | none=>simp[Value.ownBlock]at f
  | some x=>have:=Zi x rfl;rw[this.2.2]at f;cases f;exact this.2.1
 have R:ow w base bg fr v xs d ((w.alloc (ae #[I fr,I e.k.em,I e.k.bN,I 0,I e.cF,I e.dq,I e.eo,I e.dJ,I e.le] 45)).alloc (ae z4 43)):=by
  subst lb;exact⟨h.keep l' id (λ_ _=>id),Zm,Y4,l'⟩
 have ZL:Hid (d.k.fr=fr):=af (by rw[<-lb];rfl);have ZM:Hid (d.k.cp=0):=af (by rw[<-lb];rfl);have t:iv fr xs e=if fw d=false then xs else if 64<=xs.length\/15<rL xs d.k then xs else ln xs (nE d (rL xs d.k)):=by unfold iv;rw[lb]
 obtain⟨ys,Zz⟩:∃ ys,iv fr xs e=ys:=⟨_,rfl⟩;rw[Zz]at t⊢;have V':=af t;have Z0:=Vq;have Y:=af R;have V:=af Zw;have ZJ:=af Zp;have H:=af h;have s':=af St;clear R Zm Y4 M l' ZA Zw Zp h lb t Zz
 go_in
 go_upto_region 4 with fail
 clear bu St;generalize World.alloc (World.alloc _ _) _=an at *;obtain⟨c,aq⟩:∃ c,fw d=c:=⟨_,rfl⟩;have Z:=af (vp d an);rw[aq]at Z;have Zb:=aP Y.o.bM;cases c
 .go_wp2_with fail;refine aT Z.o λaB D=>?_;have z:=af (Y.o.keep (Keeps.bE (S:=aG) D a7));clear Zb Z Y D;have t:ys=xs:=by rw[V'.o,aq];rfl
  subst t;have f0:=bJ z.o.rs;have z0:=aP z.o.rs;have vl:=xj z.o.rs (I 0) (I 0) (I 0) (I 0);have zp:=rS (Keeps.refl (λj=>j=w+1) aB) rfl (I 0) (I 0) (I 0) (I 0);have sd:=af vl;have O:=af zp;clear vl zp;go_wp2_with fail;have zd:=dv _ _ _ _ sd.o 4 rfl;refine dn (v:=aV #[aM z4,I 1]) zd ?_;exact⟨⟨⟨0,0,0,0⟩,1,rfl⟩,_,z.o.iV.keep O.o (by have:=s'.o;omega) (λj f e=>by have:=V.o j f;omega),cK (z.o.cv.mono λ_ _ e=>e.elim) O.o a7,.inl rfl⟩
 go_wp2_with fail;refine aT Z.o λaB D=>?_;have z:=af (Y.o.keep (Keeps.bE (S:=aG) D a7));clear Zb Z Y D;obtain⟨A,cap,rfl,_,Zi⟩:=cP H.o.row;go_wp2_with fail;go_loopg [] 17 (λg wr=>∃ o:J,g=17-o/\o<=16/\nG xs d.k (17-o) o=rL xs d.k/\ow w base bg fr (ao A xs.length cap) xs (nE d o) wr)
 case atStart=>exact⟨0,rfl,U,rfl,by rw[Pu d ZM.o];exact z.o⟩
 obtain⟨o,rfl,Z1,T,R⟩:=hrel;obtain⟨a,L⟩:∃ a,nE d o=a:=⟨_,rfl⟩;rw[L]at R;have Y7:Hid (a.k.cp=o):=af (by rw[<-L];rfl);obtain⟨c,E⟩:∃ c,l5 xs a.k=c:=⟨_,rfl⟩;have g':l5 xs {d.k with cp:=o}=c:=by rw[<-E,<-L];rfl
 have⟨G,b⟩:=hj (F:=λW=>ow w base bg fr (ao A xs.length cap) xs a W);have Za:=λx:bp G=>aP (((b _).1 x.held).iV.hd);have M:=λx:bp G=>aP (((b _).1 x.held).bM);have s:G wr.drew:=(b _).2 (R.keep (Keeps.refl _ wr).drew);have X:Hid (∀ W,G W->az 377 #[ao A xs.length cap,aM a.k] W λr w'=>r=.returned (.bool c)/\Below W W w'):=af λW u=>by
  have h:=((b W).1 u).iV;have ZQ:=Kn h.row;rw[<-E];exact PR xs ZQ (by have:=h.n;omega) h.ef a.k
 have gf:=af (λ(W W':ai) (u:G W) (aj:Below W W W')=>(b W').2 (((b W).1 u).keep (Keeps.bE aj a7)));have B:=af (λ(W:ai) (u:G W)=>(b W).1 u);clear b R;go_wp2_with fail;refine cB 7 ?_;refine cC (G) (.range 7) 0 7 ?_;refine de (s) (.range 6) 1 ?_;generalize wr.drew=wd at *;refine kn 6 λK C=>?_;go_simp;refine aT (X.o wd s) λaB D=>?_;have Y_:=gf.o _ _ s D;refine C _ _ (Y_) ?_;clear C K;have y:=B.o _ Y_;clear X gf B s Y_ D Za M;cases c
 .have Zt:rL xs d.k=o:=by rw[<-T,show 17-o=(16-o)+1 by omega,Qk xs d.k (16-o) o g']
  have t:ys=if 64<=xs.length\/15<o then xs else ln xs a:=by rw[V'.o,aq,Zt,L];rfl
  have Zc:=af t;have g':=af g';have T:=af T;have E:=af E;have au:=y.iV.n;have N:=bb (k:=3) y.bM rfl;simp only[Dp,Dn,wF]at N;rw[Y7.o]at N;have Za:=aP y.iV.hd;have Q:=af y;have ZK:=af L;clear y t Zt L;by_cases ZZ:xs.length=64
  .exact LQ
  by_cases Zh:15<o
  .exact LQ
  have t:ys=ln xs a:=by rw[Zc.o,aA U]
  subst t;clear Zc V';go_wp2_with fail;clear N Za z;have⟨G,b⟩:=hj (F:=λW=>ow w base bg fr (ao A xs.length cap) xs a W);have ps:=λx:bp G=>aP (((b _).1 x.held).iV.hd);have M:=λx:bp G=>aP (((b _).1 x.held).bM);have X:Hid (∀ W,G W->az 378 #[ao A xs.length cap,aM a,.func (.func 379) #[] #[]] W λr w'=>r=aV #[I (eS xs a.k:J),false]/\Below W W w'):=af λW u=>by
   have h:=((b W).1 u).iV
   have:=PK (w:=W) xs (Kn h.row) (by have:=h.n;omega) a (eS xs a.k) (yc xs a.k) (λi av Y5=>vI xs a.k i av Y5) (λi av Y5=>Bm h.ef a.k i av Y5)
   rw[A' h.ef,E.o]at this;exact this
  have gf:=af (λ(W W':ai) (u:G W) (aj:Below W W W')=>(b W').2 (((b W).1 u).keep (Keeps.bE aj a7)));have B:=af (λ(W:ai) (u:G W)=>(b W).1 u);have Zl:=af ((b aB.drew).2 (Q.o.keep (Keeps.refl _ aB).drew));clear b;have ZR:=yc xs a.k;generalize Zr:eS xs a.k=m at *;have s:=Zl.o;clear Zl;refine cB 11 ?_;refine cC (G) (.range 11) 0 11 ?_;refine de (s) (.range 5) 6 ?_;generalize aB.drew=wd at *;refine dC 5 λK C=>?_;go_simp;refine aT (X.o wd s) λbn Zn=>?_;have Tq:=gf.o _ _ s Zn;refine C _ _ (Tq) ?_;clear C K;refine de (Tq) [6,7,8,9,10] 0 ?_;refine mL ?_;have Zj:=B.o _ Tq;clear X gf B s Tq Zn Q;clear ps M;go_wp2_with fail;have a':=Zj.keep (Keeps.refl _ bn).drew;have CW:=a'.keep ((a_ bn.drew).alloc (ae a 45));obtain⟨G,b⟩:=hj (F:=λW=>(W.heap[bg]?=some (ae #[I fr,ao A xs.length cap] 476 (0,0))/\W.heap[w.heap.size]?=some (ae a 45 (0,0))));have ps:=λx:bp G=>aP (((b _).1 x.held).1);have M:∀ x:bp G,x.to.cell? (ad w 0 ab)=some (I a.k.fr):=λx=>bb (k:=0) ((b _).1 x.held).2 rfl;have l':∀ x:bp G,x.to.cell? (ad w 1 ab)=some (I a.k.em):=λx=>bb (k:=1) ((b _).1 x.held).2 rfl;have ZT:∀ x:bp G,x.to.cell? (ad w 2 ab)=some (I a.k.bN):=λx=>bb (k:=2) ((b _).1 x.held).2 rfl;have N:∀ x:bp G,x.to.cell? (ad w 3 ab)=some (I a.k.cp):=λx=>bb (k:=3) ((b _).1 x.held).2 rfl;have ZU:∀ x:bp G,x.to.cell? (ad w 4 ab)=some (I a.cF):=λx=>bb (k:=4) ((b _).1 x.held).2 rfl;have ZV:∀ x:bp G,x.to.cell? (ad w 5 ab)=some (I a.dq):=λx=>bb (k:=5) ((b _).1 x.held).2 rfl;have ZW:∀ x:bp G,x.to.cell? (ad w 6 ab)=some (I a.eo):=λx=>bb (k:=6) ((b _).1 x.held).2 rfl;have TS:∀ x:bp G,x.to.cell? (ad w 7 ab)=some (I a.dJ):=λx=>bb (k:=7) ((b _).1 x.held).2 rfl;have ZX:∀ x:bp G,x.to.cell? (ad w 8 ab)=some (I a.le):=λx=>bb (k:=8) ((b _).1 x.held).2 rfl;have s:=(b _).2 ⟨a'.iV.hd,a'.bM⟩;have Zx:=(b _).2 ⟨CW.iV.hd,CW.bM⟩;have B:=af λW=>(b W).2;have Zs:=aW bn.drew (ae a 45);have Aw:=af CW;have Zk:=af a'.cv.size;clear b Zj a' CW;refine cB 12 ?_;refine cC (G) (.range 9) 3 9 ?_;refine de (s) (.range 7) 2 ?_;generalize bn.drew=ZF at *;have Zd:=af (PC (base:=base) xs (ao A xs.length cap) Aw.o.iV.row (by have:=Aw.o.cv.size;have:=ZJ.o;omega) U m ZR a ZF.heap.size Zs (λe=>by have:=V.o _ e;have:=Zk.o;omega));have Ze:=af Zr;clear Zs Zr Zk;refine gZ 7 Zx ?_;clear ps M l' ZT N ZU ZV ZW TS ZX s Zx;generalize ZF.alloc (ae a 45)=Z2 at *;have l:=Aw;refine jg 8 λK C=>?_;go_simp;refine Zd.o.mono ?_;rintro r r' ⟨v',rfl,Y8,P,q⟩;obtain⟨T',ZB,bs,ZG⟩:∃ T' ZB bs,v'=ao T' ZB bs:=by
   have⟨T',bs,h,_,_⟩:=cP Y8;exact⟨_,_,_,h⟩
  have Zv:∀ j,v'.ownBlock=some j->j<w.heap.size\/w.heap.size+2<=j:=λj f=>by
   rcases q with q|q
   .rw[q]at f;exact .inl (V.out j f)
   rw[q]at f;cases f;have h1:=l.out.cv.size;have h2:=bR l.out.rs;exact .inr U
  have Zy:=B.out r' ⟨P.heap l.out.iV.hd (λe=>l.out.iV.ne e),P.heap l.out.bM (λe=>D9)⟩;clear Zd B;refine C _ _ (Zy) ?_;clear C K;clear Zy;refine cC (λW=>0<=W.heap.size) [9,10,11] 0 3 ?_;refine gZ 9 (c' _) ?_;refine gZ 10 (c' _) ?_;have St:=s'.out;have Y6:=l.out.iV.ne;have Q':=P.heap l.out.iV.hd (λe=>Y6 e);have Zf:=P.heap l.out.bM (λe=>D9);have ZD:=P.heap l.out.rs (λe=>D9);have ps:=aP Q';have g1:=bJ Q';have m':=(Keeps.refl (λj=>j=bg) r').setCell (p:=ad bg 1 ab) rfl v';have Zq:=bW Q' 1 v';have Zg:=m'.heap Zf U;have ZE:=m'.heap ZD U;have Y9:v'.ownBlock≠some bg:=λe=>by
   rcases q with q|q
   .rw[q]at e;exact Y6 e
   rw[q]at e;cases e;have h1:=l.out.cv.size;omega
  have ZS:(ln xs a).length=xs.length+1:=by unfold ln;rw[Ze.out];simp only[cx,dr,gw,gd];omega
  have Zu:(r'.setCell (ad bg 1 ab) v').ownsRow base 45 9 v' (ln xs a).length (bX (ln xs a)):=by
   have h:=b3 Y8 m' (λj f e=>Y9 (by rw[f,e]));unfold ln;rw[Ze.out];exact h
  have ZC:oB (r'.setCell (ad bg 1 ab) v') base bg fr v' (ln xs a):=by
   refine⟨Zq,Zu,Y9,Hr l.out.iV.ef a E.out,U,λx Y'=>?_⟩;rcases H6 Y' with rfl|Y'
   .rw[<-ZK.out];exact⟨I5 aq U,ZL.out⟩
   exact l.out.iV.rt x Y'
  have TS:Keeps (λj=>j=bg\/(ao A xs.length cap).ownBlock=some j) w (r'.setCell (ad bg 1 ab) v'):=
   ((l.out.cv.mono λ_ _ e=>e.elim).trans (P.mono λ_ _ e=>.inr e)).trans (m'.mono λ_ _ e=>.inl e)
  have Zo:v'.ownBlock=(ao A xs.length cap).ownBlock\/∃ j,w.heap.size<=j/\v'.ownBlock=some j:=q.imp id λe=>⟨_,l.out.cv.size,e⟩;have ZP:=af ZC;have ZO:=af TS;have ZI:=af Zo;have ZN:=af Zv;have ZH:=af Zg;have Y2:=af ZE;clear ZC TS Zo Zv Zg ZE Zf ZD Q' Zq m' Zu Y8 P q ZS l Aw Y6;subst ZG;refine hX 11 (c' _) ?_;clear ps g1 Y9 St;generalize World.setCell _ _ _=ZY at *;have Zb:=aP ZH.o;have f0:=bJ Y2.o;have z0:=aP Y2.o;have sd:=af (xj Y2.o (I a.k.fr) (I a.k.em) (I a.k.bN) (I a.k.cp));have O:=af (rS (Keeps.refl (λj=>j=w+1) ZY) rfl (I a.k.fr) (I a.k.em) (I a.k.bN) (I a.k.cp));go_wp2_with fail;have zd:=dv _ _ _ _ sd.o 4 rfl;refine dn (v:=aV #[aM a.k,I 0]) zd ?_;exact⟨⟨a.k,0,rfl⟩,_,ZP.o.keep O.o (by have:=s'.out;omega) (λj f e=>by have:=ZN.o j f;omega),cK ZO.o O.o a7,ZI.o⟩
 have Zh:=Rf y.iV.rt E;rw[Y7.out]at Zh;have N:=bb (k:=3) y.bM rfl;simp only[Dp,Dn,wF]at N;rw[Y7.out]at N;have f3:=bJ y.bM;have Y3:=af (y.n5 s'.out V.out (o+1));rw[<-L,Pt]at Y3;have a1:=af (Ql xs d.k (16-o) o g');have T:=af T;clear y g' L E;go_wp2_with fail;go_roundg (17-(o+1))
 case rel=>exact⟨o+1,rfl,U,by rw[<-T.o,show 17-o=(16-o)+1 by omega,a1.o,show 17-(o+1)=16-o by omega],by push_cast at Y3;exact Y3.o⟩
 omega
variable{bm g bg:J}{v:J->aa}{fr:aa}{xs:ah aC}
def Iz{base p:J}{cL:aw}(h:oB w base p fr cL xs):∀ j,cL.ownBlock=some j->base<=j/\j<w.heap.size:=λj a=>by
 obtain⟨A,cap,rfl,_,b⟩:=cP h.row;cases A with
 | none=>simp[Value.ownBlock]at a
 | some x=>have:=b x rfl;rw[this.2.2]at a;cases a;exact⟨this.1,this.2.1⟩
structure St(w:ai)(bm g bg:J)(v:J->aa)(fr:aa)(xs:ah aC):ak where
 bc:w.heap[g]?=some (ae (gP v bg) 458 (0,0))
 vT:∃ cL,oB w bm bg fr cL xs/\cL.ownBlock≠some g
 ne:g≠bg
 oP:bm<=g
 qG:bm<=bg
namespace St
theorem cell(h:St w bm g bg v fr xs)(k:J)(hk:k<60)(q:IntKind)(a:dt k=q):w.cell? (ad g k ab)=some (.int q (v k)):=by
 subst a;exact bb h.bc (yK v bg k hk)
def free(h:St w bm g bg v fr xs)(k:J):w.frozen? (ad g k ab)=false:=fJ h.bc k
def keeps{S:J->ak}(h:St w bm g bg v fr xs)(hk:Keeps S w w')(h1:∀ j,bm<=j->¬ S j):St w' bm g bg v fr xs:=by
 have⟨cL,ar,au⟩:=h.vT;exact⟨hk.heap h.bc (h1 _ h.oP),⟨cL,ar.keep hk (h1 _ h.qG) (λj a=>h1 j (Iz ar j a).1),au⟩,h.ne,h.oP,h.qG⟩
def keep(h:St w bm g bg v fr xs)(hk:Keeps aG w w'):St w' bm g bg v fr xs:=h.keeps hk (λ_ _=>id)
def set(h:St w bm g bg v fr xs)(k:J)(hk:k<60)(q:IntKind)(b:dt k=q)(x:aa):St (w.setCell (ad g k ab) (.int q x)) bm g bg (bH v k x) fr xs:=by
 subst b;obtain⟨cL,ar,au⟩:=h.vT;exact⟨by rw[bW h.bc k,Wk v bg k x hk],⟨cL,ar.keep ((Keeps.refl (λj=>j=g) w).setCell (p:=ad g k ab) rfl (.int (dt k) x)) (hJ h.ne) (λj a e=>au (by rw[a,e])),au⟩,h.ne,h.oP,h.qG⟩
def low(h:St w bm g bg v fr xs):bm<=w.heap.size:=by have:=bR h.bc;have:=h.oP;omega
end St
def ym(em x:aa):aa:=if 0<em then max (-32768) (min (x*32768 / 4194304) 32768)else 0
def kO(em bN a dq dJ le x:aa):aC:=⟨⟨0,em,bN,0⟩,a,dq,ym em x,dJ,le⟩
def p0(h:St w bm g bg v fr xs)(em bN b dq dJ le x:aa)(s:bk x):az 352 #[g,I em,I bN,I b,I dq,I dJ,I le,ag x] w λe w'=>e=aV #[]/\St w' bm g bg v fr (iv fr xs (kO em bN b dq dJ le x))/\Keeps (λj=>bm<=j) w w':=by
 have ar:=bb h.bc (by rw[gP,pd,aD (eh v).symm]);obtain⟨cL,q,au⟩:=h.vT;obtain⟨ys,t⟩:∃ ys,iv fr xs (kO em bN b dq dJ le x)=ys:=⟨_,rfl⟩;have u:az 366 #[bg,aM #[I 0,I em,I bN,I 0,I b,I dq,I (ym em x),I dJ,I le]] w (Eg w bm bg fr cL ys):=by
  rw[<-t];exact T5 q h.low (kO em bN b dq dJ le x)
 have f:=af au;have n:=af (Iz q);have H:=af h;have d:=af u;have z:=s.1;have A:=s.2;rw[t];by_cases p:0<em
 .rw[show ym em x=_ from aD p]at d
  go_in
  go_wp2_with fail;refine d.o.mono ?_;rintro r aB ⟨⟨k,bZ,rfl⟩,m,i,c,a⟩;have h2:St aB bm g bg v fr ys:=⟨c.heap H.out.bc (λe=>e.elim H.out.ne f.out),⟨m,i,λe=>by
   rcases a with a|⟨j,y,a⟩
   .exact f.out (by rw[<-a,e])
   .rw[a]at e;cases e;have:=bR H.out.bc;omega⟩,H.out.ne,H.out.oP,H.out.qG⟩
  have l:=c.mono (T:=λj=>bm<=j) (λj _ e=>e.elim (λe=>by rw[e];exact H.out.qG) (λe=>(n.out j e).1));go_wp2;go_end0;exact⟨rfl,h2,l⟩
 rw[show ym em x=_ from aA p]at d
 go_in
 go_wp2_with fail;refine d.out.mono ?_;rintro r aB ⟨⟨k,bZ,rfl⟩,m,i,c,a⟩;have h2:St aB bm g bg v fr ys:=⟨c.heap H.out.bc (λe=>e.elim H.out.ne f.out),⟨m,i,λe=>by
  rcases a with a|⟨j,y,a⟩
  .exact f.out (by rw[<-a,e])
  .rw[a]at e;cases e;have:=bR H.out.bc;omega⟩,H.out.ne,H.out.oP,H.out.qG⟩
 have l:=c.mono (T:=λj=>bm<=j) (λj _ e=>e.elim (λe=>by rw[e];exact H.out.qG) (λe=>(n.out j e).1));go_wp2;go_end0;exact⟨rfl,h2,l⟩
def ek(b6 b:aa):aY:=bits .and .u8 b6 b != 0
def tt(i b:aa)(w:ai):az 349 #[aF i,aF b] w λe w'=>e=.returned (.bool (ek i b))/\w=w':=by
 go_in
 go_wp2;go_ret;exact⟨rfl,rfl⟩
def ia(f l:aa):aa:=ei (rE f) l
def ib(f l:aa):aa:=ei (mX f) l
def xU(f l:aa)(h:bk l)(w:ai):az 362 #[I f,ag l] w λe w'=>e=.returned (aM #[ag (ia f l),ag (ib f l)])/\Below w w w':=by
 have ca:=(bY w.heap.size w).alloc bA (ae c0 91);unfold ia ib
 go_in
 go_wp2_with fail;refine br ((Xw f) _) ?_;go_wp2_with fail;refine br ((Kc f) _) ?_;go_wp2_with fail;refine aT (((Cc (rE f) (mX f) l (JQ _) (JQ f) h)) _) λan h1=>?_;have a:=(Keeps.bE (S:=aG) h1 a7).heap (aW w (ae c0 91)) id;generalize i:ei (rE f) l=x at *;generalize k:ei (mX f) l=y at *;have g:=af k;have g0:=bJ a;have m:=aP a;have b:=ca.trans (h1.mono ca.size);have c:=af (bW (bW a 0 (ag x)) 1 (ag y));have d:=af (b.trans ((((Keeps.refl (λj=>j=w) an).setCell (p:=ad w 0 ab) rfl (ag x)).setCell (p:=ad w 1 ab) rfl (ag y)).below b.size a7));go_wp2_with fail;refine dn (v:=aM #[ag x,ag y]) (dv _ _ _ _ c.o 2 rfl) ?_;exact⟨by rw[i,g.o],d.o⟩
end Go.Proofs.YtalagblioepadaaGreatDoor
