/- The proof, part 37. -/
import Derived.Test.YtalagblioepadaaGreatDoorZc36
import Derived.Shelf.SlicesE.Clone
namespace Go.Proofs.YtalagblioepadaaGreatDoor
set_option linter.all false
open Proofs.Tryz List Go.RowKit Go.Shelf
set_option maxRecDepth 100000
set_option maxHeartbeats 2000000
def rJ{p:ak}(h:p:=by have:=C _ e;omega):p:=h
def z'{p:ak}(h:p:=by have:=m.o _ e;omega):p:=h
def Ex{p:ak}(h:p:=by have:=s.out j d;omega):p:=h
def LU{p:ak}(h:p:=by
 go_roundg (6-(k+1))
 case rel=>exact⟨k+1,rfl,U,by go_num,by rw[w'.out];exact g'.o⟩
 omega
 ):p:=h
def Mn{p:ak}(h:p:=by
 have⟨b,o,e,q⟩:=aW.at' d;cases e;exact q j u c
 ):p:=h
variable{w w':ai}
def AY:Go.Shelf.Ren:=⟨fun|41=>276|n=>n,fun|4=>4|22=>66|23=>45|n=>n,fun|n=>n⟩
def GI:SlLaysE0.n41 prog AY:={
 mixed:=aH
 f41:=⟨f276.name,bq,func276.trans (cV some aH)⟩
 t4:=underlying4
 a4:=isAgg4
 z4:=sizeOf4
 v4:=zeroValue4
 t22:=underlying66
 a22:=isAgg66
 z22:=sizeOf66
 v22:=zeroValue66}
def GB{base:J}{v:ax}{xs:ah aB}(h:w.ownsRow base 45 9 v xs.length (bX xs))(ar:xs.length<=1000):aA 276 #[v] w λe w'=>∃ cC,e=.returned cC/\w'.ownsRow w.heap.size 45 9 cC xs.length (bX xs)/\Below w w w':=by
 rcases h.2 with⟨rfl,a⟩|⟨g,cap,o,rfl,aZ,aJ,al,hm,av,aO⟩
 .obtain rfl:=jx.1 a;refine(AnyE.slices_Clone_nil (P:=prog) (ρ:=AY) GI 0 0 w).mono ?_;rintro e _ ⟨rfl,rfl⟩;exact⟨_,rfl,gI _ _ _ _,b3 _ _⟩
 obtain⟨m,f,i,k,l⟩:=ym;refine(AnyE.slices_Clone (P:=prog) (ρ:=AY) GI m _ 9 72 f i k l rfl bq sizeOf45 g 0 xs.length cap (bX xs) w (tx xs) pB U (λj u c=>?_) (rX xs)).mono ?_
 .have⟨A,n,b,aW,_⟩:=cS h;cases b;have d:0<xs.length:=by
   have:=(hp.1 c).1
   rw[tx]at this;omega
  exact Mn
 rintro e w' ⟨v',rfl,h1,_,h2⟩;exact⟨v',rfl,h1,h2⟩
def UH{base bh:J}{fr:aa}{v:ax}{xs:ah aB}(h:oO w base bh fr v xs):aA 328 #[bh] w λe w'=>∃ cC,e=.returned cC/\w'.ownsRow w.heap.size 45 9 cC xs.length (bX xs)/\Below w w w':=by
 have bY:=aS h.hd;have aT:=af (GB h.row (by have:=h.n;omega));clear h
 go_in
 go_wp2_with fail;refine aT.o.mono ?_;rintro e ao ⟨cC,rfl,h1,h2⟩;have H:=af (bB h1 h2);clear h1 h2 aT;go_wp2;go_ret;exact⟨cC,rfl,H.o⟩
variable{bl g bh:J}{v:J->aa}{fr:aa}{xs:ah aB}
def kB{base a:J}{e:TypeId}{cE n:J}{cC:ax}{l:ah ax}(h:w.ownsRow base e cE cC n l)(aj:a<=base):w.ownsRow a e cE cC n l:=by
 refine⟨h.1,?_⟩;rcases h.2 with h2|⟨g,cap,b,rfl,aZ,r⟩
 .exact .inl h2
 exact .inr ⟨g,cap,b,rfl,b7 aj aZ,r⟩
theorem Xz(h:St w bl g bh v fr xs):(Instr.loadAt 99 g).run prog w=.ok (.agg (bn v)) w:=
 gz 99 60 g 0 (bn v) (gT v bh) _ isAgg99 sizeOf99 (eg v) h.bc (λj u a=>by
  have b:j<60:=by
   have:=(kf.1 a).1
   rwa [eg]at this
  rw[gC,y6 v bh j b,<-ft v b];exact a)
def r_(a b fr:aa)(v:J->aa):J->(J->aa)×ah aB
 | 0=>(v,[])
 | 1=>h' 0 a fr (v,[])
 | _=>h' 1 b fr (h' 0 a fr (v,[]))
def Fo(w:ai)(v':J->aa)(xs:ah aB)(e:Ending)(w':ai):ak:=
 ∃ cC,e=aV #[.agg (bn v'),cC,I 0]/\w'.ownsRow w.heap.size 45 9 cC xs.length (bX xs)/\Below w w w'
def Ru{f r:aa}(X:Mid 2 f r v)(ZM:0<=f/\f<=1000000)(sd:0<=r/\r<=f)(a b:aa)(bd:a<=63)(aj:b<=63)(w:ai):aA 285 #[.agg (bn v),aQ #[aF a,aF b]] w (Fo w (ix a b v) (kb a b v)):=by
 have mv:=af (Hr v);rw[IB X ⟨ZM.1,U⟩ ⟨sd.1,U⟩]at mv;have H:=af (Qi f U);have m:=cm (aX w (ae (bn v) 99)) (ae #[aF a,aF b] 101);have n:=aX (w.alloc (ae (bn v) 99)) (ae #[aF a,aF b] 101);rw[fK]at n;have m':=lV ((w.alloc (ae (bn v) 99)).alloc (ae #[aF a,aF b] 101));simp only[fK]at m';have y:=aX ((w.alloc (ae (bn v) 99)).alloc (ae #[aF a,aF b] 101)) (ae (bn cf) 99);simp only[fK]at y;have m:=cm m (ae (bn cf) 99);have n:=cm n (ae (bn cf) 99);have ZW:=(((ba w).alloc (ae (bn v) 99)).alloc (ae #[aF a,aF b] 101)).alloc (ae (bn cf) 99);have ZR:=n4 m;have ys:=af m;have zd:=af n;have zp:=af y;have cF:=af X;have R:=af ZM;have T:=af sd;have hd:=af X.f0;obtain⟨P,p⟩:∃ P,Fo w (ix a b v) (kb a b v)=P:=⟨_,rfl⟩;rw[p];have Z3:=af p;clear m n y X p sd
 go_in
 go_wp2_with first|refine d_ m' rfl rfl ?_|refine dp ZR rfl rfl rfl ?_
 generalize ((w.alloc (ae (bn v) 99)).alloc (ae #[aF a,aF b] 101)).alloc (ae (bn cf) 99)=bk at *;refine aU (mv.o _) λao ZI=>?_;have Q:=(ba bk).fI ZI;have ZX:=ZW.trans Q;have m:=Q.heap ys.o id;have n:=Q.heap zd.o id;have y:=Q.heap zp.o id;clear ys zd zp ZW Q ZI m' ZR;have bt:ao.cell? (ad w 0 ab)=some (I f):=by
  rw[<-hd.o];exact bb m (ft v U)
 have O:=aS n;have hne:(f == 1073741824)=false:=by rw[eu];omega
 have kn:decide (63<b)=false:=dd U;go_wp2_with fail;refine aU (H.o _) λaC a'=>?_;have L:Keeps aI ao aC:=by rw[<-a'];exact(Keeps.refl _ ao).alloc _
 have M:aC.heap[ao.heap.size]?=some (ae #[I f,aq none 0 0] 476 (0,0)):=by rw[<-a'];exact aX ao _
 have aai:aC.heap.size=ao.heap.size+1:=by rw[<-a'];simp
 have aar:=bP y;have ZS:=n4 (L.heap m id);have ZK:=V2 v ao.heap.size
 have ZH:St (aC.alloc (ae (gT v ao.heap.size) 458)) ao.heap.size aC.heap.size ao.heap.size v f []:=
  ⟨aX aC _,⟨aq none 0 0,⟨cm M _,gI _ _ _ _,by simp[Value.ownBlock],Pairwise.nil,aK,aK⟩,by simp[Value.ownBlock]⟩,U,U,c9 _⟩
 have Z2:=af (cm (L.heap n id) (ae (gT v ao.heap.size) 458));have Z7:=af (cm (L.heap y id) (ae (gT v ao.heap.size) 458));have CW:=af ((ZX.trans L).alloc (ae (gT v ao.heap.size) 458));have Z4:=af ZH;clear ZH m n y bt O M aai L ZX a' kn hne mv H;simp only;go_wp2_with first|refine dp ZS rfl rfl rfl ?_|refine sG (ZK _) rfl rfl rfl rfl ?_
 clear ZS ZK;generalize aC.alloc (ae (gT v ao.heap.size) 458)=bm at *;generalize aC.heap.size=gv at *;generalize ao.heap.size=c at *;go_loopg [47] 2 (λlb i wr=>∃ k:J,lb=2-k/\k<=2/\i=I k/\SgI bm c gv c f 2 0 0 (r_ a b f v k).1 (r_ a b f v k).2 wr)
 case atStart=>exact⟨0,rfl,U,rfl,Z4.o,Keeps.refl _ _,cF.o.lim ⟨R.o.1,by have:=R.o.2;omega⟩ ⟨T.o.1,by have:=T.o.2;have:=R.o.2;omega⟩⟩
 obtain⟨k,aZ,hk,rfl,aT⟩:=hrel;have ZO:=aT.cv.heap Z2.o (show ¬ c<=w.heap.size+1 by omega);have O:=aS ZO;clear ZO;by_cases A:k<2
 .have aab:k=0\/k=1:=U;rcases aab with rfl|rfl
  .have p:=af (show aA 324 #[gv,I 0,aF a] wr _ from Ka aT 0 U a);clear aT;go_wp2_with fail;refine aU p.o λv' l=>?_;have D:=af l;clear l p O;go_wp2_with fail;go_roundg 1
   case rel=>exact⟨1,rfl,U,by go_num,D.o⟩
   omega
  have p:=af (show aA 324 #[gv,I 1,aF b] wr _ from Ka aT 1 U b);clear aT;go_wp2_with fail;refine aU p.o λv' l=>?_;have D:=af l;clear l p O;go_wp2_with fail;go_roundg 0
  case rel=>exact⟨2,rfl,U,by go_num,D.o⟩
  omega
 obtain rfl:k=2:=U;clear O;have TS:=af (WZ aT);clear aT;go_wp2_with fail;refine aU TS.o λv' l=>?_;have m3:Mid 2 f r (iY f (r_ a b f v 2)).1:=BO (tW (tW cF.out 0 U a f []) 1 U b f _) f _;have T':stepG a b f v=j_ f (iP f (iY f (r_ a b f v 2)) 6):=rfl;have Aw:=af T';change SgI bm c gv c f 2 0 0 (iY f (r_ a b f v 2)).1 (iY f (r_ a b f v 2)).2 v' at l;clear T' TS;generalize iY f (r_ a b f v 2)=gS at *;have D:=af l;have Z9:=af m3;clear l m3;go_wp2_with fail;go_loopg [59] 6 (λlb i wr=>∃ k:J,lb=6-k/\k<=6/\i=I k/\SgI bm c gv c f (2+k) 0 0 (iP f gS k).1 (iP f gS k).2 wr)
 case atStart=>exact⟨0,rfl,U,rfl,D.o⟩
 obtain⟨k,aZ,hk,rfl,aT⟩:=hrel;clear D;have mk:=yA Z9.o f k hk;by_cases A:k<6
 .have Y:=aT.cellS k A 4 U;have u:iP f gS (k+1)=qd k f (iP f gS k):=rfl;generalize iP f gS k=aal at *;obtain⟨g,ZZ⟩:=aal;replace mk:Mid (2+k) f r g:=mk;replace aT:SgI bm c gv c f (2+k) 0 0 g ZZ wr:=aT;replace Y:wr.cell? (ad gv (24+k*6+4) ab)=some (I (g (24+k*6+4))):=Y;unfold qd at u;dsimp only at u;have ZL:(2:aa)+k+1=2+((k+1:J):aa):=U;by_cases E:g (24+k*6+4)=0
  .rw[aD E]at u;have g':=af (aT.mono (show(2:aa)+k<=2+((k+1:J):aa)by omega));have w':=af u;clear aT u mk;rw[E]at Y;go_wp2_with fail;go_roundg (6-(k+1))
   case rel=>exact⟨k+1,rfl,U,by go_num,by rw[w'.o];exact g'.o⟩
   omega
  rw[az E]at u;have vl:=(mk.pc k A).resolve_left (λZ'=>E (Z' 4 U));have aad:1<=g (24+k*6+5)/\g (24+k*6+5)<=40:=vl.2.2.2.2.2;have ZQ:1<=g (24+k*6+4)/\g (24+k*6+4)<=2:=vl.2.2.2.2.1;have ZN:∀ o,ej o->-50<=g (o+5):=λo aaf=>by
   have:0<=g (o+5)/\g (o+5)<=3:=(mk.pl o aaf).au
   omega
  have z:=af (W1 aT k A U ZQ ZN U);rw[ZL]at z;have w':=af u;have aat:(g (24+k*6+4) == 0)=false:=by rw[eu];exact E
  have aas:decide (g (24+k*6+4)=0)=false:=dd E;clear aT u mk vl ZL aad ZQ ZN;go_wp2_with fail;refine aU z.o λF d=>?_;generalize i_ k f (g,ZZ)=t at *;have⟨Z_,aam,aao⟩:=t;replace d:SgI bm c gv c f (2+((k+1:J):aa)) 0 0 aam aao F:=d;clear z Y;cases Z_
  .obtain⟨Z,ZG⟩:=d.row 96 (24+k*6) 6 #[ag 0,ag 0,ag 0,ag 0,I 0,I 0] (λ_=>0) sizeOf96 rfl U (λq N=>by
    rw[Kf 0 0 0 0 0 0 k A q N]
    congr 2
    match q,N with
    | 0,_=>rfl
    | 1,_=>rfl
    | 2,_=>rfl
    | 3,_=>rfl
    | 4,_=>rfl
    | 5,_=>rfl) (d.lim.row _ 6 _ λq N=>by
    rw[az U,(o6 (2+((k+1:J):aa)) 0 k A q N).1,(o6 (2+((k+1:J):aa)) 0 k A q N).2];split<;>omega)
   have g':=af ZG;clear ZG d;go_wp2_with refine c8 Z rfl rfl rfl rfl ?_
   clear Z;generalize World.setRow _ _ _=C at *;exact LU
  have g':=af d;clear d;go_wp2_with fail;exact LU
 obtain rfl:k=6:=U;have H:=af (W3 aT mk.f3 (by rw[mk.f2];exact⟨T.out.1,by have:=T.out.2;have:=R.out.2;omega⟩) U);obtain⟨r',m6,aag,aah⟩:=IA mk f (iP f gS 6).2;change Mid 2 f r' (j_ f (iP f gS 6)).1 at m6;clear aT mk;go_wp2_with fail;refine aU H.o λF d=>?_;change SgI bm c gv c f (2+((6:J):aa)) 0 0 (j_ f (iP f gS 6)).1 (j_ f (iP f gS 6)).2 F at d;clear H;have Z5:=af (show ix a b v=bF (j_ f (iP f gS 6)).1 0 (f+1)by unfold ix;rw[hd.out,Aw.out]);have Z1:=af (show kb a b v=(j_ f (iP f gS 6)).2 by unfold kb;rw[hd.out,Aw.out]);generalize j_ f (iP f gS 6)=iN at *;obtain⟨v6,G⟩:=iN;replace d:SgI bm c gv c f (2+((6:J):aa)) 0 0 v6 G F:=d;have ZV:v6 0=f:=m6.f0;have aap:F.cell? (ad gv 0 ab)=some (I f):=by rw[<-ZV];exact d.st.cell 0 U .i64 rfl
 have g0:=d.st.free 0;have Q':=af (d.ho 0 U .i64 rfl (f+1) (by show 0<=f+1/\f+1<=4294967295;omega));clear d m6 ZV aag aah;go_wp2_with fail;have V:=Q'.o;generalize F.setCell _ _=C at *;clear Q' aap g0;generalize aaj:bF v6 0 (f+1)=s at *;clear aaj;have z:St C.drew c gv c s f G:=V.st.keep (Keeps.refl _ C).drew;have aac:=CW.out.trans (ba bm);have fr:Keeps (λj=>w.heap.size<=j) w C.drew:=((CW.out.mono λ_ _ x=>x.elim).trans (V.cv.mono λj _ ZP=>U)).trans (Keeps.refl _ C).drew;have Z0:=(ba C).drew.heap (V.cv.heap Z7.out (show ¬ c<=w.heap.size+1+1 by omega)) id;obtain⟨cC,M,_⟩:=z.wj;have aaa:=af (UH M);have aak:∀ W,(∃ x:bp (λW=>St W c gv c s f G),W=x.to)->(Instr.loadAt 99 gv).run prog W=.ok (.agg (bn s)) W:=by
  rintro W ⟨x,rfl⟩;exact Xz x.held
 have ZT:∀ W,St W c gv c s f G->∀ W',Keeps (λj=>j=w.heap.size+1+1) W W'->St W' c gv c s f G:=λW h W' hk=>h.keeps hk a7;have Z8:=af ZT;clear V M aac ZT;refine cH 9 ?_;refine cI (λW=>St W c gv c s f G) (.range 9) 0 9 ?_;refine p0 (z) (.range 5) 4 λhne=>?_
 repeat (first|(refine ke aak rfl rfl rfl ?_;simp only[Act.put,c7])|go_big_quiet_step (fail))
 refine wpQuiet_nil ?_;clear hne;refine ew 5 λK V'=>?_;go_simp;refine aaa.out.mono ?_;rintro e aan ⟨ZY,rfl,s',ZJ⟩;have gf:=Keeps.bD (S:=aI) ZJ a7;have Tq:=z.keep gf;refine V' _ _ (Tq) ?_;clear V' K;obtain⟨Z,aae,ps⟩:=dP aan 99 60 (w.heap.size+1+1) (bn s) _ sizeOf99 (eg _) (eg _) (gf.heap Z0 id) (fg.2 (n9 s));have l':=Z8.out _ Tq _ ps;have hfin:=(((fr.trans (gf.mono λ_ _ x=>x.elim)).trans (ps.mono λj _ e=>by rw[e];omega)).below (B:=w.heap.size) bs a7);have ZU:=kB (b4 s' ps (λj ZP e=>by
  have h1:=(s'.lt j ZP).1;have h2:=fr.size;have aaq:=bP Z0;omega)) (show w.heap.size<=C.drew.heap.size from fr.size)
 have Z6:=b6 ZU hfin;clear hfin ZU s' ZJ gf fr;refine q2 6 l' (nu rfl rfl rfl Z) ?_;simp only[Act.put];refine hg 7 l' ?_;refine h_ 8 l' ?_;go_wp2;rw[<-Z3.out,Z5.out,Z1.out];refine dq (v:=aV #[.agg (bn s),ZY,I 0]) aae ?_;exact⟨ZY,rfl,Z6.o⟩
variable{b:f'}{x:ck}
def dA(x:ck)(n j:J):aa:=oq (x.f j).K n (x.f j).last
structure qB(w:ai)(b:f')(x:ck)(v:J->aa)(lW iN:J)(p q:aa)(wr:ai):ak where
 co:IsCore wr b x
 bh:wr.heap[w.heap.size]?=some (ae #[I 0,aq none 0 0] 271 (0,0))
 st:wr.heap[iN]?=some (ae (bn v) 99 (0,0))
 bS:wr.heap[lW]?=some (ae #[aF p,aF q] 101 (0,0))
 cv:Keeps b.S w wr
 qY:w.heap.size<iN
 vW:w.heap.size<lW
 ne:iN≠lW
theorem qB.ou{v:J->aa}{lW iN:J}{p q:aa}{wr aC:ai}{dW:ck}(a:∀ j,b.S j->j<w.heap.size)(h:qB w b x v lW iN p q wr)(c:IsCore aC b dW)(hk:Keeps b.S wr aC):qB w b dW v lW iN p q aC:=
 ⟨c,hk.heap h.bh (λe=>by have:=a _ e;omega),hk.heap h.st (λe=>by have:=a _ e;have:=h.qY;omega),hk.heap h.bS (λe=>by have:=a _ e;have:=h.vW;omega),h.cv.trans hk,h.qY,h.vW,h.ne⟩
def qB.J2{v:J->aa}{lW iN:J}{p q lM a u:aa}{wr:ai}(d:∀ j,b.S j->j<w.heap.size)(h:qB w b x v lW iN p q wr)(k:J)(hk:(#[aF p,aF q]:a6 ax).setIfInBounds k (aF u)=#[aF lM,aF a]):qB w b x v lW iN lM a (wr.setCell (ad lW k ab) (aF u)):=by
 have av:=(Keeps.refl (λj=>j=lW) wr).setCell (p:=ad lW k ab) rfl (aF u);have f:=h.vW;refine⟨h.co.keeps av (λj c e=>by have:=d _ c;omega),av.heap h.bh U,av.heap h.st (by have:=h.ne;omega),?_,cL h.cv av a7,h.qY,h.vW,h.ne⟩;rw[bV h.bS,hk]
def yL(x:ck)(n:J)(v:J->aa):ck:={kd x n 2 with L:=e7 x.L (n+1) v}
def vq(w:ai)(b:f')(dW:ck)(n:J)(xs:ah aB)(e:Ending)(w':ai):ak:=
 (∃ A cap,e=aV #[aQ #[I (n:aa),aq A xs.length cap],I 0]/\w'.ownsRow (w.heap.size+1) 45 9 (aq A xs.length cap) xs.length (bX xs))/\IsCore w' b dW/\Keeps b.S w w'
def Gc(h:IsCore w b x)(n:J){r:aa}{v:J->aa}(ZP:gQ x.L (n:aa)=some v)(ZQ:Mid 2 n r v)(Z0:0<=r/\r<=n)(ar:n<=500000)(aW:∀ j,j<2->dA x n j<=63)(ZU:∀ j,j<2->(x.f j).first<=n)(ZV:fc x.eQ 81 ((n+1:J):aa)):aA 218 #[b.c,I (n:aa)] w (vq w b (yL x n (ix (dA x n 0) (dA x n 1) v)) n (kb (dA x n 0) (dA x n 1) v)):=by
 have t:∀ j,b.S j->j<w.heap.size:=λj d=>h.lt d;have ps:=(ba w).alloc (ae #[I 0,aq none 0 0] 271);have W':=aX w (ae #[I 0,aq none 0 0] 271);have Z_:(w.alloc (ae #[I 0,aq none 0 0] 271)).heap.size=w.heap.size+1:=aK;have g':=h.keep ps;have X:=af (JM g'.st (n:aa) U);rw[ZP]at X;simp only[hX,pv]at X;have Z4:=g'.eb;have aac:=xY;have aad:=xZ;have ZS:=af (Ru ZQ U Z0 (dA x n 0) (dA x n 1) (aW 0 U) (aW 1 U));have sd:=af g';have s:=af t;have ZN:=af ZU;have aaa:IntKind.i64.wrap ((n:aa)+1)=((n+1:J):aa):=by rw[show((n+1:J):aa)=(n:aa)+1 by omega];exact ev _ U
 generalize Z':ix (dA x n 0) (dA x n 1) v=E at *;generalize aab:kb (dA x n 0) (dA x n 1) v=xs at *;obtain⟨PP,l'⟩:∃ PP,vq w b (yL x n E) n xs=PP:=⟨_,rfl⟩;rw[l'];have ZM:=af l';clear l';have CW:dA x n 0=oq (x.f 0).K n (x.f 0).last:=rfl;have Q':dA x n 1=oq (x.f 1).K n (x.f 1).last:=rfl;generalize dA x n 0=p at *;generalize dA x n 1=q at *;have vl:=af CW;have v':=af Q';clear CW Q'
 go_in
 go_wp2_with fail;generalize w.alloc (ae #[I 0,aq none 0 0] 271)=bk at *;refine aU X.o λao O=>?_;have N:=lV ao;have z:=aX ao (ae (bn cf) 99);have⟨Q,_,St⟩:=dP (ao.alloc (ae (bn cf) 99)) 99 60 ao.heap.size (bn v) _ sizeOf99 (eg _) (eg _) z (fg.2 (n9 v));have an:=fl _ ao.heap.size _ (bn v) 99 z;have Z7:=O.size;have a':=((Keeps.refl _ ao).alloc _).trans St;have ZG:=a'.heap (O.heap W' id) U;have H:=cL (ps.trans O) a' a7;have h2:=(sd.o.keep O).keeps a' (λj d e=>by have:=s.o j d;omega)
 have w':qB w b (kd x n 0) v ((ao.alloc (ae (bn cf) 99)).setRow ao.heap.size (bn v)).heap.size ao.heap.size 0 0 (((ao.alloc (ae (bn cf) 99)).setRow ao.heap.size (bn v)).alloc (ae #[aF 0,aF 0] 101)):=
  ⟨by rw[YC];exact h2.keep ((Keeps.refl _ _).alloc _),cm ZG _,cm an _,aX _ _,k2 (H.alloc _),U,by have:=H.size;have:=bP an;omega,by have:=bP an;omega⟩
 have z4:=h2.lx (k:=0) U;have z5:=h2.lx (k:=1) U;have ZT:=bP h2.head;have s':=af w';clear w' h2 H ZG a' an St z W' ps sd X Z4 O;generalize (ao.alloc (ae (bn cf) 99)).setRow ao.heap.size (bn v)=aC at *;go_wp2_with first|refine d_ N rfl rfl ?_|refine c8 Q rfl rfl rfl rfl ?_
 clear z4 z5 ZT N Q;generalize aC.heap.size=lW at *;generalize aC.alloc (ae #[aF 0,aF 0] 101)=bm at *;generalize ao.heap.size=iN at *;go_loopg [31] 2 (λg i wr=>∃ j:J,g=2-j/\j<=2/\i=I j/\qB w b (kd x n j) v lW iN (if 0<j then p else 0) (if 1<j then q else 0) wr)
 case atStart=>exact⟨0,rfl,U,rfl,s'.o⟩
 obtain⟨j,aZ,d,rfl,aT⟩:=hrel;clear s';by_cases t:j<2
 .have m':(kd x n j).f j=x.f j:=by simp[kd]
  have mv:=aT.co.fd j t;rw[m']at mv;have G:=af (QE mv n (n:aa) rfl ⟨ZN.o j t,U⟩);have T':(x.f j).next<=1000000:=by have:=aT.co.dG j t;rwa [m']at this
  clear m' mv;have ZW:j=0\/j=1:=U;rcases ZW with rfl|rfl
  .rw[<-vl.out]at G;go_wp2_with fail;refine aU G.out ?_;rintro m ⟨M,C⟩;have hfin:=aT.co.feed t (y:=pg (x.f 0) n) (by unfold pg;rw[<-vl.out];exact M) C T';rw[KS]at hfin;have l:=aT.ou s.out hfin (C.mono λj _ d=>qT t d);clear M C hfin aT G;have i0:=aS l.bS;have g0:=bI l.bS;have lb:=l.J2 (u:=p) s.out 0 rfl;clear l;simp only;go_wp2_with fail;go_roundg 1
   case rel=>exact⟨1,rfl,U,by go_num,lb⟩
   omega
  rw[<-v'.out]at G;go_wp2_with fail;refine aU G.out ?_;rintro m ⟨M,C⟩;have hfin:=aT.co.feed t (y:=pg (x.f 1) n) (by unfold pg;rw[<-v'.out];exact M) C T';rw[KS]at hfin;have l:=aT.ou s.out hfin (C.mono λj _ d=>qT t d);clear M C hfin aT G;have i0:=aS l.bS;have g0:=bI l.bS;have lb:=l.J2 (u:=q) s.out 1 rfl;clear l;simp only;go_wp2_with fail;go_roundg 0
  case rel=>exact⟨2,rfl,U,by go_num,lb⟩
  omega
 obtain rfl:j=2:=U;have TS:=n4 aT.st;have i0:=aS aT.bS;go_wp2_with refine dp TS rfl rfl rfl ?_
 refine(ZS.out _).mono ?_;rintro e m ⟨cC,rfl,P,zp⟩;obtain⟨A,cap,rfl,_,_⟩:=cS P;have Z1:=bP aT.bh;have Z8:=P.lt;have r':=(ba wr).fI zp;have l:=aT.ou s.out (aT.co.keep r') (k2 r');have N:=lV m;have z:=aX m (ae (bn cf) 99);obtain⟨Q,_,Tq⟩:=dP (m.alloc (ae (bn cf) 99)) 99 60 m.heap.size (bn E) _ sizeOf99 (eg _) (eg _) z (fg.2 (n9 E));have an:=fl _ m.heap.size _ (bn E) 99 z;have R:=((Keeps.refl _ m).alloc _).trans Tq;have V:=l.co.keeps R (λj d e=>by have:=l.co.lt d;omega);have ZH:=R.heap l.bh (by have:=bP l.bh;omega);have H:=l.cv.trans ((cL (Keeps.refl b.S m) R a7));have ZY:∀ j,b.S j->j≠m.heap.size:=λj d=>by have:=l.co.lt d;omega
 have Z:=b4 P R (λj d e=>by have:=(P.lt j d).2;omega);have Z6:=s.out b.B (.inr (.inr (.inr (.inr rfl))));have Z9:w.heap.size≠m.heap.size:=by have:=bP l.bh;omega
 clear aT l zp r' z Tq R TS i0;simp only;go_wp2_with first|refine d_ N rfl rfl ?_|refine c8 Q rfl rfl rfl rfl ?_
 clear N Q;generalize (m.alloc (ae (bn cf) 99)).setRow m.heap.size (bn E)=F at *;have V':=V.ok;have ZO:=ZY b.B (.inr (.inr (.inr (.inr rfl))));have Z5:=s.out b.B (.inr (.inr (.inr (.inr rfl))));have Z2:=j8 (S:=λj=>j=b.B) (w:=F.drew) V.eb V'.AA;have ZL:∀ W,(∃ x:g_ (λj=>j=b.B) F.drew,W=x.to)->(Instr.loadAt 99 m.heap.size).run prog W=.ok (.agg (bn E)) W:=by
  rintro W ⟨x,rfl⟩;exact n4 (x.keeps.heap (a:=F.drew) an (λe=>ZO e.symm))
 have hd:=V.keep (Keeps.refl _ F).drew;have ZR:=af (JN hd.st (n+1) ((n+1:J):aa) rfl ZV E);refine cH 9 ?_;refine o7 (λj=>j=b.B) (.range 7) [7,8] 0 ?_
 repeat (first|(refine ke ZL rfl rfl rfl ?_;simp only[Act.put,c7])|go_big_quiet_step (fail))
 refine wpQuiet_nil ?_;refine gi λK ys=>?_;go_simp;refine aU ZR.o ?_;rintro Z3 ⟨zd,D⟩;refine ys _ _ (c0 (D)) ?_;clear ys K;refine n3 (c0 (D)) ?_;refine iu ?_;have hfin:=hd.uF zd (D.mono λ_ _ e=>.inr e);have Y:=D.heap (a:=F.drew) ZH U;have ZK:=(H.trans ((ba F).drew.mono λ_ _ x=>x.elim)).trans (D.mono (T:=b.S) λ_ _ e=>.inr (.inr (.inr (.inr e))));have g0:=bI Y;have bt:=aS Y;have ZZ:=km Y (I (n:aa)) (aq A xs.length cap);have fr:=((Keeps.refl (λj=>j=w) Z3).setCell (p:=ad w 0 ab) rfl (I (n:aa))).setCell (p:=ad w 1 ab) rfl (aq A xs.length cap);have Aw:=hfin.keeps fr (λj d e=>Ex);have ZJ:=cL ZK fr a7;have ZI:=kB (b4 (b4 (b4 Z (ba F).drew (λ_ _=>id)) D (λj d e=>by have:=(Z.lt j d).1;omega)) fr (λj d e=>by have:=(Z.lt j d).1;omega)) (show w.heap.size+1<=wr.heap.size from Z1);have gf:=b6 ZI (bB Aw ZJ);clear hfin Aw zd D hd V Z2 ZL ZH Y ZK H fr V' Z ZI P ZJ;go_wp2;have ZX:=kU ZZ;rw[<-ZM.out];refine dq (v:=aV #[aQ #[I (n:aa),aq A xs.length cap],I 0]) ZX ?_;exact⟨⟨A,cap,rfl,gf.o.1⟩,gf.o.2.1,gf.o.2.2⟩
def Kv(x:ck)(v:J->aa):ck:={yL x x.now v with now:=x.now+1}
def Pv(h:IsCore w b x){r:aa}{v:J->aa}(vl:fJ x=none)(m':jn x=false)(CW:x.now<(x.f x.aL).next)(l':gQ x.L (x.now:aa)=some v)(Q:Mid 2 x.now r v)(w':0<=r/\r<=x.now)(ar:x.now<=500000)(aW:∀ j,j<2->dA x x.now j<=63)(mv:∀ j,j<2->(x.f j).first<=x.now)(ps:fc x.eQ 81 ((x.now+1:J):aa)):aA 146 #[b.c] w (vq w b (Kv x (ix (dA x x.now 0) (dA x x.now 1) v)) x.now (kb (dA x x.now 0) (dA x x.now 1) v)):=by
 obtain⟨O,V⟩:∃ O,vq w b (Kv x (ix (dA x x.now 0) (dA x x.now 1) v)) x.now (kb (dA x x.now 0) (dA x x.now 1) v)=O:=⟨_,rfl⟩;rw[V];have sd:∀ j,b.S j->j<w.heap.size:=λj d=>h.lt d;have X:=af (λ(W:ai) (hk:Keeps aI w W)=>vI ((h.keep hk).fd (1-x.aL) U));have M:=vl;unfold fJ fv at M;rw[M]at X;have E:=(ba w).alloc (ae #[I 0,aq none 0 0] 271);have Y:=aX w (ae #[I 0,aq none 0 0] 271);have s:=af sd
 go_in
 go_wp2_with fail;generalize w.alloc (ae #[I 0,aq none 0 0] 271)=bk at *;refine aU (((λ(W:ai) (hk:Keeps aI w W)=>rS (h.keep hk))) _ E) ?_;rintro ao ⟨TS,D⟩;have F:=E.trans (mT D);have Z:=(mT D).heap Y id;clear D Y E;go_wp2_with fail;refine aU (X.out _ F) λaC B=>?_;have G:=F.trans B;have a':=B.heap Z id;have h2:=h.keep G;clear B Z F;simp only[pt,oI];have i:=af (λn=>xQ (h2.drew n));rw[m']at i;have y:=af (λn=>vB (h2.drew n));have z:=af (λn=>qS ((h2.drew n).fd x.aL h.aL));have c5:=h2.c5;go_wp2_with fail;go_quiet (first|(go_at_call 216;first|exact Calls.quiet_of (i.o _)|exact iK (i.o _))|(go_at_call 56;first|exact Calls.quiet_of (y.o _)|exact iK (y.o _))|(go_at_call 49;first|exact Calls.quiet_of (nc (z.o _))|exact iK (nc (z.o _))));have t:=h2.drew nq;have g':=G.drewN nq;have C:=((ba aC).drewN nq).heap a' id;generalize aC.drewN nq=bm at *;clear h2 G a' c5 i y z;have c5:=t.c5;have R:=af (Gc t x.now l' Q w' ar aW mv ps);have s':=bP C;clear t;go_wp2_with fail;refine R.o.mono ?_;rintro e K ⟨⟨A,cap,rfl,l⟩,a,H⟩;have N:=V;have lb:=af N;clear N;generalize zd:kb (dA x x.now 0) (dA x x.now 1) v=xs at *;generalize ys:ix (dA x x.now 0) (dA x x.now 1) v=T' at *;clear zd ys Q;have g:=H.heap C (λe=>by have:=s.out _ e;omega);clear R C c5;have c5:K.cell? (ad b.c 7 ab)=some (I (x.now:aa)):=a.c5;have g7:=bI a.head;have zp:=bP a.head;have Tq:IntKind.i64.wrap ((x.now:aa)+1)=(x.now:aa)+1:=ev _ U;have g0:=bI g;have bt:=aS g;have Q':=bP g;have u:=a.WS (x.now+1) U;rw[show((x.now+1:J):aa)=(x.now:aa)+1 by omega]at u;have k:=(Keeps.refl (λj=>j=b.c) K).setCell (p:=ad b.c 7 ab) rfl (I ((x.now:aa)+1));have Aw:=s.out b.c (.inl rfl);have fr:=k.heap g U;have v':=cm (km fr (I (x.now:aa)) (aq A xs.length cap)) (ae #[I (x.now:aa),aq A xs.length cap] 271);have m:=(((Keeps.refl (λj=>j=w) (K.setCell (ad b.c 7 ab) (I ((x.now:aa)+1)))).setCell (p:=ad w 0 ab) rfl (I (x.now:aa))).setCell (p:=ad w 1 ab) rfl (aq A xs.length cap)).alloc (ae #[I (x.now:aa),aq A xs.length cap] 271);have P:=u.keeps m (λj d e=>Ex);have hd:=cL ((g'.mono (T:=b.S) λ_ _ x=>x.elim).trans (H.trans (k.mono (T:=b.S) λ_ _ e=>.inl e))) m a7;have St:=s';have gf:=kB (b4 (b4 l k (λj d e=>by have:=(l.lt j d).1;omega)) m (λj d e=>by have:=(l.lt j d).1;omega)) (show w.heap.size+1<=bm.heap.size+1 by omega);have q:=b6 gf (bB P hd);clear a u P k fr m H g' g l gf hd;simp only;go_wp2;have r':=kU v';rw[<-lb.o];refine dq (v:=aV #[aQ #[I (x.now:aa),aq A xs.length cap],I 0]) r' ?_;exact⟨⟨A,cap,rfl,q.o.1⟩,q.o.2.1,q.o.2.2⟩
def Pw(h:IsCore w b x)(z:fJ x=none)(u:jn x=true):aA 146 #[b.c] w λe w'=>e=aV #[aQ #[I 0,aq none 0 0],I 9]/\Keeps aI w w':=by
 have m:=af (λ(W:ai) (hk:Keeps aI w W)=>vI ((h.keep hk).fd (1-x.aL) U));have i:=z;unfold fJ fv at i;rw[i]at m;have g:=(ba w).alloc (ae #[I 0,aq none 0 0] 271);have r:=aX w (ae #[I 0,aq none 0 0] 271)
 go_in
 go_wp2_with fail;generalize w.alloc (ae #[I 0,aq none 0 0] 271)=bk at *;refine aU (((λ(W:ai) (hk:Keeps aI w W)=>rS (h.keep hk))) _ g) ?_;rintro ao ⟨E,f⟩;have s:=g.trans (mT f);have A:=(mT f).heap r id;clear f r g;go_wp2_with fail;refine aU (m.out _ s) λaC q=>?_;have t:=s.trans q;have h2:=h.keep t;simp only[pt,oI];have a:=af (λn=>xQ (h2.drew n));rw[u]at a;have k:=af (λn=>vB (h2.drew n));have l:=af (λn=>qS ((h2.drew n).fd x.aL h.aL));go_wp2_with fail;go_quiet (first|(go_at_call 216;first|exact Calls.quiet_of (a.o _)|exact iK (a.o _))|(go_at_call 56;first|exact Calls.quiet_of (k.o _)|exact iK (k.o _))|(go_at_call 49;first|exact Calls.quiet_of (nc (l.o _))|exact iK (nc (l.o _))));have B:=t.drewN nq;have d:=((ba aC).drewN nq).heap (q.heap A id) id;generalize aC.drewN nq=bm at *;have g0:=bI d;have bt:=aS d;have D:=((Keeps.refl (λj=>j=w) bm).setCell (p:=ad w 0 ab) rfl (I 0)).setCell (p:=ad w 1 ab) rfl (aq none 0 0);have C:=cL B D a7;go_wp2;have y:=kU (km d (I 0) (aq none 0 0));refine dq (v:=aV #[aQ #[I 0,aq none 0 0],I 9]) y ?_;exact⟨rfl,C⟩
def Ps(h:IsCore w b x)(v:aa)(k:jn x=true):aA 144 #[b.c,aF v] w λe w'=>e=aV #[I 0,I 9]/\Keeps aI w w':=by
 have g:=af (λ(W:ai) (hk:Keeps aI w W)=>qS ((h.keep hk).fd x.aL h.aL));have d:=af (λ(W:ai) (hk:Keeps aI w W)=>xQ (h.keep hk));rw[k]at d;generalize (x.f x.aL).next=dG at *
 go_in
 go_wp2_with fail;refine aU (vB h) ?_;rintro ao ⟨m,i⟩;have a:=mT i;clear i;go_wp2_with fail;refine bA (g.out _ a) ?_;go_wp2_with fail;refine aU (d.out _ a) ?_;rintro aC ⟨n,j⟩;have l:=a.trans (mT j);clear j a g d;go_wp2;go_ret2;exact⟨rfl,l⟩
section
attribute [local go_sem] Oper.semAt_some
variable{w w':ai}{b:f'}{x:ck}
structure fp where
 n:J
 A:b5 Addr
 cap:J
 xs:ah aB
def fp.cC(p:fp):ax:=aq p.A p.xs.length p.cap
def fp.key(p:fp):J×ah aB:=(p.n,p.xs)
def gU(x:ck)(n:J):J->aa:=(gQ x.L (n:aa)).getD cf
def jd(x:ck)(n:J):ck:=yL x n (ix (dA x n 0) (dA x n 1) (gU x n))
def hi(x:ck)(n:J):ah aB:=kb (dA x n 0) (dA x n 1) (gU x n)
def replay(x:ck)(g:J):J->ck
 | 0=>x
 | k+1=>jd (replay x g k) (g+k)
def mu(x:ck)(g k:J):ah (J×ah aB):=(range k).map λj=>(g+j,hi (replay x g j) (g+j))
def UA(x:ck)(g k:J):mu x g (k+1)=mu x g k++[(g+k,hi (replay x g k) (g+k))]:=by
 unfold mu;rw[qs,jy];rfl
structure Can(x:ck)(n:J):ak where
 L:gQ x.L (n:aa)=some (gU x n)
 st:∃ r,Mid 2 n r (gU x n)/\0<=r/\r<=n
 top:n<=500000
 bS:∀ j,j<2->dA x n j<=63
 GR:∀ j,j<2->(x.f j).first<=n
 uF:fc x.eQ 81 ((n+1:J):aa)
def PA(h:IsCore w b x){n:J}(al:Can x n):aA 218 #[b.c,I (n:aa)] w (vq w b (jd x n) n (hi x n)):=by
 have⟨r,a,d⟩:=al.st;exact Gc h n al.L a d al.top al.bS al.GR al.uF
theorem Jr(x:ck)(g:J):∀ k,(replay x g k).now=x.now
 | 0=>rfl
 | k+1=>Jr x g k
def Pz(a:Addr)(n:aa)(w:ai):aA 209 #[.pointer (some a),I n] w λe w'=>
  e=.returned (.func (.func 272) #[] #[.pointer (some (ad (w+1) 0 ab)),w.heap.size])/\(w.alloc (ae #[.pointer (some a)] 63)).alloc (ae #[I n] 3)=w':=by
 go_in
 go_wp2;go_ret;exact⟨rfl,rfl⟩
def Fa(x:ck)(g:J)(s:J)(pre:ah fp)(p:fp)(W:ai):ak:=
 g+pre.length<x.now/\p.key=(g+pre.length,hi (replay x g pre.length) (g+pre.length))/\W.ownsRow (s+1) 45 9 p.cC p.xs.length (bX p.xs)
def Ah(b:f')(x:ck)(g:J)(ps:ah fp)(W:ai):ak:=ps.map fp.key=mu x g (x.now-g)/\IsCore W b (replay x g (x.now-g))
def Oi(h:IsCore w b x)(g:J)(aZ:g<=x.now)(gf:∀ k,g+k<x.now->Can (replay x g k) (g+k))(f a:J)(lb:w.cell? (ad f 0 ab)=some (I (g:aa)))(al:w.cell? (ad a 0 ab)=some (.pointer (some (ad b.c 0 ab))))(E:f<w.heap.size/\a<w.heap.size)(hne:¬ b.S f/\¬ b.S a)(q:J->ak)(H:¬ q f/\¬ q a/\∀ j,b.S j->¬ q j):tl prog 272 #[f,a] (λp:fp=>#[aQ #[I (p.n:aa),p.cC],I 0]) (Fa x g) (Ah b x g) q b.S w:=by
 intro l Q W l' hk CW w' Y R;subst l';have r:∀ j,b.S j->j<w.heap.size:=λj d=>h.lt d;have Aw:=h.gH;have s:=af r;have ys:=hk.cell lb id;have a':=hk.cell al id;have h1:=af (h.keep hk);refine gK.2 ?_
 go_in
 go_wp2_with fail;go_loopg [4] (x.now-g) (λm z wr=>∃ pre:ah fp,m=x.now-(g+pre.length)/\g+pre.length<=x.now/\z=I ((g+pre.length:J):aa)/\pre.map fp.key=mu x g pre.length/\wr.cell? (ad a 0 ab)=some (.pointer (some (ad b.c 0 ab)))/\IsCore wr b (replay x g pre.length)/\Q pre wr/\w.heap.size+2<=wr.heap.size)
 case atStart=>exact⟨[],rfl,by simpa using aZ,rfl,rfl,a',h1.o,R,U⟩
 obtain⟨pre,hm,zp,rfl,mv,g',aT,F,r'⟩:=hrel;have c5:=aT.c5;rw[Jr]at c5;have C:=af mv;by_cases r:g+pre.length<x.now
 .have G:=af (PA aT (gf pre.length r));obtain⟨y,u⟩:∃ y,replay x g pre.length=y:=⟨_,rfl⟩;rw[u]at G aT;have m':replay x g (pre.length+1)=jd y (g+pre.length):=by show jd (replay x g pre.length) (g+pre.length)=_;rw[u]
  have D:=af u;have P:=af m';generalize ar:g+pre.length=n at *;have i:=af ar;go_upto_region 3 with fail
  refine(oz (n:=0)).1 ?_;gi_wp2_with (fail);refine⟨trivial,rfl,gK.2 (G.o.mono ?_)⟩;rintro e aC ⟨⟨A,cap,rfl,ps⟩,h2,v⟩;have Z:=Y pre ⟨n,A,cap,hi y n⟩ wr aC F v ⟨by rw[i.out];exact r,by rw[D.out,i.out];rfl,ps⟩;obtain⟨fn,tmps,assign,body,vl,X⟩:=Z;simp only[fp.cC]at vl;have hd:=v.cell (p:=ad a 0 ab) g' hne.2;have sd:=b7 r' v.size;gi_wp2;refine⟨rfl,X.mono ?_⟩;rintro e v' ⟨rfl,V,t⟩;have E:=E;have fr:=t.cell (p:=ad a 0 ab) hd (λe=>e.elim H.2.1 (λe=>by have e:a=w.heap.size+1:=e;omega));have T:=h2.keeps t (λj d e=>e.elim (H.2.2 j d) (λe=>Ex));have s':=b7 sd t.size;have B:=b6 V T;gi_wp2;go_wp2;have L:g+(pre++[fp.mk n A cap (hi y n)]).length=n+1:=by rw[<-i.out];simp;omega
  have M:(pre++[fp.mk n A cap (hi y n)]).length=pre.length+1:=aK;go_roundg (x.now-(n+1))
  case measure=>omega
  refine⟨pre++[fp.mk n A cap (hi y n)],by rw[L],U,by rw[L];go_num,?_,fr,?_,B.o.1,s'⟩
  .rw[M,UA,D.out,i.out,jy,C.out];rfl
  rw[M,P.out];exact B.o.2
 have zd:¬ ((g+pre.length:J):aa)<(x.now:aa):=U;have K:pre.length=x.now-g:=U;rw[K]at aT;have N:=af (show Ah b x g pre wr from⟨by rw[C.out,K],aT⟩);have O:=af F;go_wp2;go_end0;exact⟨⟨_,rfl⟩,pre,O.o,N.o⟩
end
section
attribute [local go_sem] Oper.semAt_some
variable{w w':ai}{b:f'}{x:ck}
def rowP(ps:ah fp):ah ax:=ps.flatMap λp=>[I (p.n:aa),p.cC]
def Fh(w:ai)(b:f')(x:ck)(g:J)(e:Ending)(w':ai):ak:=
 ∃ (ps:ah fp) (A:b5 Addr) (cap:J),e=aV #[aq A ps.length cap,I 0]/\w'.ownsRow w.heap.size 271 2 (aq A ps.length cap) ps.length (rowP ps)/\ps.map fp.key=mu x g (x.now-g)/\
  (∀ p∈ps,w'.ownsRow w.heap.size 45 9 p.cC p.xs.length (bX p.xs))/\IsCore w' b (replay x g (x.now-g))/\Keeps b.S w w'
def ub{bO h cp m s1 s2:J}{d e:TypeId}{f v2:ax}{k l:ah ax}(h1:w.ownsRow bO d s1 f cp k)(h2:w.ownsRow h e s2 v2 m l)(i:d≠e){j:J}(b:f.ownBlock=some j):v2.ownBlock≠some j:=λc=>by
 rcases h1.2 with⟨rfl,_⟩|⟨g,cap,o,rfl,_,aJ,_⟩
 .simp[Value.ownBlock]at b
 rcases h2.2 with⟨rfl,_⟩|⟨q,n,p,rfl,_,a,_⟩
 .simp[Value.ownBlock]at c
 simp only[Value.ownBlock,hr]at b c;subst b;rw[c,aJ]at a;simp only[hr,wR]at a;exact i a.2.1
structure vs(w:ai)(X:J)(S:J->ak)(pre:ah fp)(W:ai):ak where
 row:∃ v,W.heap[X]?=some (ae #[v] 267 (0,0))/\W.ownsRow (X+5) 271 2 v pre.length (rowP pre)
 k8:∀ p∈pre,W.ownsRow (X+5) 45 9 p.cC p.xs.length (bX p.xs)
 eO:W.heap[w.heap.size]?=some (ae #[aq none 0 0] 267 (0,0))
 fu:W.heap[w.heap.size+1]?=some (ae #[I 0] 36 (0,0))
 cv:Keeps S w W
 cE:X+3<=W.heap.size
def vs.keep{X:J}{S T:J->ak}{pre:ah fp}{W W':ai}(h:vs w X S pre W)(hk:Keeps T W W')(i:w.heap.size+2<=X)(an:∀ k,S k->k<w.heap.size)(a:∀ k,T k->S k\/k=X+3\/k=X+4):vs w X S pre W':=by
 have⟨v,h1,h2⟩:=h.row;have ar:∀ k,w.heap.size<=k->k<X+3->¬ T k:=λk d g e=>by
  rcases a k e with e|e|e
  .have:=an k e;omega
  .omega
  omega
 have c:∀ k,X+5<=k->¬ T k:=λk d e=>by
  rcases a k e with e|e|e
  .have:=an k e;omega
  .omega
  omega
 refine⟨⟨v,hk.heap h1 (ar _ U U),b4 h2 hk (λb aj=>c _ (h2.lt b aj).1)⟩,λp au=>b4 (h.k8 p au) hk (λb aj=>c _ ((h.k8 p au).lt b aj).1),hk.heap h.eO (ar _ U U),hk.heap h.fu (ar _ U U),?_,b7 h.cE hk.size⟩;exact cL h.cv hk (λk f e=>by
  rcases a k e with e|e|e
  .exact e
  .omega
  .omega)
def FX(A:ai)(cs:a6 ax)(t:TypeId)(j:J)(u:ax)(h:cs.toList[j]?=some u):(A.alloc (ae cs t)).cell? (((ad A 0 ab):Addr).add j)=some u:=by
 rw[h3,gC];exact bb (aX _ _) ik
def Sf:∃ i,prog.info? 271=some i/\i.zero=some (aQ #[I 0,aq none 0 0])/\i.size=2/\i.bytes=32:=by
 have h:(prog.info? 271).map (λi=>(i.zero,i.size,i.bytes))=some (some (aQ #[I 0,aq none 0 0]),2,32):=aH;cases aJ:prog.info? 271 with
 | none=>rw[aJ]at h;cases h
 | some i=>rw[aJ]at h;simp only[pw,hr,jA]at h;exact⟨i,rfl,h.1,h.2.1,h.2.2⟩
def VS(w:ai):(Instr.alloc 271 true (aV #[])).run prog w=.ok w.heap.size (w.alloc (ae #[I 0,aq none 0 0] 271)):=aH
def P1:271≠45:=bq
def Pt(h:IsCore w b x){g:J}(hw:fJ x=some g)(aZ:g<=x.now)(ZV:∀ k,g+k<x.now->Can (replay x g k) (g+k))(ar:x.now<=g+1000):aA 138 #[b.c] w (Fh w b x g):=by
 have y:∀ j,b.S j->j<w.heap.size:=λj z=>h.lt z;have C:=af (λ(W:ai) (hk:Keeps aI w W)=>rS (h.keep hk));have ys:=af (λ(W:ai) (hk:Keeps aI w W)=>vI ((h.keep hk).fd (1-x.aL) U));have s':=hw;unfold fJ fv at s';rw[s']at ys;have r':=((ba w).alloc (ae #[aq none 0 0] 267)).alloc (ae #[I 0] 36);have F:=cm (aX w (ae #[aq none 0 0] 267)) (ae #[I 0] 36);have l:=aX (w.alloc (ae #[aq none 0 0] 267)) (ae #[I 0] 36);rw[fK]at l;have V':=af ZV;obtain⟨PP,w'⟩:∃ PP,Fh w b x g=PP:=⟨_,rfl⟩;rw[w'];refine(gK (n:=0)).1 ?_;refine callsIn_of_wp_marks func138 rfl trivial ?_ rfl;simp only[ntmps138,gW,ds,e_,Nat.reduceAdd,Nat.reduceSub,sJ,sK,sT,sM,nD,kF];gi_wp2_with (fail);generalize (w.alloc (ae #[aq none 0 0] 267)).alloc (ae #[I 0] 36)=bk at *;refine⟨trivial,rfl,gK.2 ((C.o _ r').mono ?_)⟩;rintro e ao ⟨rfl,aal,N⟩;have CW:=r'.trans (mT N);have F:=(mT N).heap F id;have l:=(mT N).heap l id;clear N r';gi_wp2_with (fail);refine⟨trivial,rfl,gK.2 ((ys.out _ CW).mono ?_)⟩;rintro e aC ⟨rfl,i⟩;have F:=i.heap F id;have l:=i.heap l id;simp only[hX,pv];gi_wp2_with (fail);refine⟨trivial,rfl,gK.2 ((Pz _ _ _).mono ?_)⟩;rintro e bm ⟨rfl,G⟩;gi_wp2_with (fail);have r:bm.heap.size=aC.heap.size+3:=by rw[<-G];simp
 have L:w.heap.size+2<=aC.heap.size:=by have:=bP l;omega
 have m':Keeps aI aC bm:=by rw[<-G];exact(((Keeps.refl _ aC).alloc _).alloc _).alloc _
 have ZQ:bm.heap[aC.heap.size]?=some (ae #[aq none 0 0] 267 (0,0)):=by rw[<-G];exact cm (cm (aX _ _) _) _
 have ZJ:bm.heap[aC.heap.size+1]?=some (ae #[b.c] 63 (0,0)):=by
  have:=cm (aX (aC.alloc (ae #[aq none 0 0] 267)) (ae #[b.c] 63)) (ae #[I g] 3)
  rw[fK,G]at this;exact this
 have ZK:bm.heap[aC.heap.size+2]?=some (ae #[I g] 3 (0,0)):=by
  have:=aX ((aC.alloc (ae #[aq none 0 0] 267)).alloc (ae #[b.c] 63)) (ae #[I g] 3)
  rw[fK,fK,G]at this;exact this
 have Q':=(CW.trans i).trans m';have l:=m'.heap l id;have m:=af y;generalize aaf:aC.heap.size=X at *
 refine C' (gf:=272) (lb:=#[.pointer (some (ad (X+1+1) 0 ab)),.pointer (some (ad (X+1) 0 ab))]) rfl (enters_of func272 aH rfl)
  (encs:=λp:fp=>#[aQ #[I (p.n:aa),p.cC],I 0]) (λ_=>rfl) (Fa x g) (Ah b x g) (λk=>k=X\/X+4<k) b.S
  (Oi (h.keep Q') g aZ V'.out (X+2) (X+1) (bb ZK rfl) (bb ZJ rfl) ⟨U,U⟩ ⟨λe=>z',λe=>z'⟩ _ ⟨U,U,λj z e=>by have:=m.o _ z;omega⟩)
  (λps Y Z t R hk=>⟨t.1,t.2.keeps hk (λj z e=>by have:=m.o _ z;omega)⟩)
  xi (by rw[r];exact⟨λe=>z',λe=>z'⟩)
  (λpre W=>vs w X b.S pre W)
  ?inv ?start
  (λpre p a' W=>∃ Y,a'={tmps:=#[.pointer (some (ad b.c 0 ab)),undef,.pointer (some (ad w 0 ab)),.pointer (some (ad (w+1) 0 ab)),I g,.bool true,.pointer (some (ad X 0 ab)),.pointer (some (ad Y 0 ab)),I 0,.pointer (some (ad b.c 0 ab)),.bool false,aV #[I g,.bool true],.pointer (some (ad b.c 0 ab)),.pointer (some (ad (b.D (1-x.aL)+4) 0 ab)),aV #[I g,.bool true],I g,.bool true,.bool true,.bool false,.pointer (some (ad b.c 0 ab)),I g,.func (.func 272) #[] #[.pointer (some (ad (X+1+1) 0 ab)),.pointer (some (ad (X+1) 0 ab))],aQ #[I (p.n:aa),p.cC],I 0,undef,undef,undef,undef,undef,undef,undef,undef],defers:=[]}/\X+5<=Y/\W.heap[Y]?=some (ae #[I (p.n:aa),p.cC] 271 (0,0))/\W.ownsRow (X+5) 45 9 p.cC p.xs.length (bX p.xs)/\g+pre.length<x.now/\vs w X b.S pre W)
  ?ass ?assign ?body ?done
 case inv=>
  intro pre Y Z t R hk;exact t.keep hk L m.o (λk hk=>by rw[r]at hk;omega)
 case start=>exact⟨⟨_,ZQ,gI _ _ _ _⟩,λp au=>by simp at au,(m'.heap F id),l,Q'.mono λ_ _ x=>x.elim,U⟩
 case ass=>
  rintro pre p a' A cB ⟨Y,rfl,t,fr,O,y,a⟩ R hk;exact⟨Y,rfl,t,hk.heap fr U,b4 O hk (λj z e=>by have:=(O.lt j z).1;omega),y,a.keep hk L m.out a7⟩
 case assign=>
  intro l' pre p St A K Z1 ZO aai ZY Z4 R ZP;obtain⟨y,_,Z6⟩:=Z4;have a:=ZO.keep ZY L m.out (λk hk=>.inl hk);have zd:=aX A (ae #[I 0,aq none 0 0] 271);obtain⟨Z9,_,Z0⟩:=dP (A.alloc (ae #[I 0,aq none 0 0] 271)) 271 2 A.heap.size #[I (p.n:aa),p.cC] _ sizeOf271 rfl rfl zd rfl;have ZS:=fl (A.alloc (ae #[I 0,aq none 0 0] 271)) A.heap.size _ #[I (p.n:aa),p.cC] 271 zd;have mv:=cL ((ba A).alloc (ae #[I 0,aq none 0 0] 271)) Z0 a7;generalize (A.alloc (ae #[I 0,aq none 0 0] 271)).setRow A.heap.size #[I (p.n:aa),p.cC]=aab at *;simp only[zQ,zO,zP,zH,oC,rz,c7];have V:=b6 ZS (bB (b4 (kB Z6 (show X+5<=St.heap.size+1 by omega)) mv (λ_ _=>id)) (a.keep mv L m.out (λk hk=>hk.elim)));generalize p.cC=cC at *;gi_wp2_with (first|(refine zi (VS A) rfl rfl ?_)|(refine zj Z9 rfl rfl rfl rfl ?_));exact ZP _ _ ⟨A,rfl,U,V.o.1,V.o.2.1,y,V.o.2.2⟩ (mv.mono λ_ _ x=>x.elim)
 case body=>
  rintro l' pre p a' A Z1 ⟨Y,rfl,t,fr,O,y,a⟩ R;obtain⟨i0,ZX,Z_,Z',aaa⟩:=Sf;obtain⟨v,B,d⟩:=a.row;have Z2:=gz (P:=prog) 271 2 Y 0 #[I (p.n:aa),p.cC] _ _ isAgg271 sizeOf271 rfl fr (λj u z=>jZ);have Z5:∀ u∈[I (p.n:aa),p.cC],u.oneCell'=true:=fg.1 rfl;have Z7:rowP (pre++[p])=rowP pre++[I (p.n:aa),p.cC]:=by simp[rowP]
  have zp:∀ q∈pre++[p],A.ownsRow (X+5) 45 9 q.cC q.xs.length (bX q.xs):=λq f=>by
   rcases e5.1 f with f|f
   .exact a.k8 q f
   simp at f;subst f;exact O
  have Z8:∀ q∈pre++[p],∀ j,q.cC.ownBlock=some j->v.ownBlock≠some j:=λq f j z e=>ub d (zp q f) P1 e z;have W':=jv B;have ZI:=nx B;have H1:=af B;have T':=af a;have TS:=af ZX;have T:=b6 zp Z8;have ZW:=FX A #[I (p.n:aa),p.cC] 271;have Z3:=d.alloc (ae #[I (p.n:aa),p.cC] 271);have aah:pre.length+1<=1000:=U;have aaj:p.cC.cells=#[p.cC]:=rfl;generalize p.cC=cC at *;gi_wp2_with (first|(refine Da Z2 rfl rfl rfl ?_)|(gi_at_builtin;refine wpListIn_append_own _ rfl _ _ 267 rfl (X+5) 271 i0 (aQ #[I 0,aq none 0 0]) 2 32 underlying267 TS.o Z_ Z' aaa rfl bq _ _ _ rfl Z3 (ad A 0 ab) 1 1 [I (p.n:aa),cC] rfl rfl ZW Z5 pB U bT ?_;intro v' ao s hd _;have ZZ:Keeps (λk=>k=X\/v.ownBlock=some k) A ao:=((Keeps.refl _ A).alloc _).grown hd (λk hk=>.inl (.inr hk));obtain⟨g',sd,rfl⟩:=ownsRow_succ s;have h2:=(hd.block X bT (λe=>xe)).trans (cm H1.o _);have aad:=jv h2;have aae:=nx h2;have Q:=af h2;clear h2 hd));have i:=ZZ.setCell (p:=ad X 0 ab) (.inl rfl) (aq (some (ad g' 0 ab)) (pre.length+1) sd);have H:=T'.o;have C:∀ k,(k=X\/v.ownBlock=some k)->X<=k:=λk e=>e.elim a7 (λe=>by have:=(d.lt k e).1;omega);have ZR:∀ k,(k=X\/v.ownBlock=some k)->k=X\/X+4<k:=λk e=>e.elim .inl (λe=>.inr (by have:=(d.lt k e).1;omega));refine⟨i.mono (λk _ e=>ZR k e),⟨⟨aq (some (ad g' 0 ab)) (pre.length+1) sd,xf,?_⟩,λq f=>b4 (T.o.1 q f) i (λj z e=>?_),i.heap H.eO (λe=>rJ),i.heap H.fu (λe=>rJ),cL H.cv i (λk hk e=>rJ),b7 H.cE i.size⟩⟩
  .rw[cx,iT,Z7];exact b4 s ((Keeps.refl (λk=>k=X) ao).setCell (p:=ad X 0 ab) rfl _) (λb aj h=>zZ)
  rcases e with e|e
  .have:=((T.out.1 q f).lt j z).1;omega
  exact T.out.2 q f j z e
 rintro ps W a ZN aak ZL;obtain⟨v,B,d⟩:=a.row;have W':=jv B;have ZI:=nx B;have bt:=jv a.eO;have f0:=nx a.eO;have bY:=jv a.fu;have f1:=nx a.fu;have E:=af a;have vl:=af ZN;have Tq:=af ZL;obtain⟨A,cap,rfl,_,_⟩:=cS d;have Aw:=((Keeps.refl (λj=>j=w.heap.size\/j=w.heap.size+1) W).setCell (p:=ad w 0 ab) (.inl rfl) (aq A ps.length cap)).setCell (p:=ad (w+1) 0 ab) (.inr rfl) (I 0);have ZM:=Aw.heap Tq.o U;gi_wp2_with (fail);refine⟨aK,.inl ⟨_,_,rfl,run_takeDeferred ZM,?_⟩⟩;have aag:bm.heap.size<W.heap.size:=U;have M:Keeps (λj=>j=w.heap.size\/j=w.heap.size+1\/j=bm.heap.size) W (((W.setCell (ad w 0 ab) (aq A ps.length cap)).setCell (ad (w+1) 0 ab) (I 0)).putObj bm.heap.size (.deferred none)):=(Aw.mono (λj _ e=>e.elim .inl (λe=>.inr (.inl e)))).putObj (.inr (.inr rfl)) _;have ZG:=(World.putObj_heap_other (o:=.deferred none) (show w.heap.size≠bm.heap.size by omega)).trans (eU (bV E.o.eO 0 (aq A ps.length cap)) (p:=ad (w+1) 0 ab) (show w.heap.size≠w.heap.size+1 by omega) (I 0));have ZH:=(World.putObj_heap_other (o:=.deferred none) (show w.heap.size+1≠bm.heap.size by omega)).trans (bV (eU E.o.fu (p:=ad w 0 ab) (show w.heap.size+1≠w.heap.size by omega) (aq A ps.length cap)) 0 (I 0));have ZT:=bb (k:=0) ZG rfl;have ZU:=bb (k:=0) ZH rfl;generalize ((W.setCell (ad w 0 ab) (aq A ps.length cap)).setCell (ad (w+1) 0 ab) (I 0)).putObj bm.heap.size (.deferred none)=aac at *;refine⟨aV #[aq A ps.length cap,I 0],by simp[results,results138,asAddr,loadVar,isAgg267,isAgg36,go_sem,ZT,ZU],?_⟩;rw[<-w'];refine⟨ps,A,cap,rfl,kB (b4 d M (λj z e=>by have:=(d.lt j z).1;omega)) U,vl.o.1,λp au=>kB (b4 (E.o.k8 p au) M (λj z e=>by have:=((E.o.k8 p au).lt j z).1;omega)) U,vl.o.2.keeps M (λj z e=>by have:=m.out j z;omega),?_⟩;exact cL E.out.cv M a7
end
section
section
variable{α:Type}
def b2(g:J->α)(m:J)(v:α):J->α:=λj=>if j=m then v else g j
def je(g:J->α)(m:J)(v:α):b2 g m v m=v:=aD rfl
def ie(g:J->α){m j:J}(v:α)(h:j≠m):b2 g m v j=g j:=az h
def wy{g g':J->α}{f n:J}(h:∀ j,f<=j->j<n->g j=g' j):ez g f n=ez g' f n:=by
 refine map_congr_left λi aw=>?_
 have:=po.1 aw
 rw[h (f+i) U U]
def sk(g:J->α){f n:J}(h:f<n):ez g f n=(f,g f) :: ez g (f+1) n:=by
 obtain⟨d,rfl⟩:∃ d,n=f+1+d:=⟨n-f-1,U⟩;rw[Cu g (show f<=f+1 by omega) d,wA g (c9 f),sl g (c9 f)];rfl
theorem I8(g:J->α)(n m:J)(v:α)(hm:m<n):∀ d f,m=f+d->e7 (ez g f n) m v=ez (b2 g m v) f n
 | 0,f,e=>by
  have e:=e;subst e;rw[sk g hm,sk _ hm,je];unfold e7;rw[aD bs,oB aK,nA.2 λp au=>by have:=(ur au).1;simp;omega];rw[wy (g':=b2 g m v) λj h1 _=>(ie g v U).symm]
 | d+1,f,e=>by
  rw[sk g (show f<n by omega),sk _ (show f<n by omega),ie g v (show f≠m by omega)];unfold e7;rw[az U,I8 g n m v hm d (f+1) U]
def yM(g:J->α){f n m:J}(v:α)(h:f<=m)(ar:m<=n):e7 (ez g f n) m v=ez (b2 g m v) f (max n (m+1)):=by
 by_cases e:m=n
 .subst e;rw[show max m (m+1)=m+1 by omega,<-wz (b2 g m v) h,je,wy λj _ h2=>(ie g v (show j≠m by omega)).symm]
 rw[I8 g n m v U (m-f) f U,show max n (m+1)=n by omega]
end
theorem Ll(K:ah (J×aa))(u:J->aa)(n:J):∀ d f,n=f+d->(∀ j x,f<=j->j<n->dE K j=some x->x=u j)->jf K (ez u f n)=none
 | 0,f,e,_=>by rw[sl u kh];rfl
 | d+1,f,e,h=>by
  rw[sk u (show f<n by omega)];unfold jf;have a:=Ll K u n d (f+1) U λj x h1 h2=>h j x U h2;split
  .rename_i x b;rw[aD (h f x bs U b)];exact a
  exact a
theorem Lm(K:ah (J×aa))(u:J->aa)(n g:J):∀ d f,n=f+d->jf K (ez u f n)=some g->f<=g/\g<n/\(∀ j x,f<=j->j<g->dE K j=some x->x=u j)/\∃ x,dE K g=some x/\x≠u g
 | 0,f,e,h=>by rw[sl u kh]at h;cases h
 | d+1,f,e,h=>by
  rw[sk u (show f<n by omega)]at h;unfold jf at h;have m:=Lm K u n g d (f+1) U;split at h
  .rename_i x b;split at h
   .rename_i k;have⟨h1,h2,c,i⟩:=m h;refine⟨U,h2,λj y o l a=>?_,i⟩;by_cases e:j=f
    .subst e;rw[b]at a;cases a;exact k
    exact c j y U l a
   rename_i k;cases h;exact⟨c9 _,U,λj _ h1 h2=>U,x,b,k⟩
  rename_i b;have⟨h1,h2,c,i⟩:=m h;refine⟨U,h2,λj y o l a=>?_,i⟩;by_cases e:j=f
  .subst e;rw[b]at a;cases a
  exact c j y U l a
theorem Lk(K:ah (J×aa))(u:J->aa)(n:J):∀ d f,n=f+d->jf K (ez u f n)=none->∀ j x,f<=j->j<n->dE K j=some x->x=u j
 | 0,f,e,_=>λj _ h1 h2=>by omega
 | d+1,f,e,h=>by
  rw[sk u (show f<n by omega)]at h;unfold jf at h;have c:=Lk K u n d (f+1) U;intro j y h1 h2 a;split at h
  .rename_i x b;split at h
   .rename_i g;by_cases e:j=f
    .subst e;rw[b]at a;cases a;exact g
    exact c h j y U h2 a
   cases h
  rename_i b;by_cases e:j=f
  .subst e;rw[b]at a;cases a
  exact c h j y U h2 a
def pX(a_:J->aa)(n:J):aa:=if n=0 then 0 else a_ (n-1)
def jM(a_:J->aa)(n j:J):aa:=if j<n then a_ j else pX a_ n
def nY(F now n:J)(a_ us:J->aa):Fd:=⟨F,n,pX a_ n,ez a_ F n,ez us F now⟩
structure CW(x:ck)(F:J)(a_ us:J->J->aa)(S:J->J->aa):ak where
 eQ:x.eQ=F
 L:x.L=ez S F (x.now+1)
 f:∀ k,k<2->x.f k=nY F x.now (x.f k).next (a_ k) (us k)
namespace CW
variable{x:ck}{F:J}{a_ us:J->J->aa}{S:J->J->aa}
def congr{c cr:J->J->aa}{d:J->J->aa}(h:CW x F a_ us S)(h1:∀ k,k<2->∀ j,j<(x.f k).next->a_ k j=c k j)(h2:∀ k,k<2->∀ j,F<=j->j<x.now->us k j=cr k j)(g:∀ j,F<=j->j<=x.now->S j=d j):CW x F c cr d:=by
 refine⟨h.eQ,by rw[h.L];exact wy λj a b=>g j a U,λk hk=>?_⟩;refine(h.f k hk).trans ?_;have e:pX (a_ k) (x.f k).next=pX (c k) (x.f k).next:=by
  unfold pX;split
  .rfl
  exact h1 k hk _ U
 unfold nY;rw[wy λj _ b=>h1 k hk j b,wy λj a b=>h2 k hk j a b,e]
theorem first(h:CW x F a_ us S){k:J}(hk:k<2):(x.f k).first=F:=by rw[h.f k hk];rfl
theorem K(h:CW x F a_ us S){k:J}(hk:k<2):(x.f k).K=ez (a_ k) F (x.f k).next:=by rw[h.f k hk];rfl
theorem cQ(h:CW x F a_ us S){k:J}(hk:k<2):(x.f k).cQ=ez (us k) F x.now:=by rw[h.f k hk];rfl
theorem last(h:CW x F a_ us S){k:J}(hk:k<2):(x.f k).last=pX (a_ k) (x.f k).next:=by rw[h.f k hk];rfl
theorem dA(h:CW x F a_ us S){k:J}(hk:k<2){n:J}(ar:F<=n):dA x n k=jM (a_ k) (x.f k).next n:=by
 unfold Go.Proofs.YtalagblioepadaaGreatDoor.dA oq jM;rw[h.K hk,h.last hk,qb];by_cases e:n<(x.f k).next
 .rw[aD ⟨ar,e⟩,aD e];rfl
 rw[az (λc=>e c.2),az e];rfl
def st(h:CW x F a_ us S){n:J}(ar:F<=n)(h2:n<=x.now):gQ x.L (n:aa)=some (S n):=by rw[h.L,JY,aD ⟨ar,U⟩]
theorem gU(h:CW x F a_ us S){n:J}(ar:F<=n)(h2:n<=x.now):gU x n=S n:=by
 unfold Go.Proofs.YtalagblioepadaaGreatDoor.gU;rw[h.st ar h2];rfl
def put(h:CW x F a_ us S){k:J}(hk:k<2)(a:F<=(x.f k).next)(v:aa):CW (gx x k v) F (λi=>if i=k then b2 (a_ k) (x.f k).next v else a_ i) us S:=by
 refine⟨h.eQ,h.L,λi aw=>?_⟩;unfold gx;by_cases e:i=k
 .subst e;rw[show({x with f:=eP x.f i {x.f i with next:=(x.f i).next+1,last:=v,K:=e7 (x.f i).K (x.f i).next v}}:ck).f i=eP x.f i {x.f i with next:=(x.f i).next+1,last:=v,K:=e7 (x.f i).K (x.f i).next v} i from rfl,ra];simp only[if_true];unfold nY pX;rw[az U,DT,je,h.K hk,yM _ v a bs,show max (x.f i).next ((x.f i).next+1)=(x.f i).next+1 by omega,h.first hk,h.cQ hk]
 rw[show({x with f:=eP x.f k {x.f k with next:=(x.f k).next+1,last:=v,K:=e7 (x.f k).K (x.f k).next v}}:ck).f i=eP x.f k {x.f k with next:=(x.f k).next+1,last:=v,K:=e7 (x.f k).K (x.f k).next v} i from rfl,q' _ _ e];simp only[az e];exact h.f i aw
def used(h:CW x F a_ us S){n:J}(ar:F<=n)(h2:n<=x.now)(a:n<F+64){k:J}(hk:k<2):pg (x.f k) n=nY F (max x.now (n+1)) (x.f k).next (a_ k) (b2 (us k) n (jM (a_ k) (x.f k).next n)):=by
 have e:=h.dA hk ar;unfold Go.Proofs.YtalagblioepadaaGreatDoor.dA at e;unfold pg sw;rw[e,h.first hk,aD a,h.cQ hk,yM _ _ ar h2];unfold nY;rw[<-h.K hk,<-h.last hk,<-h.first hk]
def Vs(h:CW x F a_ us S){n:J}(ar:F<=n)(h2:n<x.now)(a:n<F+64):CW (jd x n) F a_ (λk=>b2 (us k) n (jM (a_ k) (x.f k).next n)) (b2 S (n+1) (ix (jM (a_ 0) (x.f 0).next n) (jM (a_ 1) (x.f 1).next n) (S n))):=by
 unfold jd;rw[(h.gU ar U),h.dA U ar,h.dA (k:=1) U ar];refine⟨h.eQ,?_,λk hk=>?_⟩
 .show e7 x.L (n+1) _=ez _ F (x.now+1);rw[h.L,yM _ _ U U,show max (x.now+1) (n+1+1)=x.now+1 by omega]
 show(kd x n 2).f k=nY F x.now ((kd x n 2).f k).next _ _;unfold kd;simp only[aD hk];rw[h.used ar U a hk,show max x.now (n+1)=x.now by omega];rfl
def step(h:CW x F a_ us S)(ar:F<=x.now)(a:x.now<F+64):CW {jd x x.now with now:=x.now+1} F a_ (λk=>b2 (us k) x.now (jM (a_ k) (x.f k).next x.now)) (b2 S (x.now+1) (ix (jM (a_ 0) (x.f 0).next x.now) (jM (a_ 1) (x.f 1).next x.now) (S x.now))):=by
 unfold jd;rw[(h.gU ar bs),h.dA U ar,h.dA (k:=1) U ar];refine⟨h.eQ,?_,λk hk=>?_⟩
 .show e7 x.L (x.now+1) _=ez _ F (x.now+1+1);rw[h.L,yM _ _ U bs,show max (x.now+1) (x.now+1+1)=x.now+1+1 by omega]
 show(kd x x.now 2).f k=nY F (x.now+1) ((kd x x.now 2).f k).next _ _;unfold kd;simp only[aD hk];rw[h.used ar bs a hk,show max x.now (x.now+1)=x.now+1 by omega];rfl
def cut(h:CW x F a_ us S){n:J}(ar:F<=n)(h2:n<=x.now)(a:∀ k,k<2->n<=(x.f k).next):CW (rU x n) n a_ us S:=by
 refine⟨rfl,?_,λk hk=>?_⟩
 .show(x.L.filter λp=>!decide (p.1<n))=ez S n (x.now+1);rw[h.L,uq _ ar U]
 show(if k<2 then oX (x.f k) n else x.f k)=nY n x.now (if k<2 then oX (x.f k) n else x.f k).next (a_ k) (us k);rw[aD hk];unfold oX nY me;rw[h.K hk,uq _ ar (a k hk),h.cQ hk,uq _ ar h2,h.last hk]
def Di(h:CW x F a_ us S)(hm:x.aL<2)(b:F<=x.now)(av:∀ j,F<=j->j<x.now->j<(fv x).next->us (1-x.aL) j=a_ (1-x.aL) j):fJ x=none:=by
 unfold fJ;have e:=av;unfold fv at e⊢;rw[h.K U,h.cQ U];refine Ll _ _ _ (x.now-F) F U λj y h1 h2 a=>?_;rw[qb]at a;split at a
 .rename_i al;cases a;exact(e j h1 h2 al.2).symm
 cases a
def zo(h:CW x F a_ us S)(hm:x.aL<2)(k:F<=x.now){g:J}(b:fJ x=some g):F<=g/\g<x.now/\g<(fv x).next/\(∀ j,F<=j->j<g->us (1-x.aL) j=a_ (1-x.aL) j)/\us (1-x.aL) g≠a_ (1-x.aL) g:=by
 unfold fJ fv at *;rw[h.K U,h.cQ U]at b;have⟨h1,h2,e,y,a,f⟩:=Lm _ _ _ _ (x.now-F) F U b;rw[qb]at a;split at a
 .rename_i al;cases a;refine⟨h1,h2,al.2,λj d i=>?_,λc=>f c.symm⟩;exact(e j _ d i (by rw[qb,aD ⟨d,U⟩])).symm
 cases a
end CW
end
end Go.Proofs.YtalagblioepadaaGreatDoor
