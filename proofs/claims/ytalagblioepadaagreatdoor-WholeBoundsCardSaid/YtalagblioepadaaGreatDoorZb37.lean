/- The proof, part 37. -/
import Derived.Test.YtalagblioepadaaGreatDoorZb36
import Derived.Shelf.SlicesE.Clone
namespace Go.Proofs.YtalagblioepadaaGreatDoor
set_option linter.all false
open Proofs.Tryz List Go.RowKit Go.Shelf
set_option maxRecDepth 100000
set_option maxHeartbeats 2000000
def rl{p:ak}(h:p:=by have:=C _ e;omega):p:=h
def zL{p:ak}(h:p:=by have:=m.o _ e;omega):p:=h
def D8{p:ak}(h:p:=by have:=s.out j d;omega):p:=h
def Ll{p:ak}(h:p:=by
 go_roundg (6-(k+1))
 case rel=>exact⟨k+1,rfl,U,by go_num,by rw[ys.out];exact g'.o⟩
 omega
 ):p:=h
def LP{p:ak}(h:p:=by
 have⟨b,o,e,q⟩:=aX.at' d;cases e;exact q j u c
 ):p:=h
variable{w w':ai}
def AE:Go.Shelf.Ren:=⟨fun|41=>276|n=>n,fun|4=>4|22=>66|23=>45|n=>n,fun|n=>n⟩
def Gb:SlLaysE0.n41 prog AE:={
 mixed:=aH
 f41:=⟨f276.name,bq,func276.trans (cV some aH)⟩
 t4:=underlying4
 a4:=isAgg4
 z4:=sizeOf4
 v4:=zeroValue4
 t22:=underlying66
 a22:=isAgg66
 z22:=sizeOf66
 v22:=zeroValue66}
def F7{base:J}{v:aw}{xs:ah aC}(h:w.ownsRow base 45 9 v xs.length (bX xs))(au:xs.length<=1000):az 276 #[v] w λe w'=>∃ cL,e=.returned cL/\w'.ownsRow w.heap.size 45 9 cL xs.length (bX xs)/\Below w w w':=by
 rcases h.2 with⟨rfl,a⟩|⟨g,cap,o,rfl,a1,aR,aq,hm,ax,aN⟩
 .obtain rfl:=jn.1 a;refine(AnyE.slices_Clone_nil (P:=prog) (ρ:=AE) Gb 0 0 w).mono ?_;rintro e _ ⟨rfl,rfl⟩;exact⟨_,rfl,gB _ _ _ _,bY _ _⟩
 obtain⟨m,f,i,k,l⟩:=x1;refine(AnyE.slices_Clone (P:=prog) (ρ:=AE) Gb m _ 9 72 f i k l rfl bq sizeOf45 g 0 xs.length cap (bX xs) w (ti xs) pj U (λj u c=>?_) (rK xs)).mono ?_
 .have⟨A,n,b,aX,_⟩:=cP h;cases b;have d:0<xs.length:=by
   have:=(hf.1 c).1
   rw[ti]at this;omega
  exact LP
 rintro e w' ⟨v',rfl,h1,_,h2⟩;exact⟨v',rfl,h1,h2⟩
def T6{base bg:J}{fr:aa}{v:aw}{xs:ah aC}(h:oB w base bg fr v xs):az 328 #[bg] w λe w'=>∃ cL,e=.returned cL/\w'.ownsRow w.heap.size 45 9 cL xs.length (bX xs)/\Below w w w':=by
 have b0:=aP h.hd;have aU:=af (F7 h.row (by have:=h.n;omega));clear h
 go_in
 go_wp2_with fail;refine aU.o.mono ?_;rintro e an ⟨cL,rfl,h1,h2⟩;have H:=af (bD h1 h2);clear h1 h2 aU;go_wp2;go_ret;exact⟨cL,rfl,H.o⟩
variable{bm g bg:J}{v:J->aa}{fr:aa}{xs:ah aC}
def kr{base a:J}{e:TypeId}{cD n:J}{cL:aw}{l:ah aw}(h:w.ownsRow base e cD cL n l)(aj:a<=base):w.ownsRow a e cD cL n l:=by
 refine⟨h.1,?_⟩;rcases h.2 with h2|⟨g,cap,b,rfl,a1,r⟩
 .exact .inl h2
 exact .inr ⟨g,cap,b,rfl,b7 aj a1,r⟩
theorem WZ(h:St w bm g bg v fr xs):(Instr.loadAt 99 g).run prog w=.ok (.agg (bo v)) w:=
 gq 99 60 g 0 (bo v) (gP v bg) _ isAgg99 sizeOf99 (eh v) h.bc (λj u a=>by
  have b:j<60:=by
   have:=(j8.1 a).1
   rwa [eh]at this
  rw[gv,yK v bg j b,<-fl v b];exact a)
def rX(a b fr:aa)(v:J->aa):J->(J->aa)×ah aC
 | 0=>(v,[])
 | 1=>jh 0 a fr (v,[])
 | _=>jh 1 b fr (jh 0 a fr (v,[]))
def EX(w:ai)(v':J->aa)(xs:ah aC)(e:Ending)(w':ai):ak:=
 ∃ cL,e=aV #[.agg (bo v'),cL,I 0]/\w'.ownsRow w.heap.size 45 9 cL xs.length (bX xs)/\Below w w w'
def QS{f r:aa}(X:Mid 2 f r v)(Y9:0<=f/\f<=1000000)(s':0<=r/\r<=f)(a b:aa)(bj:a<=63)(aj:b<=63)(w:ai):az 285 #[.agg (bo v),aM #[aF a,aF b]] w (EX w (jI a b v) (mj a b v)):=by
 have m':=af (GZ v);rw[H_ X ⟨Y9.1,U⟩ ⟨s'.1,U⟩]at m';have H:=af (PH f U);have m:=cm (aW w (ae (bo v) 99)) (ae #[aF a,aF b] 101);have n:=aW (w.alloc (ae (bo v) 99)) (ae #[aF a,aF b] 101);rw[fF]at n;have ps:=lG ((w.alloc (ae (bo v) 99)).alloc (ae #[aF a,aF b] 101));simp only[fF]at ps;have y:=aW ((w.alloc (ae (bo v) 99)).alloc (ae #[aF a,aF b] 101)) (ae (bo cf) 99);simp only[fF]at y;have m:=cm m (ae (bo cf) 99);have n:=cm n (ae (bo cf) 99);have Zh:=(((a_ w).alloc (ae (bo v) 99)).alloc (ae #[aF a,aF b] 101)).alloc (ae (bo cf) 99);have Zc:=nN m;have zd:=af m;have zp:=af n;have Aw:=af y;have cE:=af X;have R:=af Y9;have T:=af s';have hd:=af X.f0;obtain⟨P,p⟩:∃ P,EX w (jI a b v) (mj a b v)=P:=⟨_,rfl⟩;rw[p];have Zo:=af p;clear m n y X p s'
 go_in
 go_wp2_with first|refine ea ps rfl rfl ?_|refine dm Zc rfl rfl rfl ?_
 generalize ((w.alloc (ae (bo v) 99)).alloc (ae #[aF a,aF b] 101)).alloc (ae (bo cf) 99)=bl at *;refine aT (m'.o _) λan Y5=>?_;have Q:=(a_ bl).fE Y5;have Zi:=Zh.trans Q;have m:=Q.heap zd.o id;have n:=Q.heap zp.o id;have y:=Q.heap Aw.o id;clear zd zp Aw Zh Q Y5 ps Zc;have bu:an.cell? (ad w 0 ab)=some (I f):=by
  rw[<-hd.o];exact bb m (fl v U)
 have O:=aP n;have hne:(f == 1073741824)=false:=by rw[er];omega
 have kd:decide (63<b)=false:=cZ U;go_wp2_with fail;refine aT (H.o _) λaB a'=>?_;have L:Keeps aG an aB:=by rw[<-a'];exact(Keeps.refl _ an).alloc _
 have M:aB.heap[an.heap.size]?=some (ae #[I f,ao none 0 0] 476 (0,0)):=by rw[<-a'];exact aW an _
 have ZF:aB.heap.size=an.heap.size+1:=by rw[<-a'];simp
 have ZO:=bR y;have Zd:=nN (L.heap m id);have Y7:=Vs v an.heap.size
 have Y4:St (aB.alloc (ae (gP v an.heap.size) 458)) an.heap.size aB.heap.size an.heap.size v f []:=
  ⟨aW aB _,⟨ao none 0 0,⟨cm M _,gB _ _ _ _,by simp[Value.ownBlock],Pairwise.nil,aI,aI⟩,by simp[Value.ownBlock]⟩,U,U,c9 _⟩
 have Zn:=af (cm (L.heap n id) (ae (gP v an.heap.size) 458));have Zs:=af (cm (L.heap y id) (ae (gP v an.heap.size) 458));have Q':=af ((Zi.trans L).alloc (ae (gP v an.heap.size) 458));have Zp:=af Y4;clear Y4 m n y bu O M ZF L Zi a' kd hne m' H;simp only;go_wp2_with first|refine dm Zd rfl rfl rfl ?_|refine su (Y7 _) rfl rfl rfl rfl ?_
 clear Zd Y7;generalize aB.alloc (ae (gP v an.heap.size) 458)=bn at *;generalize aB.heap.size=gl at *;generalize an.heap.size=c at *;go_loopg [47] 2 (λlb i wr=>∃ k:J,lb=2-k/\k<=2/\i=I k/\SgI bn c gl c f 2 0 0 (rX a b f v k).1 (rX a b f v k).2 wr)
 case atStart=>exact⟨0,rfl,U,rfl,Zp.o,Keeps.refl _ _,cE.o.lim ⟨R.o.1,by have:=R.o.2;omega⟩ ⟨T.o.1,by have:=T.o.2;have:=R.o.2;omega⟩⟩
 obtain⟨k,a1,hk,rfl,aU⟩:=hrel;have Y':=aU.cv.heap Zn.o (show ¬ c<=w.heap.size+1 by omega);have O:=aP Y';clear Y';by_cases A:k<2
 .have Zy:k=0\/k=1:=U;rcases Zy with rfl|rfl
  .have p:=af (show az 324 #[gl,I 0,aF a] wr _ from JJ aU 0 U a);clear aU;go_wp2_with fail;refine aT p.o λw' l=>?_;have D:=af l;clear l p O;go_wp2_with fail;go_roundg 1
   case rel=>exact⟨1,rfl,U,by go_num,D.o⟩
   omega
  have p:=af (show az 324 #[gl,I 1,aF b] wr _ from JJ aU 1 U b);clear aU;go_wp2_with fail;refine aT p.o λw' l=>?_;have D:=af l;clear l p O;go_wp2_with fail;go_roundg 0
  case rel=>exact⟨2,rfl,U,by go_num,D.o⟩
  omega
 obtain rfl:k=2:=U;clear O;have T':=af (Wm aU);clear aU;go_wp2_with fail;refine aT T'.o λw' l=>?_;have m3:Mid 2 f r (kc f (rX a b f v 2)).1:=H7 (ye (ye cE.out 0 U a f []) 1 U b f _) f _;have V':stepG a b f v=kV f (jj f (kc f (rX a b f v 2)) 6):=rfl;have CW:=af V';change SgI bn c gl c f 2 0 0 (kc f (rX a b f v 2)).1 (kc f (rX a b f v 2)).2 w' at l;clear V' T';generalize kc f (rX a b f v 2)=gO at *;have D:=af l;have Zu:=af m3;clear l m3;go_wp2_with fail;go_loopg [59] 6 (λlb i wr=>∃ k:J,lb=6-k/\k<=6/\i=I k/\SgI bn c gl c f (2+k) 0 0 (jj f gO k).1 (jj f gO k).2 wr)
 case atStart=>exact⟨0,rfl,U,rfl,D.o⟩
 obtain⟨k,a1,hk,rfl,aU⟩:=hrel;clear D;have mk:=Bp Zu.o f k hk;by_cases A:k<6
 .have Y:=aU.cellS k A 4 U;have u:jj f gO (k+1)=sa k f (jj f gO k):=rfl;generalize jj f gO k=ZI at *;obtain⟨g,Zk⟩:=ZI;replace mk:Mid (2+k) f r g:=mk;replace aU:SgI bn c gl c f (2+k) 0 0 g Zk wr:=aU;replace Y:wr.cell? (ad gl (24+k*6+4) ab)=some (I (g (24+k*6+4))):=Y;unfold sa at u;dsimp only at u;have Y8:(2:aa)+k+1=2+((k+1:J):aa):=U;by_cases E:g (24+k*6+4)=0
  .rw[aD E]at u;have g':=af (aU.mono (show(2:aa)+k<=2+((k+1:J):aa)by omega));have ys:=af u;clear aU u mk;rw[E]at Y;go_wp2_with fail;go_roundg (6-(k+1))
   case rel=>exact⟨k+1,rfl,U,by go_num,by rw[ys.o];exact g'.o⟩
   omega
  rw[aA E]at u;have v':=(mk.p1 k A).resolve_left (λZw=>E (Zw 4 U));have ZA:1<=g (24+k*6+5)/\g (24+k*6+5)<=40:=v'.2.2.2.2.2;have Zb:1<=g (24+k*6+4)/\g (24+k*6+4)<=2:=v'.2.2.2.2.1;have Y_:∀ o,ej o->-50<=g (o+5):=λo ZC=>by
   have:0<=g (o+5)/\g (o+5)<=3:=(mk.pl o ZC).ar
   omega
  have z:=af (Wo aU k A U Zb Y_ U);rw[Y8]at z;have ys:=af u;have ZQ:(g (24+k*6+4) == 0)=false:=by rw[er];exact E
  have ZP:decide (g (24+k*6+4)=0)=false:=cZ E;clear aU u mk v' Y8 ZA Zb Y_;go_wp2_with fail;refine aT z.o λF d=>?_;generalize ke k f (g,Zk)=t at *;have⟨Zv,ZJ,ZL⟩:=t;replace d:SgI bn c gl c f (2+((k+1:J):aa)) 0 0 ZJ ZL F:=d;clear z Y;cases Zv
  .obtain⟨Z,Y3⟩:=d.row 96 (24+k*6) 6 #[ag 0,ag 0,ag 0,ag 0,I 0,I 0] (λ_=>0) sizeOf96 rfl U (λq N=>by
    rw[JN 0 0 0 0 0 0 k A q N]
    congr 2
    match q,N with
    | 0,_=>rfl
    | 1,_=>rfl
    | 2,_=>rfl
    | 3,_=>rfl
    | 4,_=>rfl
    | 5,_=>rfl) (d.lim.row _ 6 _ λq N=>by
    rw[aA U,(oQ (2+((k+1:J):aa)) 0 k A q N).1,(oQ (2+((k+1:J):aa)) 0 k A q N).2];split<;>omega)
   have g':=af Y3;clear Y3 d;go_wp2_with refine c8 Z rfl rfl rfl rfl ?_
   clear Z;generalize World.setRow _ _ _=C at *;exact Ll
  have g':=af d;clear d;go_wp2_with fail;exact Ll
 obtain rfl:k=6:=U;have H:=af (Wq aU mk.f3 (by rw[mk.f2];exact⟨T.out.1,by have:=T.out.2;have:=R.out.2;omega⟩) U);obtain⟨r',m6,ZD,ZE⟩:=H9 mk f (jj f gO 6).2;change Mid 2 f r' (kV f (jj f gO 6)).1 at m6;clear aU mk;go_wp2_with fail;refine aT H.o λF d=>?_;change SgI bn c gl c f (2+((6:J):aa)) 0 0 (kV f (jj f gO 6)).1 (kV f (jj f gO 6)).2 F at d;clear H;have Zq:=af (show jI a b v=bH (kV f (jj f gO 6)).1 0 (f+1)by unfold jI;rw[hd.out,CW.out]);have Zm:=af (show mj a b v=(kV f (jj f gO 6)).2 by unfold mj;rw[hd.out,CW.out]);generalize kV f (jj f gO 6)=iH at *;obtain⟨v6,G⟩:=iH;replace d:SgI bn c gl c f (2+((6:J):aa)) 0 0 v6 G F:=d;have Zg:v6 0=f:=m6.f0;have ZM:F.cell? (ad gl 0 ab)=some (I f):=by rw[<-Zg];exact d.st.cell 0 U .i64 rfl
 have g0:=d.st.free 0;have Tq:=af (d.hc 0 U .i64 rfl (f+1) (by show 0<=f+1/\f+1<=4294967295;omega));clear d m6 Zg ZD ZE;go_wp2_with fail;have V:=Tq.o;generalize F.setCell _ _=C at *;clear Tq ZM g0;generalize ZG:bH v6 0 (f+1)=s at *;clear ZG;have z:St C.drew c gl c s f G:=V.st.keep (Keeps.refl _ C).drew;have Zz:=Q'.out.trans (a_ bn);have fr:Keeps (λj=>w.heap.size<=j) w C.drew:=((Q'.out.mono λ_ _ x=>x.elim).trans (V.cv.mono λj _ Za=>U)).trans (Keeps.refl _ C).drew;have Zl:=(a_ C).drew.heap (V.cv.heap Zs.out (show ¬ c<=w.heap.size+1+1 by omega)) id;obtain⟨cL,M,_⟩:=z.vT;have Zx:=af (T6 M);have ZH:∀ W,(∃ x:bp (λW=>St W c gl c s f G),W=x.to)->(Instr.loadAt 99 gl).run prog W=.ok (.agg (bo s)) W:=by
  rintro W ⟨x,rfl⟩;exact WZ x.held
 have Ze:∀ W,St W c gl c s f G->∀ W',Keeps (λj=>j=w.heap.size+1+1) W W'->St W' c gl c s f G:=λW h W' hk=>h.keeps hk a7;have Zt:=af Ze;clear V M Zz Ze;refine cB 9 ?_;refine cC (λW=>St W c gl c s f G) (.range 9) 0 9 ?_;refine pM (z) (.range 5) 4 λhne=>?_
 repeat (first|(refine j7 ZH rfl rfl rfl ?_;simp only[Act.put,c_])|go_big_quiet_step (fail))
 refine wpQuiet_nil ?_;clear hne;refine dC 5 λK Y2=>?_;go_simp;refine Zx.out.mono ?_;rintro e ZK ⟨Zj,rfl,vl,Y6⟩;have gf:=Keeps.bE (S:=aG) Y6 a7;have TS:=z.keep gf;refine Y2 _ _ (TS) ?_;clear Y2 K;obtain⟨Z,ZB,sd⟩:=dO ZK 99 60 (w.heap.size+1+1) (bo s) _ sizeOf99 (eh _) (eh _) (gf.heap Zl id) (ff.2 (nO s));have l':=Zt.out _ TS _ sd;have hfin:=(((fr.trans (gf.mono λ_ _ x=>x.elim)).trans (sd.mono λj _ e=>by rw[e];omega)).below (B:=w.heap.size) bA a7);have Zf:=kr (b3 vl sd (λj Za e=>by
  have h1:=(vl.lt j Za).1;have h2:=fr.size;have ZN:=bR Zl;omega)) (show w.heap.size<=C.drew.heap.size from fr.size)
 have Zr:=b8 Zf hfin;clear hfin Zf vl Y6 gf fr;refine qL 6 l' (na rfl rfl rfl Z) ?_;simp only[Act.put];refine gZ 7 l' ?_;refine hX 8 l' ?_;go_wp2;rw[<-Zo.out,Zq.out,Zm.out];refine dn (v:=aV #[.agg (bo s),Zj,I 0]) ZB ?_;exact⟨Zj,rfl,Zr.o⟩
variable{b:fG}{x:ck}
def dy(x:ck)(n j:J):aa:=n3 (x.f j).K n (x.f j).last
structure qk(w:ai)(b:fG)(x:ck)(v:J->aa)(lH iH:J)(p q:aa)(wr:ai):ak where
 co:IsCore wr b x
 bg:wr.heap[w.heap.size]?=some (ae #[I 0,ao none 0 0] 271 (0,0))
 st:wr.heap[iH]?=some (ae (bo v) 99 (0,0))
 b6:wr.heap[lH]?=some (ae #[aF p,aF q] 101 (0,0))
 cv:Keeps b.S w wr
 qF:w.heap.size<iH
 vH:w.heap.size<lH
 ne:iH≠lH
theorem qk.n5{v:J->aa}{lH iH:J}{p q:aa}{wr aB:ai}{dY:ck}(a:∀ j,b.S j->j<w.heap.size)(h:qk w b x v lH iH p q wr)(c:IsCore aB b dY)(hk:Keeps b.S wr aB):qk w b dY v lH iH p q aB:=
 ⟨c,hk.heap h.bg (λe=>by have:=a _ e;omega),hk.heap h.st (λe=>by have:=a _ e;have:=h.qF;omega),hk.heap h.b6 (λe=>by have:=a _ e;have:=h.vH;omega),h.cv.trans hk,h.qF,h.vH,h.ne⟩
def qk.JA{v:J->aa}{lH iH:J}{p q lx a u:aa}{wr:ai}(d:∀ j,b.S j->j<w.heap.size)(h:qk w b x v lH iH p q wr)(k:J)(hk:(#[aF p,aF q]:a6 aw).setIfInBounds k (aF u)=#[aF lx,aF a]):qk w b x v lH iH lx a (wr.setCell (ad lH k ab) (aF u)):=by
 have ax:=(Keeps.refl (λj=>j=lH) wr).setCell (p:=ad lH k ab) rfl (aF u);have f:=h.vH;refine⟨h.co.keeps ax (λj c e=>by have:=d _ c;omega),ax.heap h.bg U,ax.heap h.st (by have:=h.ne;omega),?_,cK h.cv ax a7,h.qF,h.vH,h.ne⟩;rw[bW h.b6,hk]
def yo(x:ck)(n:J)(v:J->aa):ck:={j6 x n 2 with L:=eY x.L (n+1) v}
def va(w:ai)(b:fG)(dY:ck)(n:J)(xs:ah aC)(e:Ending)(w':ai):ak:=
 (∃ A cap,e=aV #[aM #[I (n:aa),ao A xs.length cap],I 0]/\w'.ownsRow (w.heap.size+1) 45 9 (ao A xs.length cap) xs.length (bX xs))/\IsCore w' b dY/\Keeps b.S w w'
def FI(h:IsCore w b x)(n:J){r:aa}{v:J->aa}(Za:gL x.L (n:aa)=some v)(Zb:Mid 2 n r v)(Zl:0<=r/\r<=n)(au:n<=500000)(aX:∀ j,j<2->dy x n j<=63)(Zf:∀ j,j<2->(x.f j).first<=n)(Zg:e8 x.eT 81 ((n+1:J):aa)):az 218 #[b.c,I (n:aa)] w (va w b (yo x n (jI (dy x n 0) (dy x n 1) v)) n (mj (dy x n 0) (dy x n 1) v)):=by
 have t:∀ j,b.S j->j<w.heap.size:=λj d=>h.lt d;have r':=(a_ w).alloc (ae #[I 0,ao none 0 0] 271);have Y2:=aW w (ae #[I 0,ao none 0 0] 271);have Zv:(w.alloc (ae #[I 0,ao none 0 0] 271)).heap.size=w.heap.size+1:=aI;have g':=h.keep r';have X:=af (Jk g'.st (n:aa) U);rw[Za]at X;simp only[hK,pa]at X;have Zp:=g'.dS;have Zz:=xB;have ZA:=xC;have Zd:=af (QS Zb U Zl (dy x n 0) (dy x n 1) (aX 0 U) (aX 1 U));have s':=af g';have s:=af t;have Y_:=af Zf;have Zx:IntKind.i64.wrap ((n:aa)+1)=((n+1:J):aa):=by rw[show((n+1:J):aa)=(n:aa)+1 by omega];exact et _ U
 generalize Zw:jI (dy x n 0) (dy x n 1) v=E at *;generalize Zy:mj (dy x n 0) (dy x n 1) v=xs at *;obtain⟨PP,l'⟩:∃ PP,va w b (yo x n E) n xs=PP:=⟨_,rfl⟩;rw[l'];have Y9:=af l';clear l';have Q':dy x n 0=n3 (x.f 0).K n (x.f 0).last:=rfl;have St:dy x n 1=n3 (x.f 1).K n (x.f 1).last:=rfl;generalize dy x n 0=p at *;generalize dy x n 1=q at *;have v':=af Q';have w':=af St;clear Q' St
 go_in
 go_wp2_with fail;generalize w.alloc (ae #[I 0,ao none 0 0] 271)=bl at *;refine aT X.o λan O=>?_;have N:=lG an;have z:=aW an (ae (bo cf) 99);have⟨Q,_,Tq⟩:=dO (an.alloc (ae (bo cf) 99)) 99 60 an.heap.size (bo v) _ sizeOf99 (eh _) (eh _) z (ff.2 (nO v));have al:=fe _ an.heap.size _ (bo v) 99 z;have Zs:=O.size;have a':=((Keeps.refl _ an).alloc _).trans Tq;have Y3:=a'.heap (O.heap Y2 id) U;have H:=cK (r'.trans O) a' a7;have h2:=(s'.o.keep O).keeps a' (λj d e=>by have:=s.o j d;omega)
 have ys:qk w b (j6 x n 0) v ((an.alloc (ae (bo cf) 99)).setRow an.heap.size (bo v)).heap.size an.heap.size 0 0 (((an.alloc (ae (bo cf) 99)).setRow an.heap.size (bo v)).alloc (ae #[aF 0,aF 0] 101)):=
  ⟨by rw[X0];exact h2.keep ((Keeps.refl _ _).alloc _),cm Y3 _,cm al _,aW _ _,kQ (H.alloc _),U,by have:=H.size;have:=bR al;omega,by have:=bR al;omega⟩
 have z4:=h2.la (k:=0) U;have z5:=h2.la (k:=1) U;have Ze:=bR h2.head;have vl:=af ys;clear ys h2 H Y3 a' al Tq z Y2 r' s' X Zp O;generalize (an.alloc (ae (bo cf) 99)).setRow an.heap.size (bo v)=aB at *;go_wp2_with first|refine ea N rfl rfl ?_|refine c8 Q rfl rfl rfl rfl ?_
 clear z4 z5 Ze N Q;generalize aB.heap.size=lH at *;generalize aB.alloc (ae #[aF 0,aF 0] 101)=bn at *;generalize an.heap.size=iH at *;go_loopg [31] 2 (λg i wr=>∃ j:J,g=2-j/\j<=2/\i=I j/\qk w b (j6 x n j) v lH iH (if 0<j then p else 0) (if 1<j then q else 0) wr)
 case atStart=>exact⟨0,rfl,U,rfl,vl.o⟩
 obtain⟨j,a1,d,rfl,aU⟩:=hrel;clear vl;by_cases t:j<2
 .have ps:(j6 x n j).f j=x.f j:=by simp[j6]
  have m':=aU.co.fd j t;rw[ps]at m';have G:=af (P4 m' n (n:aa) rfl ⟨Y_.o j t,U⟩);have V':(x.f j).next<=1000000:=by have:=aU.co.dG j t;rwa [ps]at this
  clear ps m';have Zh:j=0\/j=1:=U;rcases Zh with rfl|rfl
  .rw[<-v'.out]at G;go_wp2_with fail;refine aT G.out ?_;rintro m ⟨M,C⟩;have hfin:=aU.co.feed t (y:=o5 (x.f 0) n) (by unfold o5;rw[<-v'.out];exact M) C V';rw[Km]at hfin;have l:=aU.n5 s.out hfin (C.mono λj _ d=>qz t d);clear M C hfin aU G;have i0:=aP l.b6;have g0:=bJ l.b6;have lb:=l.JA (u:=p) s.out 0 rfl;clear l;simp only;go_wp2_with fail;go_roundg 1
   case rel=>exact⟨1,rfl,U,by go_num,lb⟩
   omega
  rw[<-w'.out]at G;go_wp2_with fail;refine aT G.out ?_;rintro m ⟨M,C⟩;have hfin:=aU.co.feed t (y:=o5 (x.f 1) n) (by unfold o5;rw[<-w'.out];exact M) C V';rw[Km]at hfin;have l:=aU.n5 s.out hfin (C.mono λj _ d=>qz t d);clear M C hfin aU G;have i0:=aP l.b6;have g0:=bJ l.b6;have lb:=l.JA (u:=q) s.out 1 rfl;clear l;simp only;go_wp2_with fail;go_roundg 0
  case rel=>exact⟨2,rfl,U,by go_num,lb⟩
  omega
 obtain rfl:j=2:=U;have T':=nN aU.st;have i0:=aP aU.b6;go_wp2_with refine dm T' rfl rfl rfl ?_
 refine(Zd.out _).mono ?_;rintro e m ⟨cL,rfl,P,Aw⟩;obtain⟨A,cap,rfl,_,_⟩:=cP P;have Zm:=bR aU.bg;have Zt:=P.lt;have sd:=(a_ wr).fE Aw;have l:=aU.n5 s.out (aU.co.keep sd) (kQ sd);have N:=lG m;have z:=aW m (ae (bo cf) 99);obtain⟨Q,_,TS⟩:=dO (m.alloc (ae (bo cf) 99)) 99 60 m.heap.size (bo E) _ sizeOf99 (eh _) (eh _) z (ff.2 (nO E));have al:=fe _ m.heap.size _ (bo E) 99 z;have R:=((Keeps.refl _ m).alloc _).trans TS;have V:=l.co.keeps R (λj d e=>by have:=l.co.lt d;omega);have Y4:=R.heap l.bg (by have:=bR l.bg;omega);have H:=l.cv.trans ((cK (Keeps.refl b.S m) R a7));have Zj:∀ j,b.S j->j≠m.heap.size:=λj d=>by have:=l.co.lt d;omega
 have Z:=b3 P R (λj d e=>by have:=(P.lt j d).2;omega);have Zr:=s.out b.B (.inr (.inr (.inr (.inr rfl))));have Zu:w.heap.size≠m.heap.size:=by have:=bR l.bg;omega
 clear aU l Aw sd z TS R T' i0;simp only;go_wp2_with first|refine ea N rfl rfl ?_|refine c8 Q rfl rfl rfl rfl ?_
 clear N Q;generalize (m.alloc (ae (bo cf) 99)).setRow m.heap.size (bo E)=F at *;have W':=V.ok;have Y':=Zj b.B (.inr (.inr (.inr (.inr rfl))));have Zq:=s.out b.B (.inr (.inr (.inr (.inr rfl))));have Zn:=j0 (S:=λj=>j=b.B) (w:=F.drew) V.dS W'.Ad;have Y8:∀ W,(∃ x:gU (λj=>j=b.B) F.drew,W=x.to)->(Instr.loadAt 99 m.heap.size).run prog W=.ok (.agg (bo E)) W:=by
  rintro W ⟨x,rfl⟩;exact nN (x.keeps.heap (a:=F.drew) al (λe=>Y' e.symm))
 have hd:=V.keep (Keeps.refl _ F).drew;have Zc:=af (Jl hd.st (n+1) ((n+1:J):aa) rfl Zg E);refine cB 9 ?_;refine oS (λj=>j=b.B) (.range 7) [7,8] 0 ?_
 repeat (first|(refine j7 Y8 rfl rfl rfl ?_;simp only[Act.put,c_])|go_big_quiet_step (fail))
 refine wpQuiet_nil ?_;refine f_ λK zd=>?_;go_simp;refine aT Zc.o ?_;rintro Zo ⟨zp,D⟩;refine zd _ _ (cX (D)) ?_;clear zd K;refine nM (cX (D)) ?_;refine ih ?_;have hfin:=hd.um zp (D.mono λ_ _ e=>.inr e);have Y:=D.heap (a:=F.drew) Y4 U;have Y7:=(H.trans ((a_ F).drew.mono λ_ _ x=>x.elim)).trans (D.mono (T:=b.S) λ_ _ e=>.inr (.inr (.inr (.inr e))));have g0:=bJ Y;have bu:=aP Y;have Zk:=kb Y (I (n:aa)) (ao A xs.length cap);have fr:=((Keeps.refl (λj=>j=w) Zo).setCell (p:=ad w 0 ab) rfl (I (n:aa))).setCell (p:=ad w 1 ab) rfl (ao A xs.length cap);have CW:=hfin.keeps fr (λj d e=>D8);have Y6:=cK Y7 fr a7;have Y5:=kr (b3 (b3 (b3 Z (a_ F).drew (λ_ _=>id)) D (λj d e=>by have:=(Z.lt j d).1;omega)) fr (λj d e=>by have:=(Z.lt j d).1;omega)) (show w.heap.size+1<=wr.heap.size from Zm);have gf:=b8 Y5 (bD CW Y6);clear hfin CW zp D hd V Zn Y8 Y4 Y Y7 H fr W' Z Y5 P Y6;go_wp2;have Zi:=kK Zk;rw[<-Y9.out];refine dn (v:=aV #[aM #[I (n:aa),ao A xs.length cap],I 0]) Zi ?_;exact⟨⟨A,cap,rfl,gf.o.1⟩,gf.o.2.1,gf.o.2.2⟩
def J2(x:ck)(v:J->aa):ck:={yo x x.now v with now:=x.now+1}
def OT(h:IsCore w b x){r:aa}{v:J->aa}(v':fQ x=none)(ps:jB x=false)(Q':x.now<(x.f x.aJ).next)(l':gL x.L (x.now:aa)=some v)(Q:Mid 2 x.now r v)(ys:0<=r/\r<=x.now)(au:x.now<=500000)(aX:∀ j,j<2->dy x x.now j<=63)(m':∀ j,j<2->(x.f j).first<=x.now)(r':e8 x.eT 81 ((x.now+1:J):aa)):az 146 #[b.c] w (va w b (J2 x (jI (dy x x.now 0) (dy x x.now 1) v)) x.now (mj (dy x x.now 0) (dy x x.now 1) v)):=by
 obtain⟨O,V⟩:∃ O,va w b (J2 x (jI (dy x x.now 0) (dy x x.now 1) v)) x.now (mj (dy x x.now 0) (dy x x.now 1) v)=O:=⟨_,rfl⟩;rw[V];have s':∀ j,b.S j->j<w.heap.size:=λj d=>h.lt d;have X:=af (λ(W:ai) (hk:Keeps aG w W)=>vt ((h.keep hk).fd (1-x.aJ) U));have M:=v';unfold fQ fq at M;rw[M]at X;have E:=(a_ w).alloc (ae #[I 0,ao none 0 0] 271);have Y:=aW w (ae #[I 0,ao none 0 0] 271);have s:=af s'
 go_in
 go_wp2_with fail;generalize w.alloc (ae #[I 0,ao none 0 0] 271)=bl at *;refine aT (((λ(W:ai) (hk:Keeps aG w W)=>rC (h.keep hk))) _ E) ?_;rintro an ⟨T',D⟩;have F:=E.trans (mG D);have Z:=(mG D).heap Y id;clear D Y E;go_wp2_with fail;refine aT (X.out _ F) λaB B=>?_;have G:=F.trans B;have a':=B.heap Z id;have h2:=h.keep G;clear B Z F;simp only[o',ou];have i:=af (λn=>xt (h2.drew n));rw[ps]at i;have y:=af (λn=>vk (h2.drew n));have z:=af (λn=>qy ((h2.drew n).fd x.aJ h.aJ));have c6:=h2.c6;go_wp2_with fail;go_quiet (first|(go_at_call 216;first|exact Calls.quiet_of (i.o _)|exact iF (i.o _))|(go_at_call 56;first|exact Calls.quiet_of (y.o _)|exact iF (y.o _))|(go_at_call 49;first|exact Calls.quiet_of (mP (z.o _))|exact iF (mP (z.o _))));have t:=h2.drew nq;have g':=G.drewN nq;have C:=((a_ aB).drewN nq).heap a' id;generalize aB.drewN nq=bn at *;clear h2 G a' c6 i y z;have c6:=t.c6;have R:=af (FI t x.now l' Q ys au aX m' r');have vl:=bR C;clear t;go_wp2_with fail;refine R.o.mono ?_;rintro e K ⟨⟨A,cap,rfl,l⟩,a,H⟩;have N:=V;have lb:=af N;clear N;generalize zp:mj (dy x x.now 0) (dy x x.now 1) v=xs at *;generalize zd:jI (dy x x.now 0) (dy x x.now 1) v=V' at *;clear zp zd Q;have g:=H.heap C (λe=>by have:=s.out _ e;omega);clear R C c6;have c6:K.cell? (ad b.c 7 ab)=some (I (x.now:aa)):=a.c6;have g7:=bJ a.head;have Aw:=bR a.head;have TS:IntKind.i64.wrap ((x.now:aa)+1)=(x.now:aa)+1:=et _ U;have g0:=bJ g;have bu:=aP g;have St:=bR g;have u:=a.Wf (x.now+1) U;rw[show((x.now+1:J):aa)=(x.now:aa)+1 by omega]at u;have k:=(Keeps.refl (λj=>j=b.c) K).setCell (p:=ad b.c 7 ab) rfl (I ((x.now:aa)+1));have CW:=s.out b.c (.inl rfl);have fr:=k.heap g U;have w':=cm (kb fr (I (x.now:aa)) (ao A xs.length cap)) (ae #[I (x.now:aa),ao A xs.length cap] 271);have m:=(((Keeps.refl (λj=>j=w) (K.setCell (ad b.c 7 ab) (I ((x.now:aa)+1)))).setCell (p:=ad w 0 ab) rfl (I (x.now:aa))).setCell (p:=ad w 1 ab) rfl (ao A xs.length cap)).alloc (ae #[I (x.now:aa),ao A xs.length cap] 271);have P:=u.keeps m (λj d e=>D8);have hd:=cK ((g'.mono (T:=b.S) λ_ _ x=>x.elim).trans (H.trans (k.mono (T:=b.S) λ_ _ e=>.inl e))) m a7;have Tq:=vl;have gf:=kr (b3 (b3 l k (λj d e=>by have:=(l.lt j d).1;omega)) m (λj d e=>by have:=(l.lt j d).1;omega)) (show w.heap.size+1<=bn.heap.size+1 by omega);have q:=b8 gf (bD P hd);clear a u P k fr m H g' g l gf hd;simp only;go_wp2;have sd:=kK w';rw[<-lb.o];refine dn (v:=aV #[aM #[I (x.now:aa),ao A xs.length cap],I 0]) sd ?_;exact⟨⟨A,cap,rfl,q.o.1⟩,q.o.2.1,q.o.2.2⟩
def OU(h:IsCore w b x)(z:fQ x=none)(u:jB x=true):az 146 #[b.c] w λe w'=>e=aV #[aM #[I 0,ao none 0 0],I 9]/\Keeps aG w w':=by
 have m:=af (λ(W:ai) (hk:Keeps aG w W)=>vt ((h.keep hk).fd (1-x.aJ) U));have i:=z;unfold fQ fq at i;rw[i]at m;have g:=(a_ w).alloc (ae #[I 0,ao none 0 0] 271);have r:=aW w (ae #[I 0,ao none 0 0] 271)
 go_in
 go_wp2_with fail;generalize w.alloc (ae #[I 0,ao none 0 0] 271)=bl at *;refine aT (((λ(W:ai) (hk:Keeps aG w W)=>rC (h.keep hk))) _ g) ?_;rintro an ⟨E,f⟩;have s:=g.trans (mG f);have A:=(mG f).heap r id;clear f r g;go_wp2_with fail;refine aT (m.out _ s) λaB q=>?_;have t:=s.trans q;have h2:=h.keep t;simp only[o',ou];have a:=af (λn=>xt (h2.drew n));rw[u]at a;have k:=af (λn=>vk (h2.drew n));have l:=af (λn=>qy ((h2.drew n).fd x.aJ h.aJ));go_wp2_with fail;go_quiet (first|(go_at_call 216;first|exact Calls.quiet_of (a.o _)|exact iF (a.o _))|(go_at_call 56;first|exact Calls.quiet_of (k.o _)|exact iF (k.o _))|(go_at_call 49;first|exact Calls.quiet_of (mP (l.o _))|exact iF (mP (l.o _))));have B:=t.drewN nq;have d:=((a_ aB).drewN nq).heap (q.heap A id) id;generalize aB.drewN nq=bn at *;have g0:=bJ d;have bu:=aP d;have D:=((Keeps.refl (λj=>j=w) bn).setCell (p:=ad w 0 ab) rfl (I 0)).setCell (p:=ad w 1 ab) rfl (ao none 0 0);have C:=cK B D a7;go_wp2;have y:=kK (kb d (I 0) (ao none 0 0));refine dn (v:=aV #[aM #[I 0,ao none 0 0],I 9]) y ?_;exact⟨rfl,C⟩
def OQ(h:IsCore w b x)(v:aa)(k:jB x=true):az 144 #[b.c,aF v] w λe w'=>e=aV #[I 0,I 9]/\Keeps aG w w':=by
 have g:=af (λ(W:ai) (hk:Keeps aG w W)=>qy ((h.keep hk).fd x.aJ h.aJ));have d:=af (λ(W:ai) (hk:Keeps aG w W)=>xt (h.keep hk));rw[k]at d;generalize (x.f x.aJ).next=dG at *
 go_in
 go_wp2_with fail;refine aT (vk h) ?_;rintro an ⟨m,i⟩;have a:=mG i;clear i;go_wp2_with fail;refine br (g.out _ a) ?_;go_wp2_with fail;refine aT (d.out _ a) ?_;rintro aB ⟨n,j⟩;have l:=a.trans (mG j);clear j a g d;go_wp2;go_ret2;exact⟨rfl,l⟩
section
attribute [local go_sem] Oper.semAt_some
variable{w w':ai}{b:fG}{x:ck}
structure fi where
 n:J
 A:b4 Addr
 cap:J
 xs:ah aC
def fi.cL(p:fi):aw:=ao p.A p.xs.length p.cap
def fi.key(p:fi):J×ah aC:=(p.n,p.xs)
def gQ(x:ck)(n:J):J->aa:=(gL x.L (n:aa)).getD cf
def iX(x:ck)(n:J):ck:=yo x n (jI (dy x n 0) (dy x n 1) (gQ x n))
def hY(x:ck)(n:J):ah aC:=mj (dy x n 0) (dy x n 1) (gQ x n)
def replay(x:ck)(g:J):J->ck
 | 0=>x
 | k+1=>iX (replay x g k) (g+k)
def me(x:ck)(g k:J):ah (J×ah aC):=(range k).map λj=>(g+j,hY (replay x g j) (g+j))
def TZ(x:ck)(g k:J):me x g (k+1)=me x g k++[(g+k,hY (replay x g k) (g+k))]:=by
 unfold me;rw[q',jO];rfl
structure Can(x:ck)(n:J):ak where
 L:gL x.L (n:aa)=some (gQ x n)
 st:∃ r,Mid 2 n r (gQ x n)/\0<=r/\r<=n
 top:n<=500000
 b6:∀ j,j<2->dy x n j<=63
 Gk:∀ j,j<2->(x.f j).first<=n
 um:e8 x.eT 81 ((n+1:J):aa)
def OY(h:IsCore w b x){n:J}(aq:Can x n):az 218 #[b.c,I (n:aa)] w (va w b (iX x n) n (hY x n)):=by
 have⟨r,a,d⟩:=aq.st;exact FI h n aq.L a d aq.top aq.b6 aq.Gk aq.um
theorem I2(x:ck)(g:J):∀ k,(replay x g k).now=x.now
 | 0=>rfl
 | k+1=>I2 x g k
def OX(a:Addr)(n:aa)(w:ai):az 209 #[.pointer (some a),I n] w λe w'=>
  e=.returned (.func (.func 272) #[] #[.pointer (some (ad (w+1) 0 ab)),w.heap.size])/\(w.alloc (ae #[.pointer (some a)] 63)).alloc (ae #[I n] 3)=w':=by
 go_in
 go_wp2;go_ret;exact⟨rfl,rfl⟩
def EK(x:ck)(g:J)(s:J)(pre:ah fi)(p:fi)(W:ai):ak:=
 g+pre.length<x.now/\p.key=(g+pre.length,hY (replay x g pre.length) (g+pre.length))/\W.ownsRow (s+1) 45 9 p.cL p.xs.length (bX p.xs)
def zS(b:fG)(x:ck)(g:J)(ps:ah fi)(W:ai):ak:=ps.map fi.key=me x g (x.now-g)/\IsCore W b (replay x g (x.now-g))
def NN(h:IsCore w b x)(g:J)(a1:g<=x.now)(gf:∀ k,g+k<x.now->Can (replay x g k) (g+k))(f a:J)(lb:w.cell? (ad f 0 ab)=some (I (g:aa)))(aq:w.cell? (ad a 0 ab)=some (.pointer (some (ad b.c 0 ab))))(E:f<w.heap.size/\a<w.heap.size)(hne:¬ b.S f/\¬ b.S a)(q:J->ak)(H:¬ q f/\¬ q a/\∀ j,b.S j->¬ q j):s8 prog 272 #[f,a] (λp:fi=>#[aM #[I (p.n:aa),p.cL],I 0]) (EK x g) (zS b x g) q b.S w:=by
 intro l Q W l' hk Q' ys Y R;subst l';have r:∀ j,b.S j->j<w.heap.size:=λj d=>h.lt d;have CW:=h.gM;have s:=af r;have zd:=hk.cell lb id;have a':=hk.cell aq id;have h1:=af (h.keep hk);refine gD.2 ?_
 go_in
 go_wp2_with fail;go_loopg [4] (x.now-g) (λm z wr=>∃ pre:ah fi,m=x.now-(g+pre.length)/\g+pre.length<=x.now/\z=I ((g+pre.length:J):aa)/\pre.map fi.key=me x g pre.length/\wr.cell? (ad a 0 ab)=some (.pointer (some (ad b.c 0 ab)))/\IsCore wr b (replay x g pre.length)/\Q pre wr/\w.heap.size+2<=wr.heap.size)
 case atStart=>exact⟨[],rfl,by simpa using a1,rfl,rfl,a',h1.o,R,U⟩
 obtain⟨pre,hm,Aw,rfl,m',g',aU,F,sd⟩:=hrel;have c6:=aU.c6;rw[I2]at c6;have C:=af m';by_cases r:g+pre.length<x.now
 .have G:=af (OY aU (gf pre.length r));obtain⟨y,u⟩:∃ y,replay x g pre.length=y:=⟨_,rfl⟩;rw[u]at G aU;have ps:replay x g (pre.length+1)=iX y (g+pre.length):=by show iX (replay x g pre.length) (g+pre.length)=_;rw[u]
  have D:=af u;have P:=af ps;generalize au:g+pre.length=n at *;have i:=af au;go_upto_region 3 with fail
  refine(ob (n:=0)).1 ?_;gi_wp2_with (fail);refine⟨trivial,rfl,gD.2 (G.o.mono ?_)⟩;rintro e aB ⟨⟨A,cap,rfl,r'⟩,h2,v⟩;have Z:=Y pre ⟨n,A,cap,hY y n⟩ wr aB F v ⟨by rw[i.out];exact r,by rw[D.out,i.out];rfl,r'⟩;obtain⟨fn,tmps,assign,body,v',X⟩:=Z;simp only[fi.cL]at v';have hd:=v.cell (p:=ad a 0 ab) g' hne.2;have s':=b7 sd v.size;gi_wp2;refine⟨rfl,X.mono ?_⟩;rintro e w' ⟨rfl,V,t⟩;have E:=E;have fr:=t.cell (p:=ad a 0 ab) hd (λe=>e.elim H.2.1 (λe=>by have e:a=w.heap.size+1:=e;omega));have T:=h2.keeps t (λj d e=>e.elim (H.2.2 j d) (λe=>D8));have vl:=b7 s' t.size;have B:=b8 V T;gi_wp2;go_wp2;have L:g+(pre++[fi.mk n A cap (hY y n)]).length=n+1:=by rw[<-i.out];simp;omega
  have M:(pre++[fi.mk n A cap (hY y n)]).length=pre.length+1:=aI;go_roundg (x.now-(n+1))
  case measure=>omega
  refine⟨pre++[fi.mk n A cap (hY y n)],by rw[L],U,by rw[L];go_num,?_,fr,?_,B.o.1,vl⟩
  .rw[M,TZ,D.out,i.out,jO,C.out];rfl
  rw[M,P.out];exact B.o.2
 have zp:¬ ((g+pre.length:J):aa)<(x.now:aa):=U;have K:pre.length=x.now-g:=U;rw[K]at aU;have N:=af (show zS b x g pre wr from⟨by rw[C.out,K],aU⟩);have O:=af F;go_wp2;go_end0;exact⟨⟨_,rfl⟩,pre,O.o,N.o⟩
end
section
attribute [local go_sem] Oper.semAt_some
variable{w w':ai}{b:fG}{x:ck}
def rowP(ps:ah fi):ah aw:=ps.flatMap λp=>[I (p.n:aa),p.cL]
def ER(w:ai)(b:fG)(x:ck)(g:J)(e:Ending)(w':ai):ak:=
 ∃ (ps:ah fi) (A:b4 Addr) (cap:J),e=aV #[ao A ps.length cap,I 0]/\w'.ownsRow w.heap.size 271 2 (ao A ps.length cap) ps.length (rowP ps)/\ps.map fi.key=me x g (x.now-g)/\
  (∀ p∈ps,w'.ownsRow w.heap.size 45 9 p.cL p.xs.length (bX p.xs))/\IsCore w' b (replay x g (x.now-g))/\Keeps b.S w w'
def tL{bP h cy m s1 s2:J}{d e:TypeId}{f v2:aw}{k l:ah aw}(h1:w.ownsRow bP d s1 f cy k)(h2:w.ownsRow h e s2 v2 m l)(i:d≠e){j:J}(b:f.ownBlock=some j):v2.ownBlock≠some j:=λc=>by
 rcases h1.2 with⟨rfl,_⟩|⟨g,cap,o,rfl,_,aR,_⟩
 .simp[Value.ownBlock]at b
 rcases h2.2 with⟨rfl,_⟩|⟨q,n,p,rfl,_,a,_⟩
 .simp[Value.ownBlock]at c
 simp only[Value.ownBlock,hi]at b c;subst b;rw[c,aR]at a;simp only[hi,wy]at a;exact i a.2.1
structure vc(w:ai)(X:J)(S:J->ak)(pre:ah fi)(W:ai):ak where
 row:∃ v,W.heap[X]?=some (ae #[v] 267 (0,0))/\W.ownsRow (X+5) 271 2 v pre.length (rowP pre)
 kW:∀ p∈pre,W.ownsRow (X+5) 45 9 p.cL p.xs.length (bX p.xs)
 eJ:W.heap[w.heap.size]?=some (ae #[ao none 0 0] 267 (0,0))
 fm:W.heap[w.heap.size+1]?=some (ae #[I 0] 36 (0,0))
 cv:Keeps S w W
 cD:X+3<=W.heap.size
def vc.keep{X:J}{S T:J->ak}{pre:ah fi}{W W':ai}(h:vc w X S pre W)(hk:Keeps T W W')(i:w.heap.size+2<=X)(al:∀ k,S k->k<w.heap.size)(a:∀ k,T k->S k\/k=X+3\/k=X+4):vc w X S pre W':=by
 have⟨v,h1,h2⟩:=h.row;have au:∀ k,w.heap.size<=k->k<X+3->¬ T k:=λk d g e=>by
  rcases a k e with e|e|e
  .have:=al k e;omega
  .omega
  omega
 have c:∀ k,X+5<=k->¬ T k:=λk d e=>by
  rcases a k e with e|e|e
  .have:=al k e;omega
  .omega
  omega
 refine⟨⟨v,hk.heap h1 (au _ U U),b3 h2 hk (λb aj=>c _ (h2.lt b aj).1)⟩,λp ar=>b3 (h.kW p ar) hk (λb aj=>c _ ((h.kW p ar).lt b aj).1),hk.heap h.eJ (au _ U U),hk.heap h.fm (au _ U U),?_,b7 h.cD hk.size⟩;exact cK h.cv hk (λk f e=>by
  rcases a k e with e|e|e
  .exact e
  .omega
  .omega)
def Fv(A:ai)(cs:a6 aw)(t:TypeId)(j:J)(u:aw)(h:cs.toList[j]?=some u):(A.alloc (ae cs t)).cell? (((ad A 0 ab):Addr).add j)=some u:=by
 rw[hN,gv];exact bb (aW _ _) h8
def RE:∃ i,prog.info? 271=some i/\i.zero=some (aM #[I 0,ao none 0 0])/\i.size=2/\i.bytes=32:=by
 have h:(prog.info? 271).map (λi=>(i.zero,i.size,i.bytes))=some (some (aM #[I 0,ao none 0 0]),2,32):=aH;cases aR:prog.info? 271 with
 | none=>rw[aR]at h;cases h
 | some i=>rw[aR]at h;simp only[pb,hi,jq]at h;exact⟨i,rfl,h.1,h.2.1,h.2.2⟩
def Vi(w:ai):(Instr.alloc 271 true (aV #[])).run prog w=.ok w.heap.size (w.alloc (ae #[I 0,ao none 0 0] 271)):=aH
def Po:271≠45:=bq
def OR(h:IsCore w b x){g:J}(hw:fQ x=some g)(a1:g<=x.now)(Zg:∀ k,g+k<x.now->Can (replay x g k) (g+k))(au:x.now<=g+1000):az 138 #[b.c] w (ER w b x g):=by
 have y:∀ j,b.S j->j<w.heap.size:=λj z=>h.lt z;have C:=af (λ(W:ai) (hk:Keeps aG w W)=>rC (h.keep hk));have zd:=af (λ(W:ai) (hk:Keeps aG w W)=>vt ((h.keep hk).fd (1-x.aJ) U));have vl:=hw;unfold fQ fq at vl;rw[vl]at zd;have sd:=((a_ w).alloc (ae #[ao none 0 0] 267)).alloc (ae #[I 0] 36);have F:=cm (aW w (ae #[ao none 0 0] 267)) (ae #[I 0] 36);have l:=aW (w.alloc (ae #[ao none 0 0] 267)) (ae #[I 0] 36);rw[fF]at l;have W':=af Zg;obtain⟨PP,ys⟩:∃ PP,ER w b x g=PP:=⟨_,rfl⟩;rw[ys];refine(gD (n:=0)).1 ?_;refine callsIn_of_wp_marks func138 rfl trivial ?_ rfl;simp only[ntmps138,gR,dr,e2,Nat.reduceAdd,Nat.reduceSub,sx,sy,sF,sA,oi,ku];gi_wp2_with (fail);generalize (w.alloc (ae #[ao none 0 0] 267)).alloc (ae #[I 0] 36)=bl at *;refine⟨trivial,rfl,gD.2 ((C.o _ sd).mono ?_)⟩;rintro e an ⟨rfl,ZI,N⟩;have Q':=sd.trans (mG N);have F:=(mG N).heap F id;have l:=(mG N).heap l id;clear N sd;gi_wp2_with (fail);refine⟨trivial,rfl,gD.2 ((zd.out _ Q').mono ?_)⟩;rintro e aB ⟨rfl,i⟩;have F:=i.heap F id;have l:=i.heap l id;simp only[hK,pa];gi_wp2_with (fail);refine⟨trivial,rfl,gD.2 ((OX _ _ _).mono ?_)⟩;rintro e bn ⟨rfl,G⟩;gi_wp2_with (fail);have r:bn.heap.size=aB.heap.size+3:=by rw[<-G];simp
 have L:w.heap.size+2<=aB.heap.size:=by have:=bR l;omega
 have r':Keeps aG aB bn:=by rw[<-G];exact(((Keeps.refl _ aB).alloc _).alloc _).alloc _
 have Zb:bn.heap[aB.heap.size]?=some (ae #[ao none 0 0] 267 (0,0)):=by rw[<-G];exact cm (cm (aW _ _) _) _
 have Y6:bn.heap[aB.heap.size+1]?=some (ae #[b.c] 63 (0,0)):=by
  have:=cm (aW (aB.alloc (ae #[ao none 0 0] 267)) (ae #[b.c] 63)) (ae #[I g] 3)
  rw[fF,G]at this;exact this
 have Y7:bn.heap[aB.heap.size+2]?=some (ae #[I g] 3 (0,0)):=by
  have:=aW ((aB.alloc (ae #[ao none 0 0] 267)).alloc (ae #[b.c] 63)) (ae #[I g] 3)
  rw[fF,fF,G]at this;exact this
 have St:=(Q'.trans i).trans r';have l:=r'.heap l id;have m:=af y;generalize ZC:aB.heap.size=X at *
 refine CJ (gf:=272) (lb:=#[.pointer (some (ad (X+1+1) 0 ab)),.pointer (some (ad (X+1) 0 ab))]) rfl (enters_of func272 aH rfl)
  (encs:=λp:fi=>#[aM #[I (p.n:aa),p.cL],I 0]) (λ_=>rfl) (EK x g) (zS b x g) (λk=>k=X\/X+4<k) b.S
  (NN (h.keep St) g a1 W'.out (X+2) (X+1) (bb Y7 rfl) (bb Y6 rfl) ⟨U,U⟩ ⟨λe=>zL,λe=>zL⟩ _ ⟨U,U,λj z e=>by have:=m.o _ z;omega⟩)
  (λps Y Z t R hk=>⟨t.1,t.2.keeps hk (λj z e=>by have:=m.o _ z;omega)⟩)
  w0 (by rw[r];exact⟨λe=>zL,λe=>zL⟩)
  (λpre W=>vc w X b.S pre W)
  ?inv ?start
  (λpre p a' W=>∃ Y,a'={tmps:=#[.pointer (some (ad b.c 0 ab)),undef,.pointer (some (ad w 0 ab)),.pointer (some (ad (w+1) 0 ab)),I g,.bool true,.pointer (some (ad X 0 ab)),.pointer (some (ad Y 0 ab)),I 0,.pointer (some (ad b.c 0 ab)),.bool false,aV #[I g,.bool true],.pointer (some (ad b.c 0 ab)),.pointer (some (ad (b.D (1-x.aJ)+4) 0 ab)),aV #[I g,.bool true],I g,.bool true,.bool true,.bool false,.pointer (some (ad b.c 0 ab)),I g,.func (.func 272) #[] #[.pointer (some (ad (X+1+1) 0 ab)),.pointer (some (ad (X+1) 0 ab))],aM #[I (p.n:aa),p.cL],I 0,undef,undef,undef,undef,undef,undef,undef,undef],defers:=[]}/\X+5<=Y/\W.heap[Y]?=some (ae #[I (p.n:aa),p.cL] 271 (0,0))/\W.ownsRow (X+5) 45 9 p.cL p.xs.length (bX p.xs)/\g+pre.length<x.now/\vc w X b.S pre W)
  ?ass ?assign ?body ?done
 case inv=>
  intro pre Y Z t R hk;exact t.keep hk L m.o (λk hk=>by rw[r]at hk;omega)
 case start=>exact⟨⟨_,Zb,gB _ _ _ _⟩,λp ar=>by simp at ar,(r'.heap F id),l,St.mono λ_ _ x=>x.elim,U⟩
 case ass=>
  rintro pre p a' A cA ⟨Y,rfl,t,fr,O,y,a⟩ R hk;exact⟨Y,rfl,t,hk.heap fr U,b3 O hk (λj z e=>by have:=(O.lt j z).1;omega),y,a.keep hk L m.out a7⟩
 case assign=>
  intro l' pre p Tq A K Zm Y' ZF Zj Zp R Za;obtain⟨y,_,Zr⟩:=Zp;have a:=Y'.keep Zj L m.out (λk hk=>.inl hk);have zp:=aW A (ae #[I 0,ao none 0 0] 271);obtain⟨Zu,_,Zl⟩:=dO (A.alloc (ae #[I 0,ao none 0 0] 271)) 271 2 A.heap.size #[I (p.n:aa),p.cL] _ sizeOf271 rfl rfl zp rfl;have Zd:=fe (A.alloc (ae #[I 0,ao none 0 0] 271)) A.heap.size _ #[I (p.n:aa),p.cL] 271 zp;have m':=cK ((a_ A).alloc (ae #[I 0,ao none 0 0] 271)) Zl a7;generalize (A.alloc (ae #[I 0,ao none 0 0] 271)).setRow A.heap.size #[I (p.n:aa),p.cL]=Zy at *;simp only[zw,zu,zv,zl,od,q9,c_];have V:=b8 Zd (bD (b3 (kr Zr (show X+5<=Tq.heap.size+1 by omega)) m' (λ_ _=>id)) (a.keep m' L m.out (λk hk=>hk.elim)));generalize p.cL=cL at *;gi_wp2_with (first|(refine yY (Vi A) rfl rfl ?_)|(refine yZ Zu rfl rfl rfl rfl ?_));exact Za _ _ ⟨A,rfl,U,V.o.1,V.o.2.1,y,V.o.2.2⟩ (m'.mono λ_ _ x=>x.elim)
 case body=>
  rintro l' pre p a' A Zm ⟨Y,rfl,t,fr,O,y,a⟩ R;obtain⟨i0,Zi,Zv,Zw,Zx⟩:=RE;obtain⟨v,B,d⟩:=a.row;have Zn:=gq (P:=prog) 271 2 Y 0 #[I (p.n:aa),p.cL] _ _ isAgg271 sizeOf271 rfl fr (λj u z=>jS);have Zq:∀ u∈[I (p.n:aa),p.cL],u.oneCell'=true:=ff.1 rfl;have Zs:rowP (pre++[p])=rowP pre++[I (p.n:aa),p.cL]:=by simp[rowP]
  have Aw:∀ q∈pre++[p],A.ownsRow (X+5) 45 9 q.cL q.xs.length (bX q.xs):=λq f=>by
   rcases ft.1 f with f|f
   .exact a.kW q f
   simp at f;subst f;exact O
  have Zt:∀ q∈pre++[p],∀ j,q.cL.ownBlock=some j->v.ownBlock≠some j:=λq f j z e=>tL d (Aw q f) Po e z;have Y2:=jl B;have Y5:=nf B;have H1:=af B;have V':=af a;have T':=af Zi;have T:=b8 Aw Zt;have Zh:=Fv A #[I (p.n:aa),p.cL] 271;have Zo:=d.alloc (ae #[I (p.n:aa),p.cL] 271);have ZE:pre.length+1<=1000:=U;have ZG:p.cL.cells=#[p.cL]:=rfl;generalize p.cL=cL at *;gi_wp2_with (first|(refine CK Zn rfl rfl rfl ?_)|(gi_at_builtin;refine wpListIn_append_own _ rfl _ _ 267 rfl (X+5) 271 i0 (aM #[I 0,ao none 0 0]) 2 32 underlying267 T'.o Zv Zw Zx rfl bq _ _ _ rfl Zo (ad A 0 ab) 1 1 [I (p.n:aa),cL] rfl rfl Zh Zq pj U bU ?_;intro v' an s hd _;have Zk:Keeps (λk=>k=X\/v.ownBlock=some k) A an:=((Keeps.refl _ A).alloc _).grown hd (λk hk=>.inl (.inr hk));obtain⟨g',s',rfl⟩:=ownsRow_succ s;have h2:=(hd.block X bU (λe=>wV)).trans (cm H1.o _);have ZA:=jl h2;have ZB:=nf h2;have Q:=af h2;clear h2 hd));have i:=Zk.setCell (p:=ad X 0 ab) (.inl rfl) (ao (some (ad g' 0 ab)) (pre.length+1) s');have H:=V'.o;have C:∀ k,(k=X\/v.ownBlock=some k)->X<=k:=λk e=>e.elim a7 (λe=>by have:=(d.lt k e).1;omega);have Zc:∀ k,(k=X\/v.ownBlock=some k)->k=X\/X+4<k:=λk e=>e.elim .inl (λe=>.inr (by have:=(d.lt k e).1;omega));refine⟨i.mono (λk _ e=>Zc k e),⟨⟨ao (some (ad g' 0 ab)) (pre.length+1) s',wW,?_⟩,λq f=>b3 (T.o.1 q f) i (λj z e=>?_),i.heap H.eJ (λe=>rl),i.heap H.fm (λe=>rl),cK H.cv i (λk hk e=>rl),b7 H.cD i.size⟩⟩
  .rw[cx,iM,Zs];exact b3 s ((Keeps.refl (λk=>k=X) an).setCell (p:=ad X 0 ab) rfl _) (λb aj h=>zF)
  rcases e with e|e
  .have:=((T.out.1 q f).lt j z).1;omega
  exact T.out.2 q f j z e
 rintro ps W a Y_ ZH Y8;obtain⟨v,B,d⟩:=a.row;have Y2:=jl B;have Y5:=nf B;have bu:=jl a.eJ;have f0:=nf a.eJ;have b0:=jl a.fm;have f1:=nf a.fm;have E:=af a;have w':=af Y_;have TS:=af Y8;obtain⟨A,cap,rfl,_,_⟩:=cP d;have CW:=((Keeps.refl (λj=>j=w.heap.size\/j=w.heap.size+1) W).setCell (p:=ad w 0 ab) (.inl rfl) (ao A ps.length cap)).setCell (p:=ad (w+1) 0 ab) (.inr rfl) (I 0);have Y9:=CW.heap TS.o U;gi_wp2_with (fail);refine⟨aI,.inl ⟨_,_,rfl,run_takeDeferred Y9,?_⟩⟩;have ZD:bn.heap.size<W.heap.size:=U;have M:Keeps (λj=>j=w.heap.size\/j=w.heap.size+1\/j=bn.heap.size) W (((W.setCell (ad w 0 ab) (ao A ps.length cap)).setCell (ad (w+1) 0 ab) (I 0)).putObj bn.heap.size (.deferred none)):=(CW.mono (λj _ e=>e.elim .inl (λe=>.inr (.inl e)))).putObj (.inr (.inr rfl)) _;have Y3:=(World.putObj_heap_other (o:=.deferred none) (show w.heap.size≠bn.heap.size by omega)).trans (eO (bW E.o.eJ 0 (ao A ps.length cap)) (p:=ad (w+1) 0 ab) (show w.heap.size≠w.heap.size+1 by omega) (I 0));have Y4:=(World.putObj_heap_other (o:=.deferred none) (show w.heap.size+1≠bn.heap.size by omega)).trans (bW (eO E.o.fm (p:=ad w 0 ab) (show w.heap.size+1≠w.heap.size by omega) (ao A ps.length cap)) 0 (I 0));have Ze:=bb (k:=0) Y3 rfl;have Zf:=bb (k:=0) Y4 rfl;generalize ((W.setCell (ad w 0 ab) (ao A ps.length cap)).setCell (ad (w+1) 0 ab) (I 0)).putObj bn.heap.size (.deferred none)=Zz at *;refine⟨aV #[ao A ps.length cap,I 0],by simp[results,results138,asAddr,loadVar,isAgg267,isAgg36,go_sem,Ze,Zf],?_⟩;rw[<-ys];refine⟨ps,A,cap,rfl,kr (b3 d M (λj z e=>by have:=(d.lt j z).1;omega)) U,w'.o.1,λp ar=>kr (b3 (E.o.kW p ar) M (λj z e=>by have:=((E.o.kW p ar).lt j z).1;omega)) U,w'.o.2.keeps M (λj z e=>by have:=m.out j z;omega),?_⟩;exact cK E.out.cv M a7
end
section
section
variable{α:Type}
def b1(g:J->α)(m:J)(v:α):J->α:=λj=>if j=m then v else g j
def i_(g:J->α)(m:J)(v:α):b1 g m v m=v:=aD rfl
def h3(g:J->α){m j:J}(v:α)(h:j≠m):b1 g m v j=g j:=aA h
def v8{g g':J->α}{f n:J}(h:∀ j,f<=j->j<n->g j=g' j):ep g f n=ep g' f n:=by
 refine map_congr_left λi av=>?_
 have:=ph.1 av
 rw[h (f+i) U U]
def r6(g:J->α){f n:J}(h:f<n):ep g f n=(f,g f) :: ep g (f+1) n:=by
 obtain⟨d,rfl⟩:∃ d,n=f+1+d:=⟨n-f-1,U⟩;rw[B8 g (show f<=f+1 by omega) d,wa g (c9 f),r7 g (c9 f)];rfl
theorem IG(g:J->α)(n m:J)(v:α)(hm:m<n):∀ d f,m=f+d->eY (ep g f n) m v=ep (b1 g m v) f n
 | 0,f,e=>by
  have e:=e;subst e;rw[r6 g hm,r6 _ hm,i_];unfold eY;rw[aD bA,oc aI,ni.2 λp ar=>by have:=(t_ ar).1;simp;omega];rw[v8 (g':=b1 g m v) λj h1 _=>(h3 g v U).symm]
 | d+1,f,e=>by
  rw[r6 g (show f<n by omega),r6 _ (show f<n by omega),h3 g v (show f≠m by omega)];unfold eY;rw[aA U,IG g n m v hm d (f+1) U]
def yp(g:J->α){f n m:J}(v:α)(h:f<=m)(au:m<=n):eY (ep g f n) m v=ep (b1 g m v) f (max n (m+1)):=by
 by_cases e:m=n
 .subst e;rw[show max m (m+1)=m+1 by omega,<-v_ (b1 g m v) h,i_,v8 λj _ h2=>(h3 g v (show j≠m by omega)).symm]
 rw[IG g n m v U (m-f) f U,show max n (m+1)=n by omega]
end
theorem KR(K:ah (J×aa))(u:J->aa)(n:J):∀ d f,n=f+d->(∀ j x,f<=j->j<n->dB K j=some x->x=u j)->i' K (ep u f n)=none
 | 0,f,e,_=>by rw[r7 u lU];rfl
 | d+1,f,e,h=>by
  rw[r6 u (show f<n by omega)];unfold i';have a:=KR K u n d (f+1) U λj x h1 h2=>h j x U h2;split
  .rename_i x b;rw[aD (h f x bA U b)];exact a
  exact a
theorem KS(K:ah (J×aa))(u:J->aa)(n g:J):∀ d f,n=f+d->i' K (ep u f n)=some g->f<=g/\g<n/\(∀ j x,f<=j->j<g->dB K j=some x->x=u j)/\∃ x,dB K g=some x/\x≠u g
 | 0,f,e,h=>by rw[r7 u lU]at h;cases h
 | d+1,f,e,h=>by
  rw[r6 u (show f<n by omega)]at h;unfold i' at h;have m:=KS K u n g d (f+1) U;split at h
  .rename_i x b;split at h
   .rename_i k;have⟨h1,h2,c,i⟩:=m h;refine⟨U,h2,λj y o l a=>?_,i⟩;by_cases e:j=f
    .subst e;rw[b]at a;cases a;exact k
    exact c j y U l a
   rename_i k;cases h;exact⟨c9 _,U,λj _ h1 h2=>U,x,b,k⟩
  rename_i b;obtain⟨h1,h2,c,i⟩:=m h;refine⟨U,h2,λj y o l a=>?_,i⟩;by_cases e:j=f
  .subst e;rw[b]at a;cases a
  exact c j y U l a
theorem KQ(K:ah (J×aa))(u:J->aa)(n:J):∀ d f,n=f+d->i' K (ep u f n)=none->∀ j x,f<=j->j<n->dB K j=some x->x=u j
 | 0,f,e,_=>λj _ h1 h2=>by omega
 | d+1,f,e,h=>by
  rw[r6 u (show f<n by omega)]at h;unfold i' at h;have c:=KQ K u n d (f+1) U;intro j y h1 h2 a;split at h
  .rename_i x b;split at h
   .rename_i g;by_cases e:j=f
    .subst e;rw[b]at a;cases a;exact g
    exact c h j y U h2 a
   cases h
  rename_i b;by_cases e:j=f
  .subst e;rw[b]at a;cases a
  exact c h j y U h2 a
def pJ(ba:J->aa)(n:J):aa:=if n=0 then 0 else ba (n-1)
def jC(ba:J->aa)(n j:J):aa:=if j<n then ba j else pJ ba n
def nF(F now n:J)(ba us:J->aa):Fd:=⟨F,n,pJ ba n,ep ba F n,ep us F now⟩
structure CW(x:ck)(F:J)(ba us:J->J->aa)(S:J->J->aa):ak where
 eT:x.eT=F
 L:x.L=ep S F (x.now+1)
 f:∀ k,k<2->x.f k=nF F x.now (x.f k).next (ba k) (us k)
namespace CW
variable{x:ck}{F:J}{ba us:J->J->aa}{S:J->J->aa}
def congr{c cN:J->J->aa}{d:J->J->aa}(h:CW x F ba us S)(h1:∀ k,k<2->∀ j,j<(x.f k).next->ba k j=c k j)(h2:∀ k,k<2->∀ j,F<=j->j<x.now->us k j=cN k j)(g:∀ j,F<=j->j<=x.now->S j=d j):CW x F c cN d:=by
 refine⟨h.eT,by rw[h.L];exact v8 λj a b=>g j a U,λk hk=>?_⟩;refine(h.f k hk).trans ?_;have e:pJ (ba k) (x.f k).next=pJ (c k) (x.f k).next:=by
  unfold pJ;split
  .rfl
  exact h1 k hk _ U
 unfold nF;rw[v8 λj _ b=>h1 k hk j b,v8 λj a b=>h2 k hk j a b,e]
theorem first(h:CW x F ba us S){k:J}(hk:k<2):(x.f k).first=F:=by rw[h.f k hk];rfl
theorem K(h:CW x F ba us S){k:J}(hk:k<2):(x.f k).K=ep (ba k) F (x.f k).next:=by rw[h.f k hk];rfl
theorem cR(h:CW x F ba us S){k:J}(hk:k<2):(x.f k).cR=ep (us k) F x.now:=by rw[h.f k hk];rfl
theorem last(h:CW x F ba us S){k:J}(hk:k<2):(x.f k).last=pJ (ba k) (x.f k).next:=by rw[h.f k hk];rfl
theorem dy(h:CW x F ba us S){k:J}(hk:k<2){n:J}(au:F<=n):dy x n k=jC (ba k) (x.f k).next n:=by
 unfold Go.Proofs.YtalagblioepadaaGreatDoor.dy n3 jC;rw[h.K hk,h.last hk,pZ];by_cases e:n<(x.f k).next
 .rw[aD ⟨au,e⟩,aD e];rfl
 rw[aA (λc=>e c.2),aA e];rfl
def st(h:CW x F ba us S){n:J}(au:F<=n)(h2:n<=x.now):gL x.L (n:aa)=some (S n):=by rw[h.L,Jw,aD ⟨au,U⟩]
theorem gQ(h:CW x F ba us S){n:J}(au:F<=n)(h2:n<=x.now):gQ x n=S n:=by
 unfold Go.Proofs.YtalagblioepadaaGreatDoor.gQ;rw[h.st au h2];rfl
def put(h:CW x F ba us S){k:J}(hk:k<2)(a:F<=(x.f k).next)(v:aa):CW (gn x k v) F (λi=>if i=k then b1 (ba k) (x.f k).next v else ba i) us S:=by
 refine⟨h.eT,h.L,λi av=>?_⟩;unfold gn;by_cases e:i=k
 .subst e;rw[show({x with f:=eK x.f i {x.f i with next:=(x.f i).next+1,last:=v,K:=eY (x.f i).K (x.f i).next v}}:ck).f i=eK x.f i {x.f i with next:=(x.f i).next+1,last:=v,K:=eY (x.f i).K (x.f i).next v} i from rfl,qU];simp only[if_true];unfold nF pJ;rw[aA U,Dt,i_,h.K hk,yp _ v a bA,show max (x.f i).next ((x.f i).next+1)=(x.f i).next+1 by omega,h.first hk,h.cR hk]
 rw[show({x with f:=eK x.f k {x.f k with next:=(x.f k).next+1,last:=v,K:=eY (x.f k).K (x.f k).next v}}:ck).f i=eK x.f k {x.f k with next:=(x.f k).next+1,last:=v,K:=eY (x.f k).K (x.f k).next v} i from rfl,qT _ _ e];simp only[aA e];exact h.f i av
def used(h:CW x F ba us S){n:J}(au:F<=n)(h2:n<=x.now)(a:n<F+64){k:J}(hk:k<2):o5 (x.f k) n=nF F (max x.now (n+1)) (x.f k).next (ba k) (b1 (us k) n (jC (ba k) (x.f k).next n)):=by
 have e:=h.dy hk au;unfold Go.Proofs.YtalagblioepadaaGreatDoor.dy at e;unfold o5 sh;rw[e,h.first hk,aD a,h.cR hk,yp _ _ au h2];unfold nF;rw[<-h.K hk,<-h.last hk,<-h.first hk]
def UR(h:CW x F ba us S){n:J}(au:F<=n)(h2:n<x.now)(a:n<F+64):CW (iX x n) F ba (λk=>b1 (us k) n (jC (ba k) (x.f k).next n)) (b1 S (n+1) (jI (jC (ba 0) (x.f 0).next n) (jC (ba 1) (x.f 1).next n) (S n))):=by
 unfold iX;rw[(h.gQ au U),h.dy U au,h.dy (k:=1) U au];refine⟨h.eT,?_,λk hk=>?_⟩
 .show eY x.L (n+1) _=ep _ F (x.now+1);rw[h.L,yp _ _ U U,show max (x.now+1) (n+1+1)=x.now+1 by omega]
 show(j6 x n 2).f k=nF F x.now ((j6 x n 2).f k).next _ _;unfold j6;simp only[aD hk];rw[h.used au U a hk,show max x.now (n+1)=x.now by omega];rfl
def step(h:CW x F ba us S)(au:F<=x.now)(a:x.now<F+64):CW {iX x x.now with now:=x.now+1} F ba (λk=>b1 (us k) x.now (jC (ba k) (x.f k).next x.now)) (b1 S (x.now+1) (jI (jC (ba 0) (x.f 0).next x.now) (jC (ba 1) (x.f 1).next x.now) (S x.now))):=by
 unfold iX;rw[(h.gQ au bA),h.dy U au,h.dy (k:=1) U au];refine⟨h.eT,?_,λk hk=>?_⟩
 .show eY x.L (x.now+1) _=ep _ F (x.now+1+1);rw[h.L,yp _ _ U bA,show max (x.now+1) (x.now+1+1)=x.now+1+1 by omega]
 show(j6 x x.now 2).f k=nF F (x.now+1) ((j6 x x.now 2).f k).next _ _;unfold j6;simp only[aD hk];rw[h.used au bA a hk,show max x.now (x.now+1)=x.now+1 by omega];rfl
def cut(h:CW x F ba us S){n:J}(au:F<=n)(h2:n<=x.now)(a:∀ k,k<2->n<=(x.f k).next):CW (rF x n) n ba us S:=by
 refine⟨rfl,?_,λk hk=>?_⟩
 .show(x.L.filter λp=>!decide (p.1<n))=ep S n (x.now+1);rw[h.L,tZ _ au U]
 show(if k<2 then oJ (x.f k) n else x.f k)=nF n x.now (if k<2 then oJ (x.f k) n else x.f k).next (ba k) (us k);rw[aD hk];unfold oJ nF l0;rw[h.K hk,tZ _ au (a k hk),h.cR hk,tZ _ au h2,h.last hk]
def CT(h:CW x F ba us S)(hm:x.aJ<2)(b:F<=x.now)(ax:∀ j,F<=j->j<x.now->j<(fq x).next->us (1-x.aJ) j=ba (1-x.aJ) j):fQ x=none:=by
 unfold fQ;have e:=ax;unfold fq at e⊢;rw[h.K U,h.cR U];refine KR _ _ _ (x.now-F) F U λj y h1 h2 a=>?_;rw[pZ]at a;split at a
 .rename_i aq;cases a;exact(e j h1 h2 aq.2).symm
 cases a
def CS(h:CW x F ba us S)(hm:x.aJ<2)(k:F<=x.now){g:J}(b:fQ x=some g):F<=g/\g<x.now/\g<(fq x).next/\(∀ j,F<=j->j<g->us (1-x.aJ) j=ba (1-x.aJ) j)/\us (1-x.aJ) g≠ba (1-x.aJ) g:=by
 unfold fQ fq at *;rw[h.K U,h.cR U]at b;have⟨h1,h2,e,y,a,f⟩:=KS _ _ _ _ (x.now-F) F U b;rw[pZ]at a;split at a
 .rename_i aq;cases a;refine⟨h1,h2,aq.2,λj d i=>?_,λc=>f c.symm⟩;exact(e j _ d i (by rw[pZ,aD ⟨d,U⟩])).symm
 cases a
end CW
end
end Go.Proofs.YtalagblioepadaaGreatDoor
