/- The proof, part 37. -/
import Derived.Test.YtalagblioepadaaGreatDoorZd36
import Derived.Shelf.SlicesE.Clone
namespace Go.Proofs.YtalagblioepadaaGreatDoor
set_option linter.all false
open Proofs.Tryz List Go.RowKit Go.Shelf
set_option maxRecDepth 100000
set_option maxHeartbeats 2000000
def r2{p:al}(h:p:=by have:=C _ e;omega):p:=h
def AD{p:al}(h:p:=by have:=m.o _ e;omega):p:=h
def E5{p:al}(h:p:=by have:=s.out j d;omega):p:=h
def Mx{p:al}(h:p:=by
 go_roundg (6-(k+1))
 case rel=>exact⟨k+1,rfl,U,by go_num,by rw[w'.out];exact gf.o⟩
 omega
 ):p:=h
def M4{p:al}(h:p:=by
 have⟨b,o,e,q⟩:=aU.at' d;cases e;exact q j u c
 ):p:=h
variable{w w':aj}
def Br:Go.Shelf.Ren:=⟨fun|41=>276|n=>n,fun|4=>4|22=>66|23=>45|n=>n,fun|n=>n⟩
def Hl:SlLaysE0.n41 prog Br:={
 mixed:=aI
 f41:=⟨f276.name,bt,func276.trans (c5 some aI)⟩
 t4:=underlying4
 a4:=isAgg4
 z4:=sizeOf4
 v4:=zeroValue4
 t22:=underlying66
 a22:=isAgg66
 z22:=sizeOf66
 v22:=zeroValue66}
def Hf{base:J}{v:ay}{xs:ah aC}(h:w.ownsRow base 45 9 v xs.length (b4 xs))(av:xs.length<=1000):aA 276 #[v] w λe w'=>∃ cQ,e=.returned cQ/\w'.ownsRow w.heap.size 45 9 cQ xs.length (b4 xs)/\Below w w w':=by
 rcases h.2 with⟨rfl,a⟩|⟨g,cap,o,rfl,aZ,aS,an,hm,aw,aK⟩
 .obtain rfl:=jP.1 a;refine(AnyE.slices_Clone_nil (P:=prog) (ρ:=Br) Hl 0 0 w).mono ?_;rintro e _ ⟨rfl,rfl⟩;exact⟨_,rfl,gx _ _ _ _,b7 _ _⟩
 obtain⟨m,f,i,k,l⟩:=yE;refine(AnyE.slices_Clone (P:=prog) (ρ:=Br) Hl m _ 9 72 f i k l rfl bt sizeOf45 g 0 xs.length cap (b4 xs) w (tN xs) pR U (λj u c=>?_) (si xs)).mono ?_
 .have⟨A,n,b,aU,_⟩:=cS h;cases b;have d:0<xs.length:=by
   have:=(hD.1 c).1
   rw[tN]at this;omega
  exact M4
 rintro e w' ⟨v',rfl,h1,_,h2⟩;exact⟨v',rfl,h1,h2⟩
def Vl{base bl:J}{fr:aa}{v:ay}{xs:ah aC}(h:o5 w base bl fr v xs):aA 328 #[bl] w λe w'=>∃ cQ,e=.returned cQ/\w'.ownsRow w.heap.size 45 9 cQ xs.length (b4 xs)/\Below w w w':=by
 have b6:=aO h.hd;have aV:=ag (Hf h.row (by have:=h.n;omega));clear h
 go_in
 go_wp2_with fail;refine aV.o.mono ?_;rintro e ao ⟨cQ,rfl,h1,h2⟩;have H:=ag (bD h1 h2);clear h1 h2 aV;go_wp2;go_ret;exact⟨cQ,rfl,H.o⟩
variable{bo g bl:J}{v:J->aa}{fr:aa}{xs:ah aC}
def kQ{base a:J}{e:TypeId}{cM n:J}{cQ:ay}{l:ah ay}(h:w.ownsRow base e cM cQ n l)(ak:a<=base):w.ownsRow a e cM cQ n l:=by
 refine⟨h.1,?_⟩;rcases h.2 with h2|⟨g,cap,b,rfl,aZ,r⟩
 .exact .inl h2
 exact .inr ⟨g,cap,b,rfl,ca ak aZ,r⟩
theorem Yl(h:St w bo g bl v fr xs):(Instr.loadAt 99 g).run prog w=.ok (.agg (br v)) w:=
 gd 99 60 g 0 (br v) (hf v bl) _ isAgg99 sizeOf99 (et v) h.bd (λj u a=>by
  have b:j<60:=by
   have:=(jv.1 a).1
   rwa [et]at this
  rw[gP,zo v bl j b,<-fD v b];exact a)
def sz(a b fr:aa)(v:J->aa):J->(J->aa)×ah aC
 | 0=>(v,[])
 | 1=>iy 0 a fr (v,[])
 | _=>iy 1 b fr (iy 0 a fr (v,[]))
def FY(w:aj)(v':J->aa)(xs:ah aC)(e:Ending)(w':aj):al:=
 ∃ cQ,e=aY #[.agg (br v'),cQ,I 0]/\w'.ownsRow w.heap.size 45 9 cQ xs.length (b4 xs)/\Below w w w'
def Sc{f r:aa}(X:Mid 2 f r v)(aaw:0<=f/\f<=1000000)(sd:0<=r/\r<=f)(a b:aa)(bh:a<=63)(ak:b<=63)(w:aj):aA 285 #[.agg (br v),aL #[aH a,aH b]] w (FY w (iL a b v) (ks a b v)):=by
 have l':=ag (H6 v);rw[Je X ⟨aaw.1,U⟩ ⟨sd.1,U⟩]at l';have H:=ag (Q1 f U);have m:=cw (aX w (af (br v) 99)) (af #[aH a,aH b] 101);have n:=aX (w.alloc (af (br v) 99)) (af #[aH a,aH b] 101);rw[fH]at n;have m':=ma ((w.alloc (af (br v) 99)).alloc (af #[aH a,aH b] 101));simp only[fH]at m';have y:=aX ((w.alloc (af (br v) 99)).alloc (af #[aH a,aH b] 101)) (af (br ck) 99);simp only[fH]at y;have m:=cw m (af (br ck) 99);have n:=cw n (af (br ck) 99);have aaG:=(((bb w).alloc (af (br v) 99)).alloc (af #[aH a,aH b] 101)).alloc (af (br ck) 99);have aaB:=ov m;have ys:=ag m;have zd:=ag n;have zp:=ag y;have cI:=ag X;have R:=ag aaw;have T:=ag sd;have g':=ag X.f0;obtain⟨P,p⟩:∃ P,FY w (iL a b v) (ks a b v)=P:=⟨_,rfl⟩;rw[p];have aaN:=ag p;clear m n y X p sd
 go_in
 go_wp2_with first|refine dU m' rfl rfl ?_|refine dn aaB rfl rfl rfl ?_
 generalize ((w.alloc (af (br v) 99)).alloc (af #[aH a,aH b] 101)).alloc (af (br ck) 99)=bn at *;refine aW (l'.o _) λao aas=>?_;have Q:=(bb bn).fT aas;have aaH:=aaG.trans Q;have m:=Q.heap ys.o id;have n:=Q.heap zd.o id;have y:=Q.heap zp.o id;clear ys zd zp aaG Q aas m' aaB;have bz:ao.cell? (ae w 0 ad)=some (I f):=by
  rw[<-g'.o];exact bf m (fD v U)
 have O:=aO n;have hne:(f == 1073741824)=false:=by rw[eA];omega
 have kF:decide (63<b)=false:=di U;go_wp2_with fail;refine aW (H.o _) λaD ab=>?_;have L:Keeps aG ao aD:=by rw[<-ab];exact(Keeps.refl _ ao).alloc _
 have M:aD.heap[ao.heap.size]?=some (af #[I f,aq none 0 0] 476 (0,0)):=by rw[<-ab];exact aX ao _
 have aa4:aD.heap.size=ao.heap.size+1:=by rw[<-ab];simp
 have abb:=bT y;have aaC:=ov (L.heap m id);have aau:=WK v ao.heap.size
 have aar:St (aD.alloc (af (hf v ao.heap.size) 458)) ao.heap.size aD.heap.size ao.heap.size v f []:=
  ⟨aX aD _,⟨aq none 0 0,⟨cw M _,gx _ _ _ _,by simp[Value.ownBlock],Pairwise.nil,aM,aM⟩,by simp[Value.ownBlock]⟩,U,U,df _⟩
 have aaM:=ag (cw (L.heap n id) (af (hf v ao.heap.size) 458));have aaR:=ag (cw (L.heap y id) (af (hf v ao.heap.size) 458));have CW:=ag ((aaH.trans L).alloc (af (hf v ao.heap.size) 458));have aaO:=ag aar;clear aar m n y bz O M aa4 L aaH ab kF hne l' H;simp only;go_wp2_with first|refine dn aaC rfl rfl rfl ?_|refine s0 (aau _) rfl rfl rfl rfl ?_
 clear aaC aau;generalize aD.alloc (af (hf v ao.heap.size) 458)=bq at *;generalize aD.heap.size=gJ at *;generalize ao.heap.size=c at *;go_loopg [47] 2 (λhd i wr=>∃ k:J,hd=2-k/\k<=2/\i=I k/\SgI bq c gJ c f 2 0 0 (sz a b f v k).1 (sz a b f v k).2 wr)
 case atStart=>exact⟨0,rfl,U,rfl,aaO.o,Keeps.refl _ _,cI.o.lim ⟨R.o.1,by have:=R.o.2;omega⟩ ⟨T.o.1,by have:=T.o.2;have:=R.o.2;omega⟩⟩
 obtain⟨k,aZ,hk,rfl,aV⟩:=hrel;have aay:=aV.cu.heap aaM.o (show ¬ c<=w.heap.size+1 by omega);have O:=aO aay;clear aay;by_cases A:k<2
 .have aaX:k=0\/k=1:=U;rcases aaX with rfl|rfl
  .have p:=ag (show aA 324 #[gJ,I 0,aH a] wr _ from KN aV 0 U a);clear aV;go_wp2_with fail;refine aW p.o λv' l=>?_;have D:=ag l;clear l p O;go_wp2_with fail;go_roundg 1
   case rel=>exact⟨1,rfl,U,by go_num,D.o⟩
   omega
  have p:=ag (show aA 324 #[gJ,I 1,aH b] wr _ from KN aV 1 U b);clear aV;go_wp2_with fail;refine aW p.o λv' l=>?_;have D:=ag l;clear l p O;go_wp2_with fail;go_roundg 0
  case rel=>exact⟨2,rfl,U,by go_num,D.o⟩
  omega
 obtain rfl:k=2:=U;clear O;have TS:=ag (XH aV);clear aV;go_wp2_with fail;refine aW TS.o λv' l=>?_;have m3:Mid 2 f r (jj f (sz a b f v 2)).1:=Ci (uj (uj cI.out 0 U a f []) 1 U b f _) f _;have T':stepG a b f v=kp f (ja f (jj f (sz a b f v 2)) 6):=rfl;have Aw:=ag T';change SgI bq c gJ c f 2 0 0 (jj f (sz a b f v 2)).1 (jj f (sz a b f v 2)).2 v' at l;clear T' TS;generalize jj f (sz a b f v 2)=gy at *;have D:=ag l;have aaT:=ag m3;clear l m3;go_wp2_with fail;go_loopg [59] 6 (λhd i wr=>∃ k:J,hd=6-k/\k<=6/\i=I k/\SgI bq c gJ c f (2+k) 0 0 (ja f gy k).1 (ja f gy k).2 wr)
 case atStart=>exact⟨0,rfl,U,rfl,D.o⟩
 obtain⟨k,aZ,hk,rfl,aV⟩:=hrel;clear D;have mk:=yR aaT.o f k hk;by_cases A:k<6
 .have Y:=aV.cellS k A 4 U;have u:ja f gy (k+1)=qw k f (ja f gy k):=rfl;generalize ja f gy k=aa7 at *;obtain⟨g,aaJ⟩:=aa7;replace mk:Mid (2+k) f r g:=mk;replace aV:SgI bq c gJ c f (2+k) 0 0 g aaJ wr:=aV;replace Y:wr.cell? (ae gJ (24+k*6+4) ad)=some (I (g (24+k*6+4))):=Y;unfold qw at u;dsimp only at u;have aav:(2:aa)+k+1=2+((k+1:J):aa):=U;by_cases E:g (24+k*6+4)=0
  .rw[aE E]at u;have gf:=ag (aV.mono (show(2:aa)+k<=2+((k+1:J):aa)by omega));have w':=ag u;clear aV u mk;rw[E]at Y;go_wp2_with fail;go_roundg (6-(k+1))
   case rel=>exact⟨k+1,rfl,U,by go_num,by rw[w'.o];exact gf.o⟩
   omega
  rw[aB E]at u;have vl:=(mk.px k A).resolve_left (λaaV=>E (aaV 4 U));have aaZ:1<=g (24+k*6+5)/\g (24+k*6+5)<=40:=vl.2.2.2.2.2;have aaA:1<=g (24+k*6+4)/\g (24+k*6+4)<=2:=vl.2.2.2.2.1;have aax:∀ o,ey o->-50<=g (o+5):=λo aa1=>by
   have:0<=g (o+5)/\g (o+5)<=3:=(mk.pl o aa1).au
   omega
  have z:=ag (XJ aV k A U aaA aax U);rw[aav]at z;have w':=ag u;have abd:(g (24+k*6+4) == 0)=false:=by rw[eA];exact E
  have abc:decide (g (24+k*6+4)=0)=false:=di E;clear aV u mk vl aav aaZ aaA aax;go_wp2_with fail;refine aW z.o λF d=>?_;generalize jk k f (g,aaJ)=t at *;have⟨aaU,aa8,aa_⟩:=t;replace d:SgI bq c gJ c f (2+((k+1:J):aa)) 0 0 aa8 aa_ F:=d;clear z Y;cases aaU
  .obtain⟨Z,aaq⟩:=d.row 96 (24+k*6) 6 #[ai 0,ai 0,ai 0,ai 0,I 0,I 0] (λ_=>0) sizeOf96 rfl U (λq N=>by
    rw[KS 0 0 0 0 0 0 k A q N]
    congr 2
    match q,N with
    | 0,_=>rfl
    | 1,_=>rfl
    | 2,_=>rfl
    | 3,_=>rfl
    | 4,_=>rfl
    | 5,_=>rfl) (d.lim.row _ 6 _ λq N=>by
    rw[aB U,(pn (2+((k+1:J):aa)) 0 k A q N).1,(pn (2+((k+1:J):aa)) 0 k A q N).2];split<;>omega)
   have gf:=ag aaq;clear aaq d;go_wp2_with refine c7 Z rfl rfl rfl rfl ?_
   clear Z;generalize World.setRow _ _ _=C at *;exact Mx
  have gf:=ag d;clear d;go_wp2_with fail;exact Mx
 obtain rfl:k=6:=U;have H:=ag (XL aV mk.f3 (by rw[mk.f2];exact⟨T.out.1,by have:=T.out.2;have:=R.out.2;omega⟩) U);obtain⟨r',m6,aa2,aa3⟩:=Jd mk f (ja f gy 6).2;change Mid 2 f r' (kp f (ja f gy 6)).1 at m6;clear aV mk;go_wp2_with fail;refine aW H.o λF d=>?_;change SgI bq c gJ c f (2+((6:J):aa)) 0 0 (kp f (ja f gy 6)).1 (kp f (ja f gy 6)).2 F at d;clear H;have aaP:=ag (show iL a b v=bK (kp f (ja f gy 6)).1 0 (f+1)by unfold iL;rw[g'.out,Aw.out]);have aaL:=ag (show ks a b v=(kp f (ja f gy 6)).2 by unfold ks;rw[g'.out,Aw.out]);generalize kp f (ja f gy 6)=hy at *;obtain⟨v6,G⟩:=hy;replace d:SgI bq c gJ c f (2+((6:J):aa)) 0 0 v6 G F:=d;have aaF:v6 0=f:=m6.f0;have aa':F.cell? (ae gJ 0 ad)=some (I f):=by rw[<-aaF];exact d.st.cell 0 U .i64 rfl
 have g0:=d.st.free 0;have Q':=ag (d.hC 0 U .i64 rfl (f+1) (by show 0<=f+1/\f+1<=4294967295;omega));clear d m6 aaF aa2 aa3;go_wp2_with fail;have V:=Q'.o;generalize F.setCell _ _=C at *;clear Q' aa' g0;generalize aa5:bK v6 0 (f+1)=s at *;clear aa5;have z:St C.drew c gJ c s f G:=V.st.keep (Keeps.refl _ C).drew;have aaY:=CW.out.trans (bb bq);have a':Keeps (λj=>w.heap.size<=j) w C.drew:=((CW.out.mono λ_ _ x=>x.elim).trans (V.cu.mono λj _ aaz=>U)).trans (Keeps.refl _ C).drew;have aaK:=(bb C).drew.heap (V.cu.heap aaR.out (show ¬ c<=w.heap.size+1+1 by omega)) id;obtain⟨cQ,M,_⟩:=z.wF;have aaW:=ag (Vl M);have aa6:∀ W,(∃ x:bs (λW=>St W c gJ c s f G),W=x.to)->(Instr.loadAt 99 gJ).run prog W=.ok (.agg (br s)) W:=by
  rintro W ⟨x,rfl⟩;exact Yl x.held
 have aaD:∀ W,St W c gJ c s f G->∀ W',Keeps (λj=>j=w.heap.size+1+1) W W'->St W' c gJ c s f G:=λW h W' hk=>h.keeps hk a8;have aaS:=ag aaD;clear V M aaY aaD;refine cJ 9 ?_;refine cK (λW=>St W c gJ c s f G) (.range 9) 0 9 ?_;refine qg (z) (.range 5) 4 λhne=>?_
 repeat (first|(refine jL aa6 rfl rfl rfl ?_;simp only[Act.put,c8])|go_big_quiet_step (fail))
 refine wpQuiet_nil ?_;clear hne;refine eH 5 λK V'=>?_;go_simp;refine aaW.out.mono ?_;rintro e aa9 ⟨aaI,rfl,s',aat⟩;have fr:=Keeps.bJ (S:=aG) aat a8;have Tq:=z.keep fr;refine V' _ _ (Tq) ?_;clear V' K;obtain⟨Z,aa0,ps⟩:=dQ aa9 99 60 (w.heap.size+1+1) (br s) _ sizeOf99 (et _) (et _) (fr.heap aaK id) (fw.2 (oy s));have lb:=aaS.out _ Tq _ ps;have hfin:=(((a'.trans (fr.mono λ_ _ x=>x.elim)).trans (ps.mono λj _ e=>by rw[e];omega)).below (B:=w.heap.size) bx a8);have aaE:=kQ (b5 s' ps (λj aaz e=>by
  have h1:=(s'.lt j aaz).1;have h2:=a'.size;have aba:=bT aaK;omega)) (show w.heap.size<=C.drew.heap.size from a'.size)
 have aaQ:=bW aaE hfin;clear hfin aaE s' aat fr a';refine rl 6 lb (nM rfl rfl rfl Z) ?_;simp only[Act.put];refine hs 7 lb ?_;refine h9 8 lb ?_;go_wp2;rw[<-aaN.out,aaP.out,aaL.out];refine dx (v:=aY #[.agg (br s),aaI,I 0]) aa0 ?_;exact⟨aaI,rfl,aaQ.o⟩
variable{b:gj}{x:ct}
def dJ(x:ct)(n j:J):aa:=oL (x.f j).K n (x.f j).last
structure qV(w:aj)(b:gj)(x:ct)(v:J->aa)(j7 hy:J)(p q:aa)(wr:aj):al where
 co:IsCore wr b x
 bl:wr.heap[w.heap.size]?=some (af #[I 0,aq none 0 0] 271 (0,0))
 st:wr.heap[hy]?=some (af (br v) 99 (0,0))
 bY:wr.heap[j7]?=some (af #[aH p,aH q] 101 (0,0))
 cu:Keeps b.S w wr
 rf:w.heap.size<hy
 wo:w.heap.size<j7
 ne:hy≠j7
theorem qV.oN{v:J->aa}{j7 hy:J}{p q:aa}{wr aD:aj}{ee:ct}(a:∀ j,b.S j->j<w.heap.size)(h:qV w b x v j7 hy p q wr)(c:IsCore aD b ee)(hk:Keeps b.S wr aD):qV w b ee v j7 hy p q aD:=
 ⟨c,hk.heap h.bl (λe=>by have:=a _ e;omega),hk.heap h.st (λe=>by have:=a _ e;have:=h.rf;omega),hk.heap h.bY (λe=>by have:=a _ e;have:=h.wo;omega),h.cu.trans hk,h.rf,h.wo,h.ne⟩
def qV.KF{v:J->aa}{j7 hy:J}{p q l3 a u:aa}{wr:aj}(d:∀ j,b.S j->j<w.heap.size)(h:qV w b x v j7 hy p q wr)(k:J)(hk:(#[aH p,aH q]:a7 ay).setIfInBounds k (aH u)=#[aH l3,aH a]):qV w b x v j7 hy l3 a (wr.setCell (ae j7 k ad) (aH u)):=by
 have aw:=(Keeps.refl (λj=>j=j7) wr).setCell (p:=ae j7 k ad) rfl (aH u);have f:=h.wo;refine⟨h.co.keeps aw (λj c e=>by have:=d _ c;omega),aw.heap h.bl U,aw.heap h.st (by have:=h.ne;omega),?_,cN h.cu aw a8,h.rf,h.wo,h.ne⟩;rw[b3 h.bY,hk]
def y3(x:ct)(n:J)(v:J->aa):ct:={kv x n 2 with L:=fa x.L (n+1) v}
def vG(w:aj)(b:gj)(ee:ct)(n:J)(xs:ah aC)(e:Ending)(w':aj):al:=
 (∃ A cap,e=aY #[aL #[I (n:aa),aq A xs.length cap],I 0]/\w'.ownsRow (w.heap.size+1) 45 9 (aq A xs.length cap) xs.length (b4 xs))/\IsCore w' b ee/\Keeps b.S w w'
def GQ(h:IsCore w b x)(n:J){r:aa}{v:J->aa}(aay:hb x.L (n:aa)=some v)(aaz:Mid 2 n r v)(aaJ:0<=r/\r<=n)(av:n<=500000)(aU:∀ j,j<2->dJ x n j<=63)(aaD:∀ j,j<2->(x.f j).first<=n)(aaE:fk x.e4 81 ((n+1:J):aa)):aA 218 #[b.c,I (n:aa)] w (vG w b (y3 x n (iL (dJ x n 0) (dJ x n 1) v)) n (ks (dJ x n 0) (dJ x n 1) v)):=by
 have t:∀ j,b.S j->j<w.heap.size:=λj d=>h.lt d;have ps:=(bb w).alloc (af #[I 0,aq none 0 0] 271);have V':=aX w (af #[I 0,aq none 0 0] 271);have aaT:(w.alloc (af #[I 0,aq none 0 0] 271)).heap.size=w.heap.size+1:=aM;have gf:=h.keep ps;have X:=ag (Ko gf.st (n:aa) U);rw[aay]at X;simp only[ib,pM]at X;have aaN:=gf.ek;have aaX:=ye;have aaY:=yf;have aaB:=ag (Sc aaz U aaJ (dJ x n 0) (dJ x n 1) (aU 0 U) (aU 1 U));have r':=ag gf;have s:=ag t;have aaw:=ag aaD;have aaV:IntKind.i64.wrap ((n:aa)+1)=((n+1:J):aa):=by rw[show((n+1:J):aa)=(n:aa)+1 by omega];exact eG _ U
 generalize aaU:iL (dJ x n 0) (dJ x n 1) v=E at *;generalize aaW:ks (dJ x n 0) (dJ x n 1) v=xs at *;obtain⟨PP,lb⟩:∃ PP,vG w b (y3 x n E) n xs=PP:=⟨_,rfl⟩;rw[lb];have aav:=ag lb;clear lb;have Aw:dJ x n 0=oL (x.f 0).K n (x.f 0).last:=rfl;have CW:dJ x n 1=oL (x.f 1).K n (x.f 1).last:=rfl;generalize dJ x n 0=p at *;generalize dJ x n 1=q at *;have s':=ag Aw;have vl:=ag CW;clear Aw CW
 go_in
 go_wp2_with fail;generalize w.alloc (af #[I 0,aq none 0 0] 271)=bn at *;refine aW X.o λao O=>?_;have N:=ma ao;have z:=aX ao (af (br ck) 99);have⟨Q,_,Q'⟩:=dQ (ao.alloc (af (br ck) 99)) 99 60 ao.heap.size (br v) _ sizeOf99 (et _) (et _) z (fw.2 (oy v));have ar:=fb _ ao.heap.size _ (br v) 99 z;have aaQ:=O.size;have ab:=((Keeps.refl _ ao).alloc _).trans Q';have W':=ab.heap (O.heap V' id) U;have H:=cN (ps.trans O) ab a8;have h2:=(r'.o.keep O).keeps ab (λj d e=>by have:=s.o j d;omega)
 have v':qV w b (kv x n 0) v ((ao.alloc (af (br ck) 99)).setRow ao.heap.size (br v)).heap.size ao.heap.size 0 0 (((ao.alloc (af (br ck) 99)).setRow ao.heap.size (br v)).alloc (af #[aH 0,aH 0] 101)):=
  ⟨by rw[Zl];exact h2.keep ((Keeps.refl _ _).alloc _),cw W' _,cw ar _,aX _ _,lj (H.alloc _),U,by have:=H.size;have:=bT ar;omega,by have:=bT ar;omega⟩
 have z4:=h2.lP (k:=0) U;have z5:=h2.lP (k:=1) U;have aaC:=bT h2.head;have sd:=ag v';clear v' h2 H W' ab ar Q' z V' ps r' X aaN O;generalize (ao.alloc (af (br ck) 99)).setRow ao.heap.size (br v)=aD at *;go_wp2_with first|refine dU N rfl rfl ?_|refine c7 Q rfl rfl rfl rfl ?_
 clear z4 z5 aaC N Q;generalize aD.heap.size=j7 at *;generalize aD.alloc (af #[aH 0,aH 0] 101)=bq at *;generalize ao.heap.size=hy at *;go_loopg [31] 2 (λg i wr=>∃ j:J,g=2-j/\j<=2/\i=I j/\qV w b (kv x n j) v j7 hy (if 0<j then p else 0) (if 1<j then q else 0) wr)
 case atStart=>exact⟨0,rfl,U,rfl,sd.o⟩
 obtain⟨j,aZ,d,rfl,aV⟩:=hrel;clear sd;by_cases t:j<2
 .have m':(kv x n j).f j=x.f j:=by simp[kv]
  have l':=aV.co.fd j t;rw[m']at l';have G:=ag (Ro l' n (n:aa) rfl ⟨aaw.o j t,U⟩);have TS:(x.f j).next<=1000000:=by have:=aV.co.dO j t;rwa [m']at this
  clear m' l';have aaF:j=0\/j=1:=U;rcases aaF with rfl|rfl
  .rw[<-s'.out]at G;go_wp2_with fail;refine aW G.out ?_;rintro m ⟨M,C⟩;have hfin:=aV.co.feed t (y:=pB (x.f 0) n) (by unfold pB;rw[<-s'.out];exact M) C TS;rw[Lt]at hfin;have l:=aV.oN s.out hfin (C.mono λj _ d=>q' t d);clear M C hfin aV G;have i0:=aO l.bY;have g0:=bP l.bY;have hd:=l.KF (u:=p) s.out 0 rfl;clear l;simp only;go_wp2_with fail;go_roundg 1
   case rel=>exact⟨1,rfl,U,by go_num,hd⟩
   omega
  rw[<-vl.out]at G;go_wp2_with fail;refine aW G.out ?_;rintro m ⟨M,C⟩;have hfin:=aV.co.feed t (y:=pB (x.f 1) n) (by unfold pB;rw[<-vl.out];exact M) C TS;rw[Lt]at hfin;have l:=aV.oN s.out hfin (C.mono λj _ d=>q' t d);clear M C hfin aV G;have i0:=aO l.bY;have g0:=bP l.bY;have hd:=l.KF (u:=q) s.out 1 rfl;clear l;simp only;go_wp2_with fail;go_roundg 0
  case rel=>exact⟨2,rfl,U,by go_num,hd⟩
  omega
 obtain rfl:j=2:=U;have Tq:=ov aV.st;have i0:=aO aV.bY;go_wp2_with refine dn Tq rfl rfl rfl ?_
 refine(aaB.out _).mono ?_;rintro e m ⟨cQ,rfl,P,zd⟩;obtain⟨A,cap,rfl,_,_⟩:=cS P;have aaK:=bT aV.bl;have aaR:=P.lt;have cP:=(bb wr).fT zd;have l:=aV.oN s.out (aV.co.keep cP) (lj cP);have N:=ma m;have z:=aX m (af (br ck) 99);obtain⟨Q,_,St⟩:=dQ (m.alloc (af (br ck) 99)) 99 60 m.heap.size (br E) _ sizeOf99 (et _) (et _) z (fw.2 (oy E));have ar:=fb _ m.heap.size _ (br E) 99 z;have R:=((Keeps.refl _ m).alloc _).trans St;have V:=l.co.keeps R (λj d e=>by have:=l.co.lt d;omega);have aaq:=R.heap l.bl (by have:=bT l.bl;omega);have H:=l.cu.trans ((cN (Keeps.refl b.S m) R a8));have aaH:∀ j,b.S j->j≠m.heap.size:=λj d=>by have:=l.co.lt d;omega
 have Z:=b5 P R (λj d e=>by have:=(P.lt j d).2;omega);have aaP:=s.out b.B (.inr (.inr (.inr (.inr rfl))));have aaS:w.heap.size≠m.heap.size:=by have:=bT l.bl;omega
 clear aV l zd cP z St R Tq i0;simp only;go_wp2_with first|refine dU N rfl rfl ?_|refine c7 Q rfl rfl rfl rfl ?_
 clear N Q;generalize (m.alloc (af (br ck) 99)).setRow m.heap.size (br E)=F at *;have T':=V.ok;have aax:=aaH b.B (.inr (.inr (.inr (.inr rfl))));have aaO:=s.out b.B (.inr (.inr (.inr (.inr rfl))));have aaL:=jE (S:=λj=>j=b.B) (w:=F.drew) V.ek T'.A2;have aau:∀ W,(∃ x:gQ (λj=>j=b.B) F.drew,W=x.to)->(Instr.loadAt 99 m.heap.size).run prog W=.ok (.agg (br E)) W:=by
  rintro W ⟨x,rfl⟩;exact ov (x.keeps.heap (a:=F.drew) ar (λe=>aax e.symm))
 have g':=V.keep (Keeps.refl _ F).drew;have aaA:=ag (Kp g'.st (n+1) ((n+1:J):aa) rfl aaE E);refine cJ 9 ?_;refine ow (λj=>j=b.B) (.range 7) [7,8] 0 ?_
 repeat (first|(refine jL aau rfl rfl rfl ?_;simp only[Act.put,c8])|go_big_quiet_step (fail))
 refine wpQuiet_nil ?_;refine gu λK w'=>?_;go_simp;refine aW aaA.o ?_;rintro aaM ⟨ys,D⟩;refine w' _ _ (c6 (D)) ?_;clear w' K;refine ou (c6 (D)) ?_;refine iI ?_;have hfin:=g'.uU ys (D.mono λ_ _ e=>.inr e);have Y:=D.heap (a:=F.drew) aaq U;have aat:=(H.trans ((bb F).drew.mono λ_ _ x=>x.elim)).trans (D.mono (T:=b.S) λ_ _ e=>.inr (.inr (.inr (.inr e))));have g0:=bP Y;have bz:=aO Y;have aaI:=kC Y (I (n:aa)) (aq A xs.length cap);have a':=((Keeps.refl (λj=>j=w) aaM).setCell (p:=ae w 0 ad) rfl (I (n:aa))).setCell (p:=ae w 1 ad) rfl (aq A xs.length cap);have zp:=hfin.keeps a' (λj d e=>E5);have aas:=cN aat a' a8;have aar:=kQ (b5 (b5 (b5 Z (bb F).drew (λ_ _=>id)) D (λj d e=>by have:=(Z.lt j d).1;omega)) a' (λj d e=>by have:=(Z.lt j d).1;omega)) (show w.heap.size+1<=wr.heap.size from aaK);have fr:=bW aar (bD zp aas);clear hfin zp ys D g' V aaL aau aaq Y aat H a' T' Z aar P aas;go_wp2;have aaG:=k' aaI;rw[<-aav.out];refine dx (v:=aY #[aL #[I (n:aa),aq A xs.length cap],I 0]) aaG ?_;exact⟨⟨A,cap,rfl,fr.o.1⟩,fr.o.2.1,fr.o.2.2⟩
def K9(x:ct)(v:J->aa):ct:={y3 x x.now v with now:=x.now+1}
def Qf(h:IsCore w b x){r:aa}{v:J->aa}(s':fM x=none)(l':j0 x=false)(Aw:x.now<(x.f x.aN).next)(hd:hb x.L (x.now:aa)=some v)(P:Mid 2 x.now r v)(v':0<=r/\r<=x.now)(av:x.now<=500000)(aU:∀ j,j<2->dJ x x.now j<=63)(lb:∀ j,j<2->(x.f j).first<=x.now)(m':fk x.e4 81 ((x.now+1:J):aa)):aA 146 #[b.c] w (vG w b (K9 x (iL (dJ x x.now 0) (dJ x x.now 1) v)) x.now (ks (dJ x x.now 0) (dJ x x.now 1) v)):=by
 obtain⟨N,R⟩:∃ N,vG w b (K9 x (iL (dJ x x.now 0) (dJ x x.now 1) v)) x.now (ks (dJ x x.now 0) (dJ x x.now 1) v)=N:=⟨_,rfl⟩;rw[R];have r':∀ j,b.S j->j<w.heap.size:=λj d=>h.lt d;have V:=ag (λ(W:aj) (hk:Keeps aG w W)=>vW ((h.keep hk).fd (1-x.aN) U));have K:=s';unfold fM fv at K;rw[K]at V;have E:=(bb w).alloc (af #[I 0,aq none 0 0] 271);have X:=aX w (af #[I 0,aq none 0 0] 271);have s:=ag r'
 go_in
 go_wp2_with fail;generalize w.alloc (af #[I 0,aq none 0 0] 271)=bn at *;refine aW (((λ(W:aj) (hk:Keeps aG w W)=>sb (h.keep hk))) _ E) ?_;rintro ao ⟨Tq,D⟩;have F:=E.trans (nm D);have Y:=(nm D).heap X id;clear D X E;go_wp2_with fail;refine aW (V.out _ F) λaD B=>?_;have G:=F.trans B;have Z:=B.heap Y id;have h2:=h.keep G;clear B Y F;simp only[pL,o0];have i:=ag (λn=>x7 (h2.drew n));rw[l']at i;have y:=ag (λn=>vR (h2.drew n));have z:=ag (λn=>q_ ((h2.drew n).fd x.aN h.aN));have c2:=h2.c2;go_wp2_with fail;go_quiet (first|(go_at_call 216;first|exact Calls.quiet_of (i.o _)|exact hv (i.o _))|(go_at_call 56;first|exact Calls.quiet_of (y.o _)|exact hv (y.o _))|(go_at_call 49;first|exact Calls.quiet_of (jo (z.o _))|exact hv (jo (z.o _))));have t:=h2.drew nq;have fr:=G.drewN nq;have C:=((bb aD).drewN nq).heap Z id;generalize aD.drewN nq=bq at *;clear h2 G Z c2 i y z;have c2:=t.c2;have Q:=ag (GQ t x.now hd P v' av aU lb m');have sd:=bT C;clear t;go_wp2_with fail;refine Q.o.mono ?_;rintro e H ⟨⟨A,cap,rfl,l⟩,a,cP⟩;have M:=R;have g':=ag M;clear M;generalize ys:ks (dJ x x.now 0) (dJ x x.now 1) v=xs at *;generalize w':iL (dJ x x.now 0) (dJ x x.now 1) v=TS at *;clear ys w' P;have g:=cP.heap C (λe=>by have:=s.out _ e;omega);clear Q C c2;have c2:H.cell? (ae b.c 7 ad)=some (I (x.now:aa)):=a.c2;have g7:=bP a.head;have zd:=bT a.head;have St:IntKind.i64.wrap ((x.now:aa)+1)=(x.now:aa)+1:=eG _ U;have g0:=bP g;have bz:=aO g;have CW:=bT g;have u:=a.XB (x.now+1) U;rw[show((x.now+1:J):aa)=(x.now:aa)+1 by omega]at u;have k:=(Keeps.refl (λj=>j=b.c) H).setCell (p:=ae b.c 7 ad) rfl (I ((x.now:aa)+1));have zp:=s.out b.c (.inl rfl);have ab:=k.heap g U;have vl:=cw (kC ab (I (x.now:aa)) (aq A xs.length cap)) (af #[I (x.now:aa),aq A xs.length cap] 271);have m:=(((Keeps.refl (λj=>j=w) (H.setCell (ae b.c 7 ad) (I ((x.now:aa)+1)))).setCell (p:=ae w 0 ad) rfl (I (x.now:aa))).setCell (p:=ae w 1 ad) rfl (aq A xs.length cap)).alloc (af #[I (x.now:aa),aq A xs.length cap] 271);have O:=u.keeps m (λj d e=>E5);have gf:=cN ((fr.mono (T:=b.S) λ_ _ x=>x.elim).trans (cP.trans (k.mono (T:=b.S) λ_ _ e=>.inl e))) m a8;have Q':=sd;have a':=kQ (b5 (b5 l k (λj d e=>by have:=(l.lt j d).1;omega)) m (λj d e=>by have:=(l.lt j d).1;omega)) (show w.heap.size+1<=bq.heap.size+1 by omega);have q:=bW a' (bD O gf);clear a u O k ab m cP fr g l a' gf;simp only;go_wp2;have ps:=k' vl;rw[<-g'.o];refine dx (v:=aY #[aL #[I (x.now:aa),aq A xs.length cap],I 0]) ps ?_;exact⟨⟨A,cap,rfl,q.o.1⟩,q.o.2.1,q.o.2.2⟩
def Qg(h:IsCore w b x)(z:fM x=none)(u:j0 x=true):aA 146 #[b.c] w λe w'=>e=aY #[aL #[I 0,aq none 0 0],I 9]/\Keeps aG w w':=by
 have m:=ag (λ(W:aj) (hk:Keeps aG w W)=>vW ((h.keep hk).fd (1-x.aN) U));have i:=z;unfold fM fv at i;rw[i]at m;have g:=(bb w).alloc (af #[I 0,aq none 0 0] 271);have r:=aX w (af #[I 0,aq none 0 0] 271)
 go_in
 go_wp2_with fail;generalize w.alloc (af #[I 0,aq none 0 0] 271)=bn at *;refine aW (((λ(W:aj) (hk:Keeps aG w W)=>sb (h.keep hk))) _ g) ?_;rintro ao ⟨E,f⟩;have s:=g.trans (nm f);have A:=(nm f).heap r id;clear f r g;go_wp2_with fail;refine aW (m.out _ s) λaD q=>?_;have t:=s.trans q;have h2:=h.keep t;simp only[pL,o0];have a:=ag (λn=>x7 (h2.drew n));rw[u]at a;have k:=ag (λn=>vR (h2.drew n));have l:=ag (λn=>q_ ((h2.drew n).fd x.aN h.aN));go_wp2_with fail;go_quiet (first|(go_at_call 216;first|exact Calls.quiet_of (a.o _)|exact hv (a.o _))|(go_at_call 56;first|exact Calls.quiet_of (k.o _)|exact hv (k.o _))|(go_at_call 49;first|exact Calls.quiet_of (jo (l.o _))|exact hv (jo (l.o _))));have B:=t.drewN nq;have d:=((bb aD).drewN nq).heap (q.heap A id) id;generalize aD.drewN nq=bq at *;have g0:=bP d;have bz:=aO d;have D:=((Keeps.refl (λj=>j=w) bq).setCell (p:=ae w 0 ad) rfl (I 0)).setCell (p:=ae w 1 ad) rfl (aq none 0 0);have C:=cN B D a8;go_wp2;have y:=k' (kC d (I 0) (aq none 0 0));refine dx (v:=aY #[aL #[I 0,aq none 0 0],I 9]) y ?_;exact⟨rfl,C⟩
def Qc(h:IsCore w b x)(v:aa)(k:j0 x=true):aA 144 #[b.c,aH v] w λe w'=>e=aY #[I 0,I 9]/\Keeps aG w w':=by
 have g:=ag (λ(W:aj) (hk:Keeps aG w W)=>q_ ((h.keep hk).fd x.aN h.aN));have d:=ag (λ(W:aj) (hk:Keeps aG w W)=>x7 (h.keep hk));rw[k]at d;generalize (x.f x.aN).next=dO at *
 go_in
 go_wp2_with fail;refine aW (vR h) ?_;rintro ao ⟨m,i⟩;have a:=nm i;clear i;go_wp2_with fail;refine bE (g.out _ a) ?_;go_wp2_with fail;refine aW (d.out _ a) ?_;rintro aD ⟨n,j⟩;have l:=a.trans (nm j);clear j a g d;go_wp2;go_ret2;exact⟨rfl,l⟩
section
attribute [local go_sem] Oper.semAt_some
variable{w w':aj}{b:gj}{x:ct}
structure fz where
 n:J
 A:b_ Addr
 cap:J
 xs:ah aC
def fz.cQ(p:fz):ay:=aq p.A p.xs.length p.cap
def fz.key(p:fz):J×ah aC:=(p.n,p.xs)
def hg(x:ct)(n:J):J->aa:=(hb x.L (n:aa)).getD ck
def jr(x:ct)(n:J):ct:=y3 x n (iL (dJ x n 0) (dJ x n 1) (hg x n))
def hR(x:ct)(n:J):ah aC:=ks (dJ x n 0) (dJ x n 1) (hg x n)
def replay(x:ct)(g:J):J->ct
 | 0=>x
 | k+1=>jr (replay x g k) (g+k)
def mK(x:ct)(g k:J):ah (J×ah aC):=(range k).map λj=>(g+j,hR (replay x g j) (g+j))
def Vd(x:ct)(g k:J):mK x g (k+1)=mK x g k++[(g+k,hR (replay x g k) (g+k))]:=by
 unfold mK;rw[qK,jx];rfl
structure Can(x:ct)(n:J):al where
 L:hb x.L (n:aa)=some (hg x n)
 st:∃ r,Mid 2 n r (hg x n)/\0<=r/\r<=n
 top:n<=500000
 bY:∀ j,j<2->dJ x n j<=63
 Hu:∀ j,j<2->(x.f j).first<=n
 uU:fk x.e4 81 ((n+1:J):aa)
def Qk(h:IsCore w b x){n:J}(an:Can x n):aA 218 #[b.c,I (n:aa)] w (vG w b (jr x n) n (hR x n)):=by
 have⟨r,a,d⟩:=an.st;exact GQ h n an.L a d an.top an.bY an.Hu an.uU
theorem J6(x:ct)(g:J):∀ k,(replay x g k).now=x.now
 | 0=>rfl
 | k+1=>J6 x g k
def Qj(a:Addr)(n:aa)(w:aj):aA 209 #[.pointer (some a),I n] w λe w'=>
  e=.returned (.func (.func 272) #[] #[.pointer (some (ae (w+1) 0 ad)),w.heap.size])/\(w.alloc (af #[.pointer (some a)] 63)).alloc (af #[I n] 3)=w':=by
 go_in
 go_wp2;go_ret;exact⟨rfl,rfl⟩
def FL(x:ct)(g:J)(s:J)(pre:ah fz)(p:fz)(W:aj):al:=
 g+pre.length<x.now/\p.key=(g+pre.length,hR (replay x g pre.length) (g+pre.length))/\W.ownsRow (s+1) 45 9 p.cQ p.xs.length (b4 p.xs)
def AK(b:gj)(x:ct)(g:J)(ps:ah fz)(W:aj):al:=ps.map fz.key=mK x g (x.now-g)/\IsCore W b (replay x g (x.now-g))
def O6(h:IsCore w b x)(g:J)(aZ:g<=x.now)(fr:∀ k,g+k<x.now->Can (replay x g k) (g+k))(f a:J)(hd:w.cell? (ae f 0 ad)=some (I (g:aa)))(an:w.cell? (ae a 0 ad)=some (.pointer (some (ae b.c 0 ad))))(E:f<w.heap.size/\a<w.heap.size)(hne:¬ b.S f/\¬ b.S a)(q:J->al)(H:¬ q f/\¬ q a/\∀ j,b.S j->¬ q j):tB prog 272 #[f,a] (λp:fz=>#[aL #[I (p.n:aa),p.cQ],I 0]) (FL x g) (AK b x g) q b.S w:=by
 intro l Q W lb hk CW w' Y R;subst lb;have r:∀ j,b.S j->j<w.heap.size:=λj d=>h.lt d;have Aw:=h.gS;have s:=ag r;have ys:=hk.cell hd id;have ab:=hk.cell an id;have h1:=ag (h.keep hk);refine gU.2 ?_
 go_in
 go_wp2_with fail;go_loopg [4] (x.now-g) (λm z wr=>∃ pre:ah fz,m=x.now-(g+pre.length)/\g+pre.length<=x.now/\z=I ((g+pre.length:J):aa)/\pre.map fz.key=mK x g pre.length/\wr.cell? (ae a 0 ad)=some (.pointer (some (ae b.c 0 ad)))/\IsCore wr b (replay x g pre.length)/\Q pre wr/\w.heap.size+2<=wr.heap.size)
 case atStart=>exact⟨[],rfl,by simpa using aZ,rfl,rfl,ab,h1.o,R,U⟩
 obtain⟨pre,hm,zp,rfl,l',gf,aV,F,r'⟩:=hrel;have c2:=aV.c2;rw[J6]at c2;have C:=ag l';by_cases r:g+pre.length<x.now
 .have G:=ag (Qk aV (fr pre.length r));obtain⟨y,u⟩:∃ y,replay x g pre.length=y:=⟨_,rfl⟩;rw[u]at G aV;have m':replay x g (pre.length+1)=jr y (g+pre.length):=by show jr (replay x g pre.length) (g+pre.length)=_;rw[u]
  have D:=ag u;have P:=ag m';generalize av:g+pre.length=n at *;have i:=ag av;go_upto_region 3 with fail
  refine(oR (n:=0)).1 ?_;gi_wp2_with (fail);refine⟨trivial,rfl,gU.2 (G.o.mono ?_)⟩;rintro e aD ⟨⟨A,cap,rfl,ps⟩,h2,v⟩;have Z:=Y pre ⟨n,A,cap,hR y n⟩ wr aD F v ⟨by rw[i.out];exact r,by rw[D.out,i.out];rfl,ps⟩;obtain⟨fn,tmps,assign,body,vl,X⟩:=Z;simp only[fz.cQ]at vl;have g':=v.cell (p:=ae a 0 ad) gf hne.2;have sd:=ca r' v.size;gi_wp2;refine⟨rfl,X.mono ?_⟩;rintro e v' ⟨rfl,V,t⟩;have E:=E;have a':=t.cell (p:=ae a 0 ad) g' (λe=>e.elim H.2.1 (λe=>by have e:a=w.heap.size+1:=e;omega));have T:=h2.keeps t (λj d e=>e.elim (H.2.2 j d) (λe=>E5));have s':=ca sd t.size;have B:=bW V T;gi_wp2;go_wp2;have L:g+(pre++[fz.mk n A cap (hR y n)]).length=n+1:=by rw[<-i.out];simp;omega
  have M:(pre++[fz.mk n A cap (hR y n)]).length=pre.length+1:=aM;go_roundg (x.now-(n+1))
  case measure=>omega
  refine⟨pre++[fz.mk n A cap (hR y n)],by rw[L],U,by rw[L];go_num,?_,a',?_,B.o.1,s'⟩
  .rw[M,Vd,D.out,i.out,jx,C.out];rfl
  rw[M,P.out];exact B.o.2
 have zd:¬ ((g+pre.length:J):aa)<(x.now:aa):=U;have K:pre.length=x.now-g:=U;rw[K]at aV;have N:=ag (show AK b x g pre wr from⟨by rw[C.out,K],aV⟩);have O:=ag F;go_wp2;go_end0;exact⟨⟨_,rfl⟩,pre,O.o,N.o⟩
end
section
attribute [local go_sem] Oper.semAt_some
variable{w w':aj}{b:gj}{x:ct}
def rowP(ps:ah fz):ah ay:=ps.flatMap λp=>[I (p.n:aa),p.cQ]
def FR(w:aj)(b:gj)(x:ct)(g:J)(e:Ending)(w':aj):al:=
 ∃ (ps:ah fz) (A:b_ Addr) (cap:J),e=aY #[aq A ps.length cap,I 0]/\w'.ownsRow w.heap.size 271 2 (aq A ps.length cap) ps.length (rowP ps)/\ps.map fz.key=mK x g (x.now-g)/\
  (∀ p∈ps,w'.ownsRow w.heap.size 45 9 p.cQ p.xs.length (b4 p.xs))/\IsCore w' b (replay x g (x.now-g))/\Keeps b.S w w'
def uu{bR h cv m s1 s2:J}{d e:TypeId}{f v2:ay}{k l:ah ay}(h1:w.ownsRow bR d s1 f cv k)(h2:w.ownsRow h e s2 v2 m l)(i:d≠e){j:J}(b:f.ownBlock=some j):v2.ownBlock≠some j:=λc=>by
 rcases h1.2 with⟨rfl,_⟩|⟨g,cap,o,rfl,_,aS,_⟩
 .simp[Value.ownBlock]at b
 rcases h2.2 with⟨rfl,_⟩|⟨q,n,p,rfl,_,a,_⟩
 .simp[Value.ownBlock]at c
 simp only[Value.ownBlock,hI]at b c;subst b;rw[c,aS]at a;simp only[hI,w7]at a;exact i a.2.1
structure vI(w:aj)(X:J)(S:J->al)(pre:ah fz)(W:aj):al where
 row:∃ v,W.heap[X]?=some (af #[v] 267 (0,0))/\W.ownsRow (X+5) 271 2 v pre.length (rowP pre)
 lp:∀ p∈pre,W.ownsRow (X+5) 45 9 p.cQ p.xs.length (b4 p.xs)
 eV:W.heap[w.heap.size]?=some (af #[aq none 0 0] 267 (0,0))
 fE:W.heap[w.heap.size+1]?=some (af #[I 0] 36 (0,0))
 cu:Keeps S w W
 cM:X+3<=W.heap.size
def vI.keep{X:J}{S T:J->al}{pre:ah fz}{W W':aj}(h:vI w X S pre W)(hk:Keeps T W W')(i:w.heap.size+2<=X)(ar:∀ k,S k->k<w.heap.size)(a:∀ k,T k->S k\/k=X+3\/k=X+4):vI w X S pre W':=by
 have⟨v,h1,h2⟩:=h.row;have av:∀ k,w.heap.size<=k->k<X+3->¬ T k:=λk d g e=>by
  rcases a k e with e|e|e
  .have:=ar k e;omega
  .omega
  omega
 have c:∀ k,X+5<=k->¬ T k:=λk d e=>by
  rcases a k e with e|e|e
  .have:=ar k e;omega
  .omega
  omega
 refine⟨⟨v,hk.heap h1 (av _ U U),b5 h2 hk (λb ak=>c _ (h2.lt b ak).1)⟩,λp au=>b5 (h.lp p au) hk (λb ak=>c _ ((h.lp p au).lt b ak).1),hk.heap h.eV (av _ U U),hk.heap h.fE (av _ U U),?_,ca h.cM hk.size⟩;exact cN h.cu hk (λk f e=>by
  rcases a k e with e|e|e
  .exact e
  .omega
  .omega)
def Gy(A:aj)(cs:a7 ay)(t:TypeId)(j:J)(u:ay)(h:cs.toList[j]?=some u):(A.alloc (af cs t)).cell? (((ae A 0 ad):Addr).add j)=some u:=by
 rw[ij,gP];exact bf (aX _ _) ic
def S0:∃ i,prog.info? 271=some i/\i.zero=some (aL #[I 0,aq none 0 0])/\i.size=2/\i.bytes=32:=by
 have h:(prog.info? 271).map (λi=>(i.zero,i.size,i.bytes))=some (some (aL #[I 0,aq none 0 0]),2,32):=aI;cases aS:prog.info? 271 with
 | none=>rw[aS]at h;cases h
 | some i=>rw[aS]at h;simp only[pN,hI,jR]at h;exact⟨i,rfl,h.1,h.2.1,h.2.2⟩
def Wz(w:aj):(Instr.alloc 271 true (aY #[])).run prog w=.ok w.heap.size (w.alloc (af #[I 0,aq none 0 0] 271)):=aI
def QI:271≠45:=bt
def Qd(h:IsCore w b x){g:J}(hw:fM x=some g)(aZ:g<=x.now)(aaF:∀ k,g+k<x.now->Can (replay x g k) (g+k))(av:x.now<=g+1000):aA 138 #[b.c] w (FR w b x g):=by
 have y:∀ j,b.S j->j<w.heap.size:=λj z=>h.lt z;have C:=ag (λ(W:aj) (hk:Keeps aG w W)=>sb (h.keep hk));have ys:=ag (λ(W:aj) (hk:Keeps aG w W)=>vW ((h.keep hk).fd (1-x.aN) U));have s':=hw;unfold fM fv at s';rw[s']at ys;have r':=((bb w).alloc (af #[aq none 0 0] 267)).alloc (af #[I 0] 36);have F:=cw (aX w (af #[aq none 0 0] 267)) (af #[I 0] 36);have l:=aX (w.alloc (af #[aq none 0 0] 267)) (af #[I 0] 36);rw[fH]at l;have V':=ag aaF;obtain⟨PP,w'⟩:∃ PP,FR w b x g=PP:=⟨_,rfl⟩;rw[w'];refine(gU (n:=0)).1 ?_;refine callsIn_of_wp_marks func138 rfl trivial ?_ rfl;simp only[ntmps138,hh,dy,fg,Nat.reduceAdd,Nat.reduceSub,s5,s6,tb,s8,nT,kV];gi_wp2_with (fail);generalize (w.alloc (af #[aq none 0 0] 267)).alloc (af #[I 0] 36)=bn at *;refine⟨trivial,rfl,gU.2 ((C.o _ r').mono ?_)⟩;rintro e ao ⟨rfl,aa7,N⟩;have CW:=r'.trans (nm N);have F:=(nm N).heap F id;have l:=(nm N).heap l id;clear N r';gi_wp2_with (fail);refine⟨trivial,rfl,gU.2 ((ys.out _ CW).mono ?_)⟩;rintro e aD ⟨rfl,i⟩;have F:=i.heap F id;have l:=i.heap l id;simp only[ib,pM];gi_wp2_with (fail);refine⟨trivial,rfl,gU.2 ((Qj _ _ _).mono ?_)⟩;rintro e bq ⟨rfl,G⟩;gi_wp2_with (fail);have r:bq.heap.size=aD.heap.size+3:=by rw[<-G];simp
 have L:w.heap.size+2<=aD.heap.size:=by have:=bT l;omega
 have m':Keeps aG aD bq:=by rw[<-G];exact(((Keeps.refl _ aD).alloc _).alloc _).alloc _
 have aaA:bq.heap[aD.heap.size]?=some (af #[aq none 0 0] 267 (0,0)):=by rw[<-G];exact cw (cw (aX _ _) _) _
 have aat:bq.heap[aD.heap.size+1]?=some (af #[b.c] 63 (0,0)):=by
  have:=cw (aX (aD.alloc (af #[aq none 0 0] 267)) (af #[b.c] 63)) (af #[I g] 3)
  rw[fH,G]at this;exact this
 have aau:bq.heap[aD.heap.size+2]?=some (af #[I g] 3 (0,0)):=by
  have:=aX ((aD.alloc (af #[aq none 0 0] 267)).alloc (af #[b.c] 63)) (af #[I g] 3)
  rw[fH,fH,G]at this;exact this
 have Q':=(CW.trans i).trans m';have l:=m'.heap l id;have m:=ag y;generalize aa1:aD.heap.size=X at *
 refine DG (gf:=272) (lb:=#[.pointer (some (ae (X+1+1) 0 ad)),.pointer (some (ae (X+1) 0 ad))]) rfl (enters_of func272 aI rfl)
  (encs:=λp:fz=>#[aL #[I (p.n:aa),p.cQ],I 0]) (λ_=>rfl) (FL x g) (AK b x g) (λk=>k=X\/X+4<k) b.S
  (O6 (h.keep Q') g aZ V'.out (X+2) (X+1) (bf aau rfl) (bf aat rfl) ⟨U,U⟩ ⟨λe=>AD,λe=>AD⟩ _ ⟨U,U,λj z e=>by have:=m.o _ z;omega⟩)
  (λps Y Z t R hk=>⟨t.1,t.2.keeps hk (λj z e=>by have:=m.o _ z;omega)⟩)
  xC (by rw[r];exact⟨λe=>AD,λe=>AD⟩)
  (λpre W=>vI w X b.S pre W)
  ?inv ?start
  (λpre p a' W=>∃ Y,a'={tmps:=#[.pointer (some (ae b.c 0 ad)),undef,.pointer (some (ae w 0 ad)),.pointer (some (ae (w+1) 0 ad)),I g,.bool true,.pointer (some (ae X 0 ad)),.pointer (some (ae Y 0 ad)),I 0,.pointer (some (ae b.c 0 ad)),.bool false,aY #[I g,.bool true],.pointer (some (ae b.c 0 ad)),.pointer (some (ae (b.D (1-x.aN)+4) 0 ad)),aY #[I g,.bool true],I g,.bool true,.bool true,.bool false,.pointer (some (ae b.c 0 ad)),I g,.func (.func 272) #[] #[.pointer (some (ae (X+1+1) 0 ad)),.pointer (some (ae (X+1) 0 ad))],aL #[I (p.n:aa),p.cQ],I 0,undef,undef,undef,undef,undef,undef,undef,undef],defers:=[]}/\X+5<=Y/\W.heap[Y]?=some (af #[I (p.n:aa),p.cQ] 271 (0,0))/\W.ownsRow (X+5) 45 9 p.cQ p.xs.length (b4 p.xs)/\g+pre.length<x.now/\vI w X b.S pre W)
  ?ass ?assign ?body ?done
 case inv=>
  intro pre Y Z t R hk;exact t.keep hk L m.o (λk hk=>by rw[r]at hk;omega)
 case start=>exact⟨⟨_,aaA,gx _ _ _ _⟩,λp au=>by simp at au,(m'.heap F id),l,Q'.mono λ_ _ x=>x.elim,U⟩
 case ass=>
  rintro pre p a' A cG ⟨Y,rfl,t,ab,O,y,a⟩ R hk;exact⟨Y,rfl,t,hk.heap ab U,b5 O hk (λj z e=>by have:=(O.lt j z).1;omega),y,a.keep hk L m.out a8⟩
 case assign=>
  intro l' pre p St A K aaL aay aa4 aaI aaO R aaz;obtain⟨y,_,aaQ⟩:=aaO;have a:=aay.keep aaI L m.out (λk hk=>.inl hk);have zd:=aX A (af #[I 0,aq none 0 0] 271);obtain⟨aaT,_,aaK⟩:=dQ (A.alloc (af #[I 0,aq none 0 0] 271)) 271 2 A.heap.size #[I (p.n:aa),p.cQ] _ sizeOf271 rfl rfl zd rfl;have aaC:=fb (A.alloc (af #[I 0,aq none 0 0] 271)) A.heap.size _ #[I (p.n:aa),p.cQ] 271 zd;have hd:=cN ((bb A).alloc (af #[I 0,aq none 0 0] 271)) aaK a8;generalize (A.alloc (af #[I 0,aq none 0 0] 271)).setRow A.heap.size #[I (p.n:aa),p.cQ]=aaX at *;simp only[Ai,Ag,Ah,z_,oU,rS,c8];have V:=bW aaC (bD (b5 (kQ aaQ (show X+5<=St.heap.size+1 by omega)) hd (λ_ _=>id)) (a.keep hd L m.out (λk hk=>hk.elim)));generalize p.cQ=cQ at *;gi_wp2_with (first|(refine zF (Wz A) rfl rfl ?_)|(refine zG aaT rfl rfl rfl rfl ?_));exact aaz _ _ ⟨A,rfl,U,V.o.1,V.o.2.1,y,V.o.2.2⟩ (hd.mono λ_ _ x=>x.elim)
 case body=>
  rintro l' pre p a' A aaL ⟨Y,rfl,t,ab,O,y,a⟩ R;obtain⟨i0,aaH,aaU,aaV,aaW⟩:=S0;obtain⟨v,B,d⟩:=a.row;have aaM:=gd (P:=prog) 271 2 Y 0 #[I (p.n:aa),p.cQ] _ _ isAgg271 sizeOf271 rfl ab (λj u z=>ke);have aaP:∀ u∈[I (p.n:aa),p.cQ],u.oneCell'=true:=fw.1 rfl;have aaR:rowP (pre++[p])=rowP pre++[I (p.n:aa),p.cQ]:=by simp[rowP]
  have zp:∀ q∈pre++[p],A.ownsRow (X+5) 45 9 q.cQ q.xs.length (b4 q.xs):=λq f=>by
   rcases eJ.1 f with f|f
   .exact a.lp q f
   simp at f;subst f;exact O
  have aaS:∀ q∈pre++[p],∀ j,q.cQ.ownBlock=some j->v.ownBlock≠some j:=λq f j z e=>uu d (zp q f) QI e z;have W':=jN B;have aas:=nO B;have H1:=ag B;have T':=ag a;have TS:=ag aaH;have T:=bW zp aaS;have aaG:=Gy A #[I (p.n:aa),p.cQ] 271;have aaN:=d.alloc (af #[I (p.n:aa),p.cQ] 271);have aa3:pre.length+1<=1000:=U;have aa5:p.cQ.cells=#[p.cQ]:=rfl;generalize p.cQ=cQ at *;gi_wp2_with (first|(refine DH aaM rfl rfl rfl ?_)|(gi_at_builtin;refine wpListIn_append_own _ rfl _ _ 267 rfl (X+5) 271 i0 (aL #[I 0,aq none 0 0]) 2 32 underlying267 TS.o aaU aaV aaW rfl bt _ _ _ rfl aaN (ae A 0 ad) 1 1 [I (p.n:aa),cQ] rfl rfl aaG aaP pR U b1 ?_;intro v' ao s fr _;have aaJ:Keeps (λk=>k=X\/v.ownBlock=some k) A ao:=((Keeps.refl _ A).alloc _).grown fr (λk hk=>.inl (.inr hk));obtain⟨g',sd,rfl⟩:=ownsRow_succ s;have h2:=(fr.block X b1 (λe=>xx)).trans (cw H1.o _);have aaZ:=jN h2;have aa0:=nO h2;have Q:=ag h2;clear h2 fr));have i:=aaJ.setCell (p:=ae X 0 ad) (.inl rfl) (aq (some (ae g' 0 ad)) (pre.length+1) sd);have H:=T'.o;have C:∀ k,(k=X\/v.ownBlock=some k)->X<=k:=λk e=>e.elim a8 (λe=>by have:=(d.lt k e).1;omega);have aaB:∀ k,(k=X\/v.ownBlock=some k)->k=X\/X+4<k:=λk e=>e.elim .inl (λe=>.inr (by have:=(d.lt k e).1;omega));refine⟨i.mono (λk _ e=>aaB k e),⟨⟨aq (some (ae g' 0 ad)) (pre.length+1) sd,xy,?_⟩,λq f=>b5 (T.o.1 q f) i (λj z e=>?_),i.heap H.eV (λe=>r2),i.heap H.fE (λe=>r2),cN H.cu i (λk hk e=>r2),ca H.cM i.size⟩⟩
  .rw[cx,jd,aaR];exact b5 s ((Keeps.refl (λk=>k=X) ao).setCell (p:=ae X 0 ad) rfl _) (λb ak h=>Av)
  rcases e with e|e
  .have:=((T.out.1 q f).lt j z).1;omega
  exact T.out.2 q f j z e
 rintro ps W a aax aa6 aav;obtain⟨v,B,d⟩:=a.row;have W':=jN B;have aas:=nO B;have bz:=jN a.eV;have f0:=nO a.eV;have b6:=jN a.fE;have f1:=nO a.fE;have E:=ag a;have vl:=ag aax;have Tq:=ag aav;obtain⟨A,cap,rfl,_,_⟩:=cS d;have Aw:=((Keeps.refl (λj=>j=w.heap.size\/j=w.heap.size+1) W).setCell (p:=ae w 0 ad) (.inl rfl) (aq A ps.length cap)).setCell (p:=ae (w+1) 0 ad) (.inr rfl) (I 0);have aaw:=Aw.heap Tq.o U;gi_wp2_with (fail);refine⟨aM,.inl ⟨_,_,rfl,run_takeDeferred aaw,?_⟩⟩;have aa2:bq.heap.size<W.heap.size:=U;have M:Keeps (λj=>j=w.heap.size\/j=w.heap.size+1\/j=bq.heap.size) W (((W.setCell (ae w 0 ad) (aq A ps.length cap)).setCell (ae (w+1) 0 ad) (I 0)).putObj bq.heap.size (.deferred none)):=(Aw.mono (λj _ e=>e.elim .inl (λe=>.inr (.inl e)))).putObj (.inr (.inr rfl)) _;have aaq:=(World.putObj_heap_other (o:=.deferred none) (show w.heap.size≠bq.heap.size by omega)).trans (e0 (b3 E.o.eV 0 (aq A ps.length cap)) (p:=ae (w+1) 0 ad) (show w.heap.size≠w.heap.size+1 by omega) (I 0));have aar:=(World.putObj_heap_other (o:=.deferred none) (show w.heap.size+1≠bq.heap.size by omega)).trans (b3 (e0 E.o.fE (p:=ae w 0 ad) (show w.heap.size+1≠w.heap.size by omega) (aq A ps.length cap)) 0 (I 0));have aaD:=bf (k:=0) aaq rfl;have aaE:=bf (k:=0) aar rfl;generalize ((W.setCell (ae w 0 ad) (aq A ps.length cap)).setCell (ae (w+1) 0 ad) (I 0)).putObj bq.heap.size (.deferred none)=aaY at *;refine⟨aY #[aq A ps.length cap,I 0],by simp[results,results138,asAddr,loadVar,isAgg267,isAgg36,go_sem,aaD,aaE],?_⟩;rw[<-w'];refine⟨ps,A,cap,rfl,kQ (b5 d M (λj z e=>by have:=(d.lt j z).1;omega)) U,vl.o.1,λp au=>kQ (b5 (E.o.lp p au) M (λj z e=>by have:=((E.o.lp p au).lt j z).1;omega)) U,vl.o.2.keeps M (λj z e=>by have:=m.out j z;omega),?_⟩;exact cN E.out.cu M a8
end
section
section
variable{α:Type}
def bZ(g:J->α)(m:J)(v:α):J->α:=λj=>if j=m then v else g j
def iB(g:J->α)(m:J)(v:α):bZ g m v m=v:=aE rfl
def hB(g:J->α){m j:J}(v:α)(h:j≠m):bZ g m v j=g j:=aB h
def wO{g g':J->α}{f n:J}(h:∀ j,f<=j->j<n->g j=g' j):eE g f n=eE g' f n:=by
 refine map_congr_left λi ax=>?_
 have:=pI.1 ax
 rw[h (f+i) U U]
def sI(g:J->α){f n:J}(h:f<n):eE g f n=(f,g f) :: eE g (f+1) n:=by
 obtain⟨d,rfl⟩:∃ d,n=f+1+d:=⟨n-f-1,U⟩;rw[C1 g (show f<=f+1 by omega) d,wQ g (df f),sJ g (df f)];rfl
theorem JL(g:J->α)(n m:J)(v:α)(hm:m<n):∀ d f,m=f+d->fa (eE g f n) m v=eE (bZ g m v) f n
 | 0,f,e=>by
  have e:=e;subst e;rw[sI g hm,sI _ hm,iB];unfold fa;rw[aE bx,oT aM,mW.2 λp au=>by have:=(uH au).1;simp;omega];rw[wO (g':=bZ g m v) λj h1 _=>(hB g v U).symm]
 | d+1,f,e=>by
  rw[sI g (show f<n by omega),sI _ (show f<n by omega),hB g v (show f≠m by omega)];unfold fa;rw[aB U,JL g n m v hm d (f+1) U]
def y4(g:J->α){f n m:J}(v:α)(h:f<=m)(av:m<=n):fa (eE g f n) m v=eE (bZ g m v) f (max n (m+1)):=by
 by_cases e:m=n
 .subst e;rw[show max m (m+1)=m+1 by omega,<-wP (bZ g m v) h,iB,wO λj _ h2=>(hB g v (show j≠m by omega)).symm]
 rw[JL g n m v U (m-f) f U,show max n (m+1)=n by omega]
end
theorem L0(K:ah (J×aa))(u:J->aa)(n:J):∀ d f,n=f+d->(∀ j x,f<=j->j<n->dM K j=some x->x=u j)->ju K (eE u f n)=none
 | 0,f,e,_=>by rw[sJ u iO];rfl
 | d+1,f,e,h=>by
  rw[sI u (show f<n by omega)];unfold ju;have a:=L0 K u n d (f+1) U λj x h1 h2=>h j x U h2;split
  .rename_i x b;rw[aE (h f x bx U b)];exact a
  exact a
theorem L1(K:ah (J×aa))(u:J->aa)(n g:J):∀ d f,n=f+d->ju K (eE u f n)=some g->f<=g/\g<n/\(∀ j x,f<=j->j<g->dM K j=some x->x=u j)/\∃ x,dM K g=some x/\x≠u g
 | 0,f,e,h=>by rw[sJ u iO]at h;cases h
 | d+1,f,e,h=>by
  rw[sI u (show f<n by omega)]at h;unfold ju at h;have m:=L1 K u n g d (f+1) U;split at h
  .rename_i x b;split at h
   .rename_i k;have⟨h1,h2,c,i⟩:=m h;refine⟨U,h2,λj y o l a=>?_,i⟩;by_cases e:j=f
    .subst e;rw[b]at a;cases a;exact k
    exact c j y U l a
   rename_i k;cases h;exact⟨df _,U,λj _ h1 h2=>U,x,b,k⟩
  rename_i b;obtain⟨h1,h2,c,i⟩:=m h;refine⟨U,h2,λj y o l a=>?_,i⟩;by_cases e:j=f
  .subst e;rw[b]at a;cases a
  exact c j y U l a
theorem LZ(K:ah (J×aa))(u:J->aa)(n:J):∀ d f,n=f+d->ju K (eE u f n)=none->∀ j x,f<=j->j<n->dM K j=some x->x=u j
 | 0,f,e,_=>λj _ h1 h2=>by omega
 | d+1,f,e,h=>by
  rw[sI u (show f<n by omega)]at h;unfold ju at h;have c:=LZ K u n d (f+1) U;intro j y h1 h2 a;split at h
  .rename_i x b;split at h
   .rename_i g;by_cases e:j=f
    .subst e;rw[b]at a;cases a;exact g
    exact c h j y U h2 a
   cases h
  rename_i b;by_cases e:j=f
  .subst e;rw[b]at a;cases a
  exact c h j y U h2 a
def qe(ba:J->aa)(n:J):aa:=if n=0 then 0 else ba (n-1)
def j1(ba:J->aa)(n j:J):aa:=if j<n then ba j else qe ba n
def oj(F now n:J)(ba us:J->aa):Fd:=⟨F,n,qe ba n,eE ba F n,eE us F now⟩
structure CW(x:ct)(F:J)(ba us:J->J->aa)(S:J->J->aa):al where
 e4:x.e4=F
 L:x.L=eE S F (x.now+1)
 f:∀ k,k<2->x.f k=oj F x.now (x.f k).next (ba k) (us k)
namespace CW
variable{x:ct}{F:J}{ba us:J->J->aa}{S:J->J->aa}
def congr{c cB:J->J->aa}{d:J->J->aa}(h:CW x F ba us S)(h1:∀ k,k<2->∀ j,j<(x.f k).next->ba k j=c k j)(h2:∀ k,k<2->∀ j,F<=j->j<x.now->us k j=cB k j)(g:∀ j,F<=j->j<=x.now->S j=d j):CW x F c cB d:=by
 refine⟨h.e4,by rw[h.L];exact wO λj a b=>g j a U,λk hk=>?_⟩;refine(h.f k hk).trans ?_;have e:qe (ba k) (x.f k).next=qe (c k) (x.f k).next:=by
  unfold qe;split
  .rfl
  exact h1 k hk _ U
 unfold oj;rw[wO λj _ b=>h1 k hk j b,wO λj a b=>h2 k hk j a b,e]
theorem first(h:CW x F ba us S){k:J}(hk:k<2):(x.f k).first=F:=by rw[h.f k hk];rfl
theorem K(h:CW x F ba us S){k:J}(hk:k<2):(x.f k).K=eE (ba k) F (x.f k).next:=by rw[h.f k hk];rfl
theorem cX(h:CW x F ba us S){k:J}(hk:k<2):(x.f k).cX=eE (us k) F x.now:=by rw[h.f k hk];rfl
theorem last(h:CW x F ba us S){k:J}(hk:k<2):(x.f k).last=qe (ba k) (x.f k).next:=by rw[h.f k hk];rfl
theorem dJ(h:CW x F ba us S){k:J}(hk:k<2){n:J}(av:F<=n):dJ x n k=j1 (ba k) (x.f k).next n:=by
 unfold Go.Proofs.YtalagblioepadaaGreatDoor.dJ oL j1;rw[h.K hk,h.last hk,qu];by_cases e:n<(x.f k).next
 .rw[aE ⟨av,e⟩,aE e];rfl
 rw[aB (λc=>e c.2),aB e];rfl
def st(h:CW x F ba us S){n:J}(av:F<=n)(h2:n<=x.now):hb x.L (n:aa)=some (S n):=by rw[h.L,KB,aE ⟨av,U⟩]
theorem hg(h:CW x F ba us S){n:J}(av:F<=n)(h2:n<=x.now):hg x n=S n:=by
 unfold Go.Proofs.YtalagblioepadaaGreatDoor.hg;rw[h.st av h2];rfl
def put(h:CW x F ba us S){k:J}(hk:k<2)(a:F<=(x.f k).next)(v:aa):CW (gL x k v) F (λi=>if i=k then bZ (ba k) (x.f k).next v else ba i) us S:=by
 refine⟨h.e4,h.L,λi ax=>?_⟩;unfold gL;by_cases e:i=k
 .subst e;rw[show({x with f:=eW x.f i {x.f i with next:=(x.f i).next+1,last:=v,K:=fa (x.f i).K (x.f i).next v}}:ct).f i=eW x.f i {x.f i with next:=(x.f i).next+1,last:=v,K:=fa (x.f i).K (x.f i).next v} i from rfl,rB];simp only[if_true];unfold oj qe;rw[aB U,Ep,iB,h.K hk,y4 _ v a bx,show max (x.f i).next ((x.f i).next+1)=(x.f i).next+1 by omega,h.first hk,h.cX hk]
 rw[show({x with f:=eW x.f k {x.f k with next:=(x.f k).next+1,last:=v,K:=fa (x.f k).K (x.f k).next v}}:ct).f i=eW x.f k {x.f k with next:=(x.f k).next+1,last:=v,K:=fa (x.f k).K (x.f k).next v} i from rfl,rA _ _ e];simp only[aB e];exact h.f i ax
def used(h:CW x F ba us S){n:J}(av:F<=n)(h2:n<=x.now)(a:n<F+64){k:J}(hk:k<2):pB (x.f k) n=oj F (max x.now (n+1)) (x.f k).next (ba k) (bZ (us k) n (j1 (ba k) (x.f k).next n)):=by
 have e:=h.dJ hk av;unfold Go.Proofs.YtalagblioepadaaGreatDoor.dJ at e;unfold pB sQ;rw[e,h.first hk,aE a,h.cX hk,y4 _ _ av h2];unfold oj;rw[<-h.K hk,<-h.last hk,<-h.first hk]
def V8(h:CW x F ba us S){n:J}(av:F<=n)(h2:n<x.now)(a:n<F+64):CW (jr x n) F ba (λk=>bZ (us k) n (j1 (ba k) (x.f k).next n)) (bZ S (n+1) (iL (j1 (ba 0) (x.f 0).next n) (j1 (ba 1) (x.f 1).next n) (S n))):=by
 unfold jr;rw[(h.hg av U),h.dJ U av,h.dJ (k:=1) U av];refine⟨h.e4,?_,λk hk=>?_⟩
 .show fa x.L (n+1) _=eE _ F (x.now+1);rw[h.L,y4 _ _ U U,show max (x.now+1) (n+1+1)=x.now+1 by omega]
 show(kv x n 2).f k=oj F x.now ((kv x n 2).f k).next _ _;unfold kv;simp only[aE hk];rw[h.used av U a hk,show max x.now (n+1)=x.now by omega];rfl
def step(h:CW x F ba us S)(av:F<=x.now)(a:x.now<F+64):CW {jr x x.now with now:=x.now+1} F ba (λk=>bZ (us k) x.now (j1 (ba k) (x.f k).next x.now)) (bZ S (x.now+1) (iL (j1 (ba 0) (x.f 0).next x.now) (j1 (ba 1) (x.f 1).next x.now) (S x.now))):=by
 unfold jr;rw[(h.hg av bx),h.dJ U av,h.dJ (k:=1) U av];refine⟨h.e4,?_,λk hk=>?_⟩
 .show fa x.L (x.now+1) _=eE _ F (x.now+1+1);rw[h.L,y4 _ _ U bx,show max (x.now+1) (x.now+1+1)=x.now+1+1 by omega]
 show(kv x x.now 2).f k=oj F (x.now+1) ((kv x x.now 2).f k).next _ _;unfold kv;simp only[aE hk];rw[h.used av bx a hk,show max x.now (x.now+1)=x.now+1 by omega];rfl
def cut(h:CW x F ba us S){n:J}(av:F<=n)(h2:n<=x.now)(a:∀ k,k<2->n<=(x.f k).next):CW (se x n) n ba us S:=by
 refine⟨rfl,?_,λk hk=>?_⟩
 .show(x.L.filter λp=>!decide (p.1<n))=eE S n (x.now+1);rw[h.L,uG _ av U]
 show(if k<2 then pc (x.f k) n else x.f k)=oj n x.now (if k<2 then pc (x.f k) n else x.f k).next (ba k) (us k);rw[aE hk];unfold pc oj mw;rw[h.K hk,uG _ av (a k hk),h.cX hk,uG _ av h2,h.last hk]
def DO(h:CW x F ba us S)(hm:x.aN<2)(b:F<=x.now)(aw:∀ j,F<=j->j<x.now->j<(fv x).next->us (1-x.aN) j=ba (1-x.aN) j):fM x=none:=by
 unfold fM;have e:=aw;unfold fv at e⊢;rw[h.K U,h.cX U];refine L0 _ _ _ (x.now-F) F U λj y h1 h2 a=>?_;rw[qu]at a;split at a
 .rename_i an;cases a;exact(e j h1 h2 an.2).symm
 cases a
def zM(h:CW x F ba us S)(hm:x.aN<2)(k:F<=x.now){g:J}(b:fM x=some g):F<=g/\g<x.now/\g<(fv x).next/\(∀ j,F<=j->j<g->us (1-x.aN) j=ba (1-x.aN) j)/\us (1-x.aN) g≠ba (1-x.aN) g:=by
 unfold fM fv at *;rw[h.K U,h.cX U]at b;have⟨h1,h2,e,y,a,f⟩:=L1 _ _ _ _ (x.now-F) F U b;rw[qu]at a;split at a
 .rename_i an;cases a;refine⟨h1,h2,an.2,λj d i=>?_,λc=>f c.symm⟩;exact(e j _ d i (by rw[qu,aE ⟨d,U⟩])).symm
 cases a
end CW
end
end Go.Proofs.YtalagblioepadaaGreatDoor
