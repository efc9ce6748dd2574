/- The proof, part 25. -/
import Derived.Test.YtalagblioepadaaGreatDoorZe24
import Derived.Shelf.SlicesE.Clone
namespace Go.Proofs.YtalagblioepadaaGreatDoor
set_option linter.all false
open Proofs.Tryz List Go.RowKit Go.Shelf
set_option maxRecDepth 100000
set_option maxHeartbeats 2000000
variable{ww:Prop}
def tt(h:ww:=by have:=s _ e;omega):=h
def C0(h:ww:=by have:=m.o _ e;omega):=h
def CW(h:ww:=by have:=s.o j d;omega):=h
variable{p q r:U}{base f j k m n jz nW:J}{wr:aj}
variable{w w':aj}
def EE:Go.Shelf.Ren:=⟨fun|41=>276|n=>n,fun|4=>4|22=>66|23=>45|n=>n,fun|n=>n⟩
def Lu:SlLaysE0.n41 prog EE:={
 mixed:=bc
 f41:=⟨f276.name,bs,func276.trans (c6 some bc)⟩
 t4:=underlying4
 a4:=isAgg4
 z4:=sizeOf4
 v4:=zeroValue4
 t22:=underlying66
 a22:=isAgg66
 z22:=sizeOf66
 v22:=zeroValue66}
def Lo{v:ay}{xs:ai aE}(h:w.ownsRow base 45 9 v xs.length (b0 xs))(aw:xs.length<=1000):aB 276 #[v] w λe w'=>∃ cz,e=.returned cz/\w'.ownsRow w 45 9 cz xs.length (b0 xs)/\Below w w w':=by
 rcases h.2 with⟨rfl,B⟩|⟨g,cap,l,rfl,a7,aT,an,hm,aA,aW⟩
 .refine vp;refine(AnyE.slices_Clone_nil (P:=prog) (ρ:=EE) Lu 0 0 w).mono ?_;refine mN;exact⟨_,rfl,il _ _ _ _,b9 _ _⟩
 obtain⟨k,a,m,f,i⟩:=yp;refine(AnyE.slices_Clone (P:=prog) (ρ:=EE) Lu k _ 9 72 a m f i rfl bs sizeOf45 g 0 xs.length cap (b0 xs) w (vX xs) qU I (λj u c=>?_) (tS xs)).mono ?_
 .refine xD;have d:0<xs.length:=by
   have:=(ir.1 c).1
   rw[vX]at this;omega
  exact VL
 exact VI
def ad5{bj:J}{fr:U}{v:ay}{xs:ai aE}(h:qd w base bj fr v xs):aB 328 #[bj] w λe w'=>∃ cz,e=.returned cz/\w'.ownsRow w 45 9 cz xs.length (b0 xs)/\Below w w w':=by
 have bP:=aX h.hd;have aU:=ad (Lo h.row (by have:=h.n;omega));clear h
 go_in
 go_wp2_with fail;refine aU.o.mono ?_;rintro e aq ⟨cz,rfl,h1,h2⟩;have H:=ad (bx h1 h2);clear h1 h2 aU;go_wp2;go_ret;exact⟨cz,rfl,H.o⟩
variable{bt g bj:J}{v:J->U}{fr:U}{xs:ai aE}
def ku{a:J}{e:TypeId}{cK:J}{cz:ay}{l:ai ay}(h:w.ownsRow base e cK cz n l)(al:a<=base):w.ownsRow a e cK cz n l:=by
 refine⟨h.1,?_⟩;rcases h.2 with h2|⟨g,cap,b,rfl,a7,r⟩
 .exact .inl h2
 exact .inr ⟨g,cap,b,rfl,cu al a7,r⟩
theorem ahs(h:fl w bt g bj v fr xs):(Instr.loadAt 99 g).run prog w=.ok (.agg (aQ v)) w:=
 fS 99 60 g 0 (aQ v) (h' v bj) _ isAgg99 sizeOf99 (dX v) h.bh (λj u a=>by
  have b:j<60:=by
   refine DM
   rwa [dX]at this
  rw[gM,BV v bj j b,<-dO v b];exact a)
def ud(a b fr:U)(v:J->U):J->(J->U)×ai aE
 | 0=>(v,[])
 | 1=>fw 0 a fr (v,[])
 | _=>fw 1 b fr (fw 0 a fr (v,[]))
def Kg(w:aj)(v':J->U)(xs:ai aE)(e:Ending)(w':aj):ae:=
 ∃ cz,e=aV #[.agg (aQ v'),cz,aa 0]/\w'.ownsRow w.heap.size 45 9 cz xs.length (b0 xs)/\Below w w w'
def aaK{f:U}(g':Mid 2 f r v)(ajW:0<=f/\f<=1000000)(vl:0<=r/\r<=f)(a b:U)(bg:a<=63)(aky:b<=63)(w:aj):aB 285 #[.agg (aQ v),aG #[bf a,bf b]] w (Kg w (jB a b v) (lu a b v)):=by
 have sd:=ad (Md v);rw[Nj g' ⟨ajW.1,I⟩ ⟨vl.1,I⟩]at sd;have T:=ad (Zq f I);have g:=b2 (aP w (ab (aQ v) 99)) (ab #[bf a,bf b] 101);have l:=aP (w.alloc (ab (aQ v) 99)) (ab #[bf a,bf b] 101);rw[ft]at l;have se:=kh ((w.alloc (ab (aQ v) 99)).alloc (ab #[bf a,bf b] 101));simp only[ft]at se;have p:=aP ((w.alloc (ab (aQ v) 99)).alloc (ab #[bf a,bf b] 101)) (ab (aQ bW) 99);simp only[ft]at p;have g:=b2 g (ab (aQ bW) 99);have l:=b2 l (ab (aQ bW) 99);have aj6:=(((bd w).alloc (ab (aQ v) 99)).alloc (ab #[bf a,bf b] 101)).alloc (ab (aQ bW) 99);have aj1:=ks g;have ys:=ad g;have zd:=ad l;have zp:=ad p;have b5:=ad g';have fo:=ad ajW;have fr:=ad vl;have mv:=ad g'.f0;obtain⟨P,u⟩:∃ P,Kg w (jB a b v) (lu a b v)=P:=⟨_,rfl⟩;rw[u];have akb:=ad u;clear g l p g' u vl
 go_in
 go_wp2_with first|refine eL se rfl rfl ?_|refine dg aj1 rfl rfl rfl ?_
 generalize ((w.alloc (ab (aQ v) 99)).alloc (ab #[bf a,bf b] 101)).alloc (ab (aQ bW) 99)=bo at *;refine aS (sd.o _) λaq ajT=>?_;have Y:=(bd bo).ga ajT;have aj7:=aj6.trans Y;have g:=Y.heap ys.o id;have l:=Y.heap zd.o id;have p:=Y.heap zp.o id;clear ys zd zp aj6 Y ajT se aj1;have bw:aq.cell? (ah w 0)=some (aa f):=by
  rw[<-mv.o];exact bb g (dO v I)
 have i0:=aX l;have hne:(f == 1073741824)=false:=by rw[ep];omega
 have lL:decide (63<b)=false:=cN I;go_wp2_with fail;refine aS (T.o _) λaF hd=>?_;have Z:ag aH aq aF:=by rw[<-hd];exact(ag.refl _ aq).alloc _
 have V:aF.heap[aq.heap.size]?=some (ab #[aa f,au none 0 0] 476 (0,0)):=by rw[<-hd];exact aP aq _
 have akq:aF.heap.size=aq.heap.size+1:=by rw[<-hd];simp
 have akz:=bZ p;have aj2:=ks (Z.heap g id);have ajU:=afU v aq.heap.size
 have ajS:fl (aF.alloc (ab (h' v aq) 458)) aq aF aq v f []:=
  ⟨aP aF _,⟨au none 0 0,⟨b2 V _,il _ _ _ _,by simp[Value.ownBlock],Pairwise.nil,aM,aM⟩,by simp[Value.ownBlock]⟩,I,I,dm _⟩
 have aka:=ad (b2 (Z.heap l id) (ab (h' v aq) 458));have akf:=ad (b2 (Z.heap p id) (ab (h' v aq) 458));have TS:=ad ((aj7.trans Z).alloc (ab (h' v aq) 458));have akc:=ad ajS;clear ajS g l p bw i0 V akq Z aj7 hd lL hne sd T;simp only;go_wp2_with first|refine dg aj2 rfl rfl rfl ?_|refine uO (ajU _) rfl rfl rfl rfl ?_
 clear aj2 ajU;generalize aF.alloc (ab (h' v aq) 458)=br at *;generalize aF.heap.size=h7 at *;generalize aq.heap.size=c at *;go_loopg [47] 2 (λm' i wr=>∃ k:J,m'=2-k/\k<=2/\i=aa k/\cP br c h7 c f 2 0 0 (ud a b f v k).1 (ud a b f v k).2 wr)
 case atStart=>exact⟨0,rfl,I,rfl,akc.o,ag.refl _ _,b5.o.lim ⟨fo.o.1,by have:=fo.o.2;omega⟩ ⟨fr.o.1,by have:=fr.o.2;have:=fo.o.2;omega⟩⟩
 obtain⟨k,a7,hk,rfl,aU⟩:=hrel;have ajY:=aU.bF.heap aka.o (show ¬ c<=w.heap.size+1 by omega);have i0:=aX ajY;clear ajY;by_cases A:k<2
 .have akk:k=0\/k=1:=I;rcases akk with rfl|rfl
  .have u:=ad (show aB 324 #[h7,aa 0,bf a] wr _ from O8 aU 0 I a);refine Uc;go_roundg 1
   case rel=>exact⟨1,rfl,I,cT,a'.o⟩
   omega
  have u:=ad (show aB 324 #[h7,aa 1,bf b] wr _ from O8 aU 1 I b);refine Uc;go_roundg 0
  case rel=>exact⟨2,rfl,I,cT,a'.o⟩
  omega
 obtain rfl:k=2:=I;clear i0;have T':=ad (agQ aU);clear aU;refine aK;refine aS T'.o λQ y=>?_;have F:Mid 2 f r (jO f (ud a b f v 2)).1:=Fu (wE (wE b5.o 0 I a f []) 1 I b f _) f _;have V':stepG a b f v=kc f (hM f (jO f (ud a b f v 2)) 6):=rfl;have Q':=ad V';change cP br c h7 c f 2 0 0 (jO f (ud a b f v 2)).1 (jO f (ud a b f v 2)).2 Q at y;clear V' T';generalize jO f (ud a b f v 2)=fF at *;have a':=ad y;refine zU;go_loopg [59] 6 (λm' i wr=>∃ k:J,m'=6-k/\k<=6/\i=aa k/\cP br c h7 c f (2+k) 0 0 (hM f fF k).1 (hM f fF k).2 wr)
 case atStart=>exact⟨0,rfl,I,rfl,a'.o⟩
 obtain⟨k,a7,hk,rfl,aU⟩:=hrel;clear a';have mk:=Bq G.o f k hk;by_cases A:k<6
 .have N:=aU.cellS k A 4 I;refine ajx;replace mk:Mid (2+k) f r d:=mk;replace aU:cP br c h7 c f (2+k) 0 0 d aj_ wr:=aU;replace N:wr.cell? (ah h7 (24+k*6+4))=some (aa (d (24+k*6+4))):=N;unfold nt at n;dsimp only at n;have ajV:(2:U)+k+1=2+((k+1:J):U):=I;by_cases D:d (24+k*6+4)=0
  .rw[aD D]at n;have l':=ad (aU.mono (show(2:U)+k<=2+((k+1:J):U)by omega));have w':=ad n;clear aU n mk;refine ed;exact ajv
  rw[az D]at n;have v':=(mk.pN k A).resolve_left (λaki=>D (aki 4 I));have akm:1<=d (24+k*6+5)/\d (24+k*6+5)<=40:=v'.2.2.2.2.2;have aj0:1<=d (24+k*6+4)/\d (24+k*6+4)<=2:=v'.2.2.2.2.1;have ajX:∀ o,ea o->-50<=d (o+5):=λo ar=>by
   have:0<=d (o+5)/\d (o+5)<=3:=(mk.pl o ar).ao
   omega
  have s:=ad (agS aU k A I aj0 ajX I);rw[ajV]at s;have w':=ad n;have akB:(d (24+k*6+4) == 0)=false:=by rw[ep];exact D
  have akA:decide (d (24+k*6+4)=0)=false:=cN D;clear aU n mk v' ajV akm aj0 ajX;refine aK;refine aS s.o λL C=>?_;generalize ll k f (d,aj_)=t at *;have⟨akh,aks,aku⟩:=t;replace C:cP br c h7 c f (2+((k+1:J):U)) 0 0 aks aku L:=C;clear s N;cases akh
  .obtain⟨S,ajR⟩:=C.row 96 (24+k*6) 6 #[af 0,af 0,af 0,af 0,aa 0,aa 0] (λ_=>0) sizeOf96 rfl I (λq X=>by
    rw[Gs 0 0 0 0 0 0 k A q X]
    congr 2
    match q,X with
    | 0,_=>rfl
    | 1,_=>rfl
    | 2,_=>rfl
    | 3,_=>rfl
    | 4,_=>rfl
    | 5,_=>rfl) (C.lim.row _ 6 _ λq X=>by
    rw[az I,(qv (2+((k+1:J):U)) 0 k A q X).1,(qv (2+((k+1:J):U)) 0 k A q X).2];split<;>omega)
   have l':=ad ajR;clear ajR C;refine Dx;clear S;generalize World.setRow _ _ _=H at *;exact Tj
  have l':=ad C;refine qW;exact Tj
 obtain rfl:k=6:=I;have T:=ad (agU aU mk.f3 (by rw[mk.f2];exact⟨fr.o.1,by have:=fr.o.2;have:=fo.o.2;omega⟩) I);obtain⟨r',m6,ako,akp⟩:=Ni mk f (hM f fF 6).2;change Mid 2 f r' (kc f (hM f fF 6)).1 at m6;clear aU mk;refine aK;refine aS T.o λL C=>?_;change cP br c h7 c f (2+((6:J):U)) 0 0 (kc f (hM f fF 6)).1 (kc f (hM f fF 6)).2 L at C;clear T;have akd:=ad (show jB a b v=bn (kc f (hM f fF 6)).1 0 (f+1)by unfold jB;rw[mv.o,Q'.o]);have aj':=ad (show lu a b v=(kc f (hM f fF 6)).2 by unfold lu;rw[mv.o,Q'.o]);generalize kc f (hM f fF 6)=jz at *;obtain⟨v6,ib⟩:=jz;replace C:cP br c h7 c f (2+((6:J):U)) 0 0 v6 ib L:=C;have aj5:v6 0=f:=m6.f0;have akv:L.cell? (ah h7 0)=some (aa f):=by rw[<-aj5];exact C.st.cell 0 I .i64 rfl
 have g0:=C.st.free 0;have Tq:=ad (C.eR 0 I .i64 rfl (f+1) (by show 0<=f+1/\f+1<=4294967295;omega));clear C m6 aj5 ako akp;refine aK;have gf:=Tq.o;generalize L.setCell _ _=H at *;clear Tq akv g0;generalize akr:bn v6 0 (f+1)=m at *;clear akr;have s:fl H.drew c h7 c m f ib:=gf.st.keep (ag.refl _ H).drew;have akl:=TS.o.trans (bd br);have lb:ag (λj=>w.heap.size<=j) w H.drew:=((TS.o.mono λ_ _ x=>x.elim).trans (gf.bF.mono λj _ ajZ=>I)).trans (ag.refl _ H).drew;have aj9:=(bd H).drew.heap (gf.bF.heap akf.o (show ¬ c<=w.heap.size+1+1 by omega)) id;obtain⟨cz,V,_⟩:=s.yJ;have akj:=ad (ad5 V);have M:∀ W,(∃ x:bA (λW=>fl W c h7 c m f ib),W=x.to)->(Instr.loadAt 99 h7).run prog W=.ok (.agg (aQ m)) W:=by
  rintro W ⟨x,rfl⟩;exact ahs x.held
 have aj3:∀ W,fl W c h7 c m f ib->∀ W',ag (λj=>j=w.heap.size+1+1) W W'->fl W' c h7 c m f ib:=λW h W' hk=>h.keeps hk a1;have akg:=ad aj3;clear gf V akl aj3;refine cS 9 ?_;refine cJ (λW=>fl W c h7 c m f ib) (.range 9) 0 9 ?_;refine pz (s) (.range 5) 4 λhne=>?_;refine xx;refine eK 5 λK E=>?_;go_simp;refine akj.out.mono ?_;rintro e akt ⟨aj8,rfl,vs,al⟩;refine sj;have z:=s.keep R;refine vq;obtain⟨S,akn,s'⟩:=dT akt 99 60 (w.heap.size+1+1) (aQ m) _ sizeOf99 (dX _) (dX _) (R.heap aj9 id) (fJ.2 (oD m));have ps:=akg.o _ z _ s';have hfin:=(((lb.trans (R.mono λ_ _ x=>x.elim)).trans (s'.mono λj _ e=>by rw[e];omega)).below (B:=w.heap.size) bu a1);have aj4:=ku (b7 vs s' (λj ajZ e=>by
  have h1:=(vs.lt j ajZ).1;have h2:=lb.size;have akx:=bZ aj9;omega)) (show w.heap.size<=H.drew.heap.size from lb.size)
 have ake:=bN aj4 hfin;clear hfin aj4 vs al R lb;refine sT 6 ps (l3 rfl rfl rfl S) ?_;refine p';refine hG 7 ps ?_;refine iV 8 ps ?_;go_wp2;rw[<-akb.o,akd.o,aj'.o];refine dj (v:=aV #[.agg (aQ m),aj8,aa 0]) akn ?_;exact⟨aj8,rfl,ake.o⟩
variable{b:hs}{x:cO}
def ef(x:cO)(n j:J):U:=pR (x.f j).K n (x.f j).last
structure ss(w:aj)(b:hs)(x:cO)(v:J->U)(nW jz:J)(p q:U)(wr:aj):ae where
 co:c5 wr b x
 bj:wr.heap[w.heap.size]?=some (ab #[aa 0,au none 0 0] 271 (0,0))
 st:wr.heap[jz]?=some (ab (aQ v) 99 (0,0))
 cc:wr.heap[nW]?=some (ab #[bf p,bf q] 101 (0,0))
 bF:ag b.S w wr
 sP:w.heap.size<jz
 yv:w.heap.size<nW
 ne:jz≠nW
theorem ss.pU{v:J->U}{aF:aj}{eM:cO}(a:∀ j,b.S j->j<w.heap.size)(h:ss w b x v nW jz p q wr)(ak:c5 aF b eM)(hk:ag b.S wr aF):ss w b eM v nW jz p q aF:=
 ⟨ak,hk.heap h.bj (λe=>by have:=a _ e;omega),hk.heap h.st (λe=>by have:=a _ e;have:=h.sP;omega),hk.heap h.cc (λe=>by have:=a _ e;have:=h.yv;omega),h.bF.trans hk,h.sP,h.yv,h.ne⟩
def ss.OY{v:J->U}{lX a u:U}(d:∀ j,b.S j->j<w.heap.size)(h:ss w b x v nW jz p q wr)(k:J)(hk:(#[bf p,bf q]:a6 ay).setIfInBounds k (bf u)=#[bf lX,bf a]):ss w b x v nW jz lX a (wr.setCell (ah nW k) (bf u)):=by
 have aA:=(ag.refl (λj=>j=nW) wr).setCell (p:=ah nW k) rfl (bf u);refine aju;rw[bX h.cc,hk]
def Bw(x:cO)(n:J)(v:J->U):cO:={ly x n 2 with L:=fR x.L (n+1) v}
def x1(w:aj)(b:hs)(eM:cO)(n:J)(xs:ai aE)(e:Ending)(w':aj):ae:=
 (∃ A cap,e=aV #[aG #[aa (n:U),au A xs.length cap],aa 0]/\w'.ownsRow (w.heap.size+1) 45 9 (au A xs.length cap) xs.length (b0 xs))/\c5 w' b eM/\ag b.S w w'
def K2(h:c5 w b x)(n:J){v:J->U}(ajY:h_ x.L (n:U)=some v)(ajZ:Mid 2 n r v)(aj9:0<=r/\r<=n)(aw:n<=500000)(a_:∀ j,j<2->ef x n j<=63)(aj3:∀ j,j<2->(x.f j).first<=n)(aj4:gB x.fG 81 ((n+1:J):U)):aB 218 #[b.c,aa (n:U)] w (x1 w b (Bw x n (jB (ef x n 0) (ef x n 1) v)) n (lu (ef x n 0) (ef x n 1) v)):=by
 have z:∀ j,b.S j->j<w.heap.size:=λj d=>h.lt d;have m':=(bd w).alloc (ab #[aa 0,au none 0 0] 271);have T':=aP w (ab #[aa 0,au none 0 0] 271);have akh:(w.alloc (ab #[aa 0,au none 0 0] 271)).heap.size=w.heap.size+1:=aM;have lb:=h.keep m';have Z:=ad (OH lb.st (n:U) I);rw[ajY]at Z;simp only[jH,vd]at Z;have akb:=lb.eI;have akl:=AP;have akm:=AQ;have aj1:=ad (aaK ajZ I aj9 (ef x n 0) (ef x n 1) (a_ 0 I) (a_ 1 I));have r':=ad lb;have s:=ad z;have ajW:=ad aj3;have akj:IntKind.i64.wrap ((n:U)+1)=((n+1:J):U):=by rw[show((n+1:J):U)=(n:U)+1 by omega];exact e0 _ I
 generalize aki:jB (ef x n 0) (ef x n 1) v=H at *;generalize akk:lu (ef x n 0) (ef x n 1) v=xs at *;obtain⟨PP,mv⟩:∃ PP,x1 w b (Bw x n H) n xs=PP:=⟨_,rfl⟩;rw[mv];have ajV:=ad mv;clear mv;have ys:ef x n 0=pR (x.f 0).K n (x.f 0).last:=rfl;have zd:ef x n 1=pR (x.f 1).K n (x.f 1).last:=rfl;generalize ef x n 0=p at *;generalize ef x n 1=q at *;have se:=ad ys;have s':=ad zd;clear ys zd
 go_in
 go_wp2_with fail;generalize w.alloc (ab #[aa 0,au none 0 0] 271)=bo at *;refine aS Z.o λaq R=>?_;have P:=kh aq;have G:=aP aq (ab (aQ bW) 99);have⟨F,_,zp⟩:=dT (aq.alloc (ab (aQ bW) 99)) 99 60 aq (aQ v) _ sizeOf99 (dX _) (dX _) G (fJ.2 (oD v));have ax:=fb _ aq _ (aQ v) 99 G;have ake:=R.size;have bK:=((ag.refl _ aq).alloc _).trans zp;have V':=bK.heap (R.heap T' id) I;have Q:=c1 (m'.trans R) bK a1;have h2:=(r'.o.keep R).keeps bK (λj d e=>CW)
 have vl:ss w b (ly x n 0) v ((aq.alloc (ab (aQ bW) 99)).setRow aq (aQ v)).heap.size aq 0 0 (((aq.alloc (ab (aQ bW) 99)).setRow aq (aQ v)).alloc (ab #[bf 0,bf 0] 101)):=
  ⟨by rw[aiz];exact h2.keep ((ag.refl _ _).alloc _),b2 V' _,b2 ax _,aP _ _,mr (Q.alloc _),I,by have:=Q.size;have:=bZ ax;omega,by have:=bZ ax;omega⟩
 have z4:=h2.mY (k:=0) I;have z5:=h2.mY (k:=1) I;have aj2:=bZ h2.head;have sd:=ad vl;clear vl h2 Q V' bK ax zp G T' m' r' Z akb R;generalize (aq.alloc (ab (aQ bW) 99)).setRow aq (aQ v)=aF at *;go_wp2_with first|refine eL P rfl rfl ?_|refine c' F rfl rfl rfl rfl ?_
 clear z4 z5 aj2 P F;generalize aF.heap.size=nW at *;generalize aF.alloc (ab #[bf 0,bf 0] 101)=br at *;generalize aq.heap.size=jz at *;go_loopg [31] 2 (λg i wr=>∃ j:J,g=2-j/\j<=2/\i=aa j/\ss w b (ly x n j) v nW jz (if 0<j then p else 0) (if 1<j then q else 0) wr)
 case atStart=>exact⟨0,rfl,I,rfl,sd.o⟩
 obtain⟨j,a7,d,rfl,aU⟩:=hrel;clear sd;by_cases z:j<2
 .have D:(ly x n j).f j=x.f j:=by simp[ly]
  have N:=aU.co.fd j z;refine ed;have C:=ad (ZP N n (n:U) rfl ⟨ajW.o j z,I⟩);have Tq:(x.f j).next<=1000000:=by have:=aU.co.eZ j z;rwa [D]at this
  clear D N;have aj5:j=0\/j=1:=I;rcases aj5 with rfl|rfl
  .rw[<-se.o]at C;refine tD;rintro m ⟨gf,X⟩;have hfin:=aU.co.feed z (y:=qH (x.f 0) n) (by unfold qH;rw[<-se.o];exact gf) X Tq;refine SK;have g':=l.OY (u:=p) s.o 0 rfl;clear l;simp only;exact TV
  rw[<-s'.o]at C;refine tD;rintro m ⟨gf,X⟩;have hfin:=aU.co.feed z (y:=qH (x.f 1) n) (by unfold qH;rw[<-s'.o];exact gf) X Tq;refine SK;have g':=l.OY (u:=q) s.o 1 rfl;clear l;simp only;exact TW
 obtain rfl:j=2:=I;have Q':=ks aU.st;have i0:=aX aU.cc;go_wp2_with refine dg Q' rfl rfl rfl ?_
 refine(aj1.out _).mono ?_;rintro e m ⟨cz,rfl,ar,v'⟩;refine o7;have aj_:=bZ aU.bj;have akf:=ar.lt;have ps:=(bd wr).ga v';have l:=aU.pU s.o (aU.co.keep ps) (mr ps);have P:=kh m;have G:=aP m (ab (aQ bW) 99);obtain⟨F,_,ajS⟩:=dT (m.alloc (ab (aQ bW) 99)) 99 60 m (aQ H) _ sizeOf99 (dX _) (dX _) G (fJ.2 (oD H));have ax:=fb _ m _ (aQ H) 99 G;have V:=((ag.refl _ m).alloc _).trans ajS;have Y:=l.co.keeps V (λj d e=>by have:=l.co.lt d;omega);have W':=V.heap l.bj (by have:=bZ l.bj;omega);have Q:=l.bF.trans ((c1 (ag.refl b.S m) V a1));have aj7:∀ j,b.S j->j≠m.heap.size:=λj d=>by have:=l.co.lt d;omega
 have fo:=b7 ar V (λj d e=>by have:=(ar.lt j d).2;omega);have akd:=s.o b.B (.inr (.inr (.inr (.inr rfl))));have akg:w.heap.size≠m.heap.size:=by have:=bZ l.bj;omega
 clear aU l v' ps G ajS V Q' i0;simp only;refine IF;clear P F;generalize (m.alloc (ab (aQ bW) 99)).setRow m (aQ H)=M at *;have TS:=Y.ok;have ajX:=aj7 b.B (.inr (.inr (.inr (.inr rfl))));have akc:=s.o b.B (.inr (.inr (.inr (.inr rfl))));have aj':=lQ (S:=λj=>j=b.B) (w:=M.drew) Y.eI TS.Ee;have ds:∀ W,(∃ x:ie (λj=>j=b.B) M.drew,W=x.to)->(Instr.loadAt 99 m).run prog W=.ok (.agg (aQ H)) W:=by
  rintro W ⟨x,rfl⟩;exact ks (x.keeps.heap (a:=M.drew) ax (λe=>ajX e.symm))
 have l':=Y.keep (ag.refl _ M).drew;have aj0:=ad (OI l'.st (n+1) ((n+1:J):U) rfl aj4 H);refine cS 9 ?_;refine rq (λj=>j=b.B) (.range 7) [7,8] 0 ?_;refine SG;refine aS aj0.o ?_;rintro aka ⟨vs,t⟩;refine DP;refine qq (dB (t)) ?_;refine kt ?_;have hfin:=l'.w7 vs (t.mono λ_ _ e=>.inr e);have a':=t.heap (a:=M.drew) W' I;have ajU:=(Q.trans ((bd M).drew.mono λ_ _ x=>x.elim)).trans (t.mono (T:=b.S) λ_ _ e=>.inr (.inr (.inr (.inr e))));have g0:=bV a';have bw:=aX a';have aj8:=jq a' (aa (n:U)) (au A xs.length cap);have fr:=((ag.refl (λj=>j=w) aka).setCell (p:=ah w 0) rfl (aa (n:U))).setCell (p:=ah w 1) rfl (au A xs.length cap);have w':=hfin.keeps fr (λj d e=>CW);have ajT:=c1 ajU fr a1;have ajR:=ku (b7 (b7 (b7 fo (bd M).drew (λ_ _=>id)) t (λj d e=>by have:=(fo.lt j d).1;omega)) fr (λj d e=>by have:=(fo.lt j d).1;omega)) (show w.heap.size+1<=wr.heap.size from aj_);have hd:=bN ajR (bx w' ajT);clear hfin w' vs t l' Y aj' ds W' a' ajU Q fr TS fo ajR ar ajT;go_wp2;have aj6:=kJ aj8;rw[<-ajV.o];refine dj (v:=aV #[aG #[aa (n:U),au A xs.length cap],aa 0]) aj6 ?_;exact⟨⟨A,cap,rfl,hd.o.1⟩,hd.o.2.1,hd.o.2.2⟩
def Po(x:cO)(v:J->U):cO:={Bw x x.now v with now:=x.now+1}
def YA(h:c5 w b x){v:J->U}(sd:hc x=none)(l':kO x=false)(ys:x.now<(x.f x.aL).next)(hd:h_ x.L (x.now:U)=some v)(P:Mid 2 x.now r v)(s':0<=r/\r<=x.now)(aw:x.now<=500000)(a_:∀ j,j<2->ef x x.now j<=63)(lb:∀ j,j<2->(x.f j).first<=x.now)(mv:gB x.fG 81 ((x.now+1:J):U)):aB 146 #[b.c] w (x1 w b (Po x (jB (ef x x.now 0) (ef x x.now 1) v)) x.now (lu (ef x x.now 0) (ef x x.now 1) v)):=by
 obtain⟨N,R⟩:∃ N,x1 w b (Po x (jB (ef x x.now 0) (ef x x.now 1) v)) x.now (lu (ef x x.now 0) (ef x x.now 1) v)=N:=⟨_,rfl⟩;rw[R];have ps:∀ j,b.S j->j<w.heap.size:=λj d=>h.lt d;have V:=ad (λ(W:aj) (hk:ag aH w W)=>AO ((h.keep hk).fd (1-x.aL) I));have K:=sd;unfold hc gK at K;rw[K]at V;have E:=(bd w).alloc (ab #[aa 0,au none 0 0] 271);have X:=aP w (ab #[aa 0,au none 0 0] 271);have s:=ad ps
 go_in
 go_wp2_with fail;generalize w.alloc (ab #[aa 0,au none 0 0] 271)=bo at *;refine aS (((λ(W:aj) (hk:ag aH w W)=>vU (h.keep hk))) _ E) ?_;rintro aq ⟨bI,D⟩;have F:=E.trans (oA D);have Y:=(oA D).heap X id;clear D X E;go_wp2_with fail;refine aS (V.out _ F) λaF B=>?_;have bK:=F.trans B;have Z:=B.heap Y id;have h2:=h.keep bK;clear B Y F;simp only[tm,r6];have i:=ad (λn=>AE (h2.drew n));rw[l']at i;have y:=ad (λn=>ya (h2.drew n));have z:=ad (λn=>sK ((h2.drew n).fd x.aL h.aL));have dv:=h2.dv;go_wp2_with fail;go_quiet (first|(go_at_call 216;first|exact Calls.quiet_of (i.o _)|exact ke (i.o _))|(go_at_call 56;first|exact Calls.quiet_of (y.o _)|exact ke (y.o _))|(go_at_call 49;first|exact Calls.quiet_of (oJ (z.o _))|exact ke (oJ (z.o _))));have t:=h2.drew nq;have fr:=bK.drewN nq;have C:=((bd aF).drewN nq).heap Z id;generalize aF.drewN nq=br at *;clear h2 bK Z dv i y z;have dv:=t.dv;have Q:=ad (K2 t x.now hd P s' aw a_ lb mv);have r':=bZ C;clear t;go_wp2_with fail;refine Q.o.mono ?_;rintro e H ⟨⟨A,cap,rfl,l⟩,a,G⟩;have M:=R;have g':=ad M;clear M;generalize vs:lu (ef x x.now 0) (ef x x.now 1) v=xs at *;generalize vl:jB (ef x x.now 0) (ef x x.now 1) v=Tq at *;clear vs vl P;have g:=G.heap C (λe=>by have:=s.o _ e;omega);clear Q C dv;have dv:H.cell? (ah b.c 7)=some (aa (x.now:U)):=a.dv;have g7:=bV a.head;have v':=bZ a.head;have Q':IntKind.i64.wrap ((x.now:U)+1)=(x.now:U)+1:=e0 _ I;have g0:=bV g;have bw:=aX g;have zd:=bZ g;have u:=a.agK (x.now+1) I;rw[show((x.now+1:J):U)=(x.now:U)+1 by omega]at u;have k:=(ag.refl (λj=>j=b.c) H).setCell (p:=ah b.c 7) rfl (aa ((x.now:U)+1));have w':=s.o b.c (.inl rfl);have a':=k.heap g I;have se:=b2 (jq a' (aa (x.now:U)) (au A xs.length cap)) (ab #[aa (x.now:U),au A xs.length cap] 271);have m:=(((ag.refl (λj=>j=w) (H.setCell (ah b.c 7) (aa ((x.now:U)+1)))).setCell (p:=ah w 0) rfl (aa (x.now:U))).setCell (p:=ah w 1) rfl (au A xs.length cap)).alloc (ab #[aa (x.now:U),au A xs.length cap] 271);have O:=u.keeps m (λj d e=>CW);have gf:=c1 ((fr.mono (T:=b.S) λ_ _ x=>x.elim).trans (G.trans (k.mono (T:=b.S) λ_ _ e=>.inl e))) m a1;have zp:=r';have fo:=ku (b7 (b7 l k (λj d e=>by have:=(l.lt j d).1;omega)) m (λj d e=>by have:=(l.lt j d).1;omega)) (show w.heap.size+1<=br.heap.size+1 by omega);have q:=bN fo (bx O gf);clear a u O k a' m G fr g l fo gf;simp only;go_wp2;have m':=kJ se;rw[<-g'.o];refine dj (v:=aV #[aG #[aa (x.now:U),au A xs.length cap],aa 0]) m' ?_;exact⟨⟨A,cap,rfl,q.o.1⟩,q.o.2.1,q.o.2.2⟩
def YB(h:c5 w b x)(y:hc x=none)(t:kO x=true):aB 146 #[b.c] w λe w'=>e=aV #[aG #[aa 0,au none 0 0],aa 9]/\ag aH w w':=by
 have m:=ad (λ(W:aj) (hk:ag aH w W)=>AO ((h.keep hk).fd (1-x.aL) I));have i:=y;unfold hc gK at i;rw[i]at m;have g:=(bd w).alloc (ab #[aa 0,au none 0 0] 271);have r:=aP w (ab #[aa 0,au none 0 0] 271)
 go_in
 go_wp2_with fail;generalize w.alloc (ab #[aa 0,au none 0 0] 271)=bo at *;refine aS (((λ(W:aj) (hk:ag aH w W)=>vU (h.keep hk))) _ g) ?_;rintro aq ⟨bI,f⟩;have s:=g.trans (oA f);have z:=(oA f).heap r id;clear f r g;go_wp2_with fail;refine aS (m.out _ s) λaF q=>?_;have bK:=s.trans q;have h2:=h.keep bK;simp only[tm,r6];have a:=ad (λn=>AE (h2.drew n));rw[t]at a;have k:=ad (λn=>ya (h2.drew n));have l:=ad (λn=>sK ((h2.drew n).fd x.aL h.aL));go_wp2_with fail;go_quiet (first|(go_at_call 216;first|exact Calls.quiet_of (a.o _)|exact ke (a.o _))|(go_at_call 56;first|exact Calls.quiet_of (k.o _)|exact ke (k.o _))|(go_at_call 49;first|exact Calls.quiet_of (oJ (l.o _))|exact ke (oJ (l.o _))));have A:=bK.drewN nq;have d:=((bd aF).drewN nq).heap (q.heap z id) id;generalize aF.drewN nq=br at *;have g0:=bV d;have bw:=aX d;have C:=((ag.refl (λj=>j=w) br).setCell (p:=ah w 0) rfl (aa 0)).setCell (p:=ah w 1) rfl (au none 0 0);have B:=c1 A C a1;go_wp2;have u:=kJ (jq d (aa 0) (au none 0 0));refine dj (v:=aV #[aG #[aa 0,au none 0 0],aa 9]) u ?_;exact⟨rfl,B⟩
def Yx(h:c5 w b x)(v:U)(D:kO x=true):aB 144 #[b.c,bf v] w λe w'=>e=aV #[aa 0,aa 9]/\ag aH w w':=by
 have d:=ad (λ(W:aj) (hk:ag aH w W)=>sK ((h.keep hk).fd x.aL h.aL));have N:=ad (λ(W:aj) (hk:ag aH w W)=>AE (h.keep hk));refine ed;generalize (x.f x.aL).next=eZ at *;refine cg;refine aS (ya h) ?_;rintro aq ⟨bI,C⟩;have a:=oA C;refine qW;refine bJ (d.out _ a) ?_;refine aK;refine aS (N.out _ a) ?_;rintro aF ⟨i,g⟩;have y:=a.trans (oA g);clear g a d N;go_wp2;go_ret2;exact o8
section
attribute [local go_sem] Oper.semAt_some
variable{w w':aj}{b:hs}{x:cO}
structure gu where
 n:J
 A:cr Addr
 cap:J
 xs:ai aE
def gu.cz(p:gu):ay:=au p.A p.xs.length p.cap
def gu.key(p:gu):J×ai aE:=(p.n,p.xs)
def ia(x:cO)(n:J):J->U:=(h_ x.L (n:U)).getD bW
def kg(x:cO)(n:J):cO:=Bw x n (jB (ef x n 0) (ef x n 1) (ia x n))
def jk(x:cO)(n:J):ai aE:=lu (ef x n 0) (ef x n 1) (ia x n)
def replay(x:cO)(g:J):J->cO
 | 0=>x
 | k+1=>kg (replay x g k) (g+k)
def nT(x:cO)(g k:J):ai (J×ai aE):=(range k).map λj=>(g+j,jk (replay x g j) (g+j))
def adY(x:cO)(g k:J):nT x g (k+1)=nT x g k++[(g+k,jk (replay x g k) (g+k))]:=by
 unfold nT;rw[th,k3];rfl
structure Can(x:cO)(n:J):ae where
 L:h_ x.L (n:U)=some (ia x n)
 st:∃ r,Mid 2 n r (ia x n)/\0<=r/\r<=n
 top:n<=500000
 cc:∀ j,j<2->ef x n j<=63
 LD:∀ j,j<2->(x.f j).first<=n
 w7:gB x.fG 81 ((n+1:J):U)
def YF(h:c5 w b x)(an:Can x n):aB 218 #[b.c,aa (n:U)] w (x1 w b (kg x n) n (jk x n)):=by
 have⟨r,a,d⟩:=an.st;exact K2 h n an.L a d an.top an.cc an.LD an.w7
theorem Oa(x:cO)(g:J):∀ k,(replay x g k).now=x.now
 | 0=>rfl
 | k+1=>Oa x g k
def YE(a:Addr)(n:U)(w:aj):aB 209 #[.pointer (some a),aa n] w λe w'=>
  e=.returned (.func (.func 272) #[] #[bM (w+1),w.heap.size])/\(w.alloc (ab #[.pointer (some a)] 63)).alloc (ab #[aa n] 3)=w':=by
 go_in
 go_wp2;go_ret;exact⟨rfl,rfl⟩
def J6(x:cO)(g:J)(s:J)(pre:ai gu)(p:gu)(W:aj):ae:=
 g+pre.length<x.now/\p.key=(g+pre.length,jk (replay x g pre.length) (g+pre.length))/\W.ownsRow (s+1) 45 9 p.cz p.xs.length (b0 p.xs)
def D0(b:hs)(x:cO)(g:J)(ps:ai gu)(W:aj):ae:=ps.map gu.key=nT x g (x.now-g)/\c5 W b (replay x g (x.now-g))
def Xp(h:c5 w b x)(g:J)(a7:g<=x.now)(a':∀ k,g+k<x.now->Can (replay x g k) (g+k))(f a:J)(hd:w.cell? (ah f 0)=some (aa (g:U)))(an:w.cell? (ah a 0)=some (bM b.c))(D:f<w.heap.size/\a<w.heap.size)(hne:¬ b.S f/\¬ b.S a)(r:J->ae)(H:¬ r f/\¬ r a/\∀ j,b.S j->¬ r j):vN prog 272 #[f,a] (λp:gu=>#[aG #[aa (p.n:U),p.cz],aa 0]) (J6 x g) (D0 b x g) r b.S w:=by
 intro l Q W l' v w' se V R;subst l';have u:∀ j,b.S j->j<w.heap.size:=λj d=>h.lt d;have v':=h.fq;have s:=ad u;have s':=v.cell hd id;have Y:=v.cell an id;have h1:=ad (h.keep v);refine h0.2 ?_
 go_in
 go_wp2_with fail;go_loopg [4] (x.now-g) (λm z wr=>∃ pre:ai gu,m=x.now-(g+pre.length)/\g+pre.length<=x.now/\z=aa ((g+pre.length:J):U)/\pre.map gu.key=nT x g pre.length/\wr.cell? (ah a 0)=some (bM b.c)/\c5 wr b (replay x g pre.length)/\Q pre wr/\w.heap.size+2<=wr.heap.size)
 case atStart=>exact⟨[],rfl,by simpa using a7,rfl,rfl,Y,h1.o,R,I⟩
 obtain⟨pre,hm,vs,rfl,C,fo,aU,E,ps⟩:=hrel;have dv:=aU.dv;rw[Oa]at dv;refine dU;by_cases u:g+pre.length<x.now
 .have G:=ad (YF aU (a' pre.length u));obtain⟨y,gf⟩:∃ y,replay x g pre.length=y:=⟨_,rfl⟩;rw[gf]at G aU;have hk:replay x g (pre.length+1)=kg y (g+pre.length):=by show kg (replay x g pre.length) (g+pre.length)=_;rw[gf]
  refine ob;generalize aw:g+pre.length=n at *;have q:=ad aw;refine vv;refine xT;refine sn;refine⟨trivial,rfl,h0.2 (G.o.mono ?_)⟩;rintro e aF ⟨⟨A,cap,rfl,mv⟩,h2,bK⟩;have X:=V pre ⟨n,A,cap,jk y n⟩ wr aF E bK ⟨by rw[q.o];exact u,by rw[g'.o,q.o];rfl,mv⟩;obtain⟨fn,tmps,assign,body,a8,t⟩:=X;simp only[gu.cz]at a8;have fr:=bK.cell (p:=ah a 0) fo hne.2;have r':=cu ps bK.size;refine Dn;have D:=D;have Z:=i.cell (p:=ah a 0) fr (λe=>e.elim H.2.1 (λe=>by have e:a=w.heap.size+1:=e;omega));have T:=h2.keeps i (λj d e=>e.elim (H.2.2 j d) (λe=>CW));have sd:=cu r' i.size;have B:=bN F T;gi_wp2;go_wp2;have L:g+(pre++[gu.mk n A cap (jk y n)]).length=n+1:=by rw[<-q.o];simp;omega
  have M:(pre++[gu.mk n A cap (jk y n)]).length=pre.length+1:=aM;go_roundg (x.now-(n+1))
  case measure=>omega
  refine⟨pre++[gu.mk n A cap (jk y n)],by rw[L],I,by rw[L];go_num,?_,Z,?_,B.o.1,sd⟩
  .rw[M,adY,g'.o,q.o,k3,m'.o];rfl
  rw[M,lb.o];exact B.o.2
 have vl:¬ ((g+pre.length:J):U)<(x.now:U):=I;have K:pre.length=x.now-g:=I;rw[K]at aU;have P:=ad (show D0 b x g pre wr from⟨by rw[m'.o,K],aU⟩);have N:=ad E;go_wp2;go_end0;exact⟨⟨_,rfl⟩,pre,N.o,P.o⟩
end
section
attribute [local go_sem] Oper.semAt_some
variable{w w':aj}{b:hs}{x:cO}
def rowP(ps:ai gu):ai ay:=ps.flatMap λp=>[aa (p.n:U),p.cz]
def Ka(w:aj)(b:hs)(x:cO)(g:J)(e:Ending)(w':aj):ae:=
 ∃ (ps:ai gu) (A:cr Addr) (cap:J),e=aV #[au A ps.length cap,aa 0]/\w'.ownsRow w.heap.size 271 2 (au A ps.length cap) ps.length (rowP ps)/\ps.map gu.key=nT x g (x.now-g)/\
  (∀ p∈ps,w'.ownsRow w.heap.size 45 9 p.cz p.xs.length (b0 p.xs))/\c5 w' b (replay x g (x.now-g))/\ag b.S w w'
def sV{bS h cf l s1 s2:J}{e f:TypeId}{v1 v2:ay}{i k:ai ay}(h1:w.ownsRow bS e s1 v1 cf i)(h2:w.ownsRow h f s2 v2 l k)(d:e≠f)(b:v1.ownBlock=some j):v2.ownBlock≠some j:=λc=>by
 rcases h1.2 with⟨rfl,_⟩|⟨g,cap,n,rfl,_,aT,_⟩
 .simp[Value.ownBlock]at b
 rcases h2.2 with⟨rfl,_⟩|⟨p,m,o,rfl,_,a,_⟩
 .simp[Value.ownBlock]at c
 simp only[Value.ownBlock,jn]at b c;subst b;rw[c,aT]at a;exact ID
structure x3(w:aj)(X:J)(S:J->ae)(pre:ai gu)(W:aj):ae where
 row:∃ v,W.heap[X]?=some (ab #[v] 267 (0,0))/\W.ownsRow (X+5) 271 2 v pre.length (rowP pre)
 mB:∀ p∈pre,W.ownsRow (X+5) 45 9 p.cz p.xs.length (b0 p.xs)
 dq:W.heap[w.heap.size]?=some (ab #[au none 0 0] 267 (0,0))
 gD:W.heap[w.heap.size+1]?=some (ab #[aa 0] 36 (0,0))
 bF:ag S w W
 cK:X+3<=W.heap.size
def x3.keep{X:J}{S T:J->ae}{pre:ai gu}{W W':aj}(h:x3 w X S pre W)(hk:ag T W W')(i:w.heap.size+2<=X)(ax:∀ k,S k->k<w.heap.size)(c:∀ k,T k->S k\/k=X+3\/k=X+4):x3 w X S pre W':=by
 have⟨v,h1,h2⟩:=h.row;have aw:∀ k,w.heap.size<=k->k<X+3->¬ T k:=λk d g e=>by
  exact Vx
 have a:∀ k,X+5<=k->¬ T k:=λk d e=>by
  exact Vx
 refine⟨⟨v,hk.heap h1 (aw _ I I),b7 h2 hk (λb al=>a _ (h2.lt b al).1)⟩,λp ao=>b7 (h.mB p ao) hk (λb al=>a _ ((h.mB p ao).lt b al).1),hk.heap h.dq (aw _ I I),hk.heap h.gD (aw _ I I),?_,cu h.cK hk.size⟩;exact c1 h.bF hk (λk f e=>by
  rcases c k e with e|e|e
  .exact e
  .omega
  .omega)
def KO(A:aj)(cs:a6 ay)(t:TypeId)(j:J)(u:ay)(h:cs.toList[j]?=some u):(A.alloc (ab cs t)).cell? (((ah A 0):Addr).add j)=some u:=by
 rw[iB,gM];exact bb (aP _ _) j0
def aby:∃ i,prog.info? 271=some i/\i.zero=some (aG #[aa 0,au none 0 0])/\i.size=2/\i.bytes=32:=by
 have h:(prog.info? 271).map (λi=>(i.zero,i.size,i.bytes))=some (some (aG #[aa 0,au none 0 0]),2,32):=bc;cases aT:prog.info? 271 with
 | none=>rw[aT]at h;cases h
 | some i=>rw[aT]at h;simp only[r7,jn,mM]at h;exact⟨i,rfl,h.1,h.2.1,h.2.2⟩
def afH(w:aj):(Instr.alloc 271 true (aV #[])).run prog w=.ok w (w.alloc (ab #[aa 0,au none 0 0] 271)):=bc
def Y8:271≠45:=bs
def Yy(h:c5 w b x){g:J}(hw:hc x=some g)(a7:g<=x.now)(C:∀ k,g+k<x.now->Can (replay x g k) (g+k))(aw:x.now<=g+1000):aB 138 #[b.c] w (Ka w b x g):=by
 have z:∀ j,b.S j->j<w.heap.size:=λj a=>h.lt a;refine SL;have Tq:=hw;unfold hc gK at Tq;rw[Tq]at s';have zp:=((bd w).alloc (ab #[au none 0 0] 267)).alloc (ab #[aa 0] 36);have F:=b2 (aP w (ab #[au none 0 0] 267)) (ab #[aa 0] 36);have t:=aP (w.alloc (ab #[au none 0 0] 267)) (ab #[aa 0] 36);refine Aa;refine dU;obtain⟨PP,T'⟩:∃ PP,Ka w b x g=PP:=⟨_,rfl⟩;rw[T'];refine(h0 (n:=0)).1 ?_;refine callsIn_of_wp_marks func138 rfl trivial ?_ rfl;simp only[ntmps138,iw,eA,gN,Nat.reduceAdd,Nat.reduceSub,uR,uS,u',uW,p2,l5];refine sn;generalize (w.alloc (ab #[au none 0 0] 267)).alloc (ab #[aa 0] 36)=bo at *;refine⟨trivial,rfl,h0.2 ((s.o _ zp).mono ?_)⟩;rintro e aq ⟨rfl,bI,T⟩;have ajR:=zp.trans (oA T);have F:=(oA T).heap F id;have t:=(oA T).heap t id;clear T zp;refine sn;refine⟨trivial,rfl,h0.2 ((s'.out _ ajR).mono ?_)⟩;rintro e aF ⟨rfl,l⟩;have F:=l.heap F id;have t:=l.heap t id;simp only[jH,vd];refine sn;refine⟨trivial,rfl,h0.2 ((YE _ _ _).mono ?_)⟩;rintro e br ⟨rfl,G⟩;refine sn;have r:br.heap.size=aF.heap.size+3:=by rw[<-G];simp
 have L:w.heap.size+2<=aF.heap.size:=by have:=bZ t;omega
 have zd:ag aH aF br:=by rw[<-G];exact(((ag.refl _ aF).alloc _).alloc _).alloc _
 have aj5:br.heap[aF.heap.size]?=some (ab #[au none 0 0] 267 (0,0)):=by rw[<-G];exact b2 (b2 (aP _ _) _) _
 have ajZ:br.heap[aF.heap.size+1]?=some (ab #[b.c] 63 (0,0)):=by
  have:=b2 (aP (aF.alloc (ab #[au none 0 0] 267)) (ab #[b.c] 63)) (ab #[aa g] 3)
  rw[ft,G]at this;exact this
 have aj0:br.heap[aF.heap.size+2]?=some (ab #[aa g] 3 (0,0)):=by
  have:=aP ((aF.alloc (ab #[au none 0 0] 267)).alloc (ab #[b.c] 63)) (ab #[aa g] 3)
  rw[ft,ft,G]at this;exact this
 have ajS:=(ajR.trans l).trans zd;have t:=zd.heap t id;have m:=ad z;generalize akr:aF.heap.size=X at *
 refine GZ (gf:=272) (lb:=#[bM (X+1+1),bM (X+1)]) rfl (enters_of func272 bc rfl)
  (encs:=λp:gu=>#[aG #[aa (p.n:U),p.cz],aa 0]) (λ_=>rfl) (J6 x g) (D0 b x g) (λk=>k=X\/X+4<k) b.S
  (Xp (h.keep ajS) g a7 m'.o (X+2) (X+1) (bb aj0 rfl) (bb ajZ rfl) ⟨I,I⟩ ⟨λe=>C0,λe=>C0⟩ _ ⟨I,I,λj a e=>by have:=m.o _ a;omega⟩)
  (λps Y Z y hd hk=>⟨y.1,y.2.keeps hk (λj a e=>by have:=m.o _ a;omega)⟩)
  zH (by rw[r];exact⟨λe=>C0,λe=>C0⟩)
  (λpre W=>x3 w X b.S pre W)
  ?inv ?start
  (λpre p a' W=>∃ Y,a'={tmps:=#[bM b.c,undef,bM w,bM (w+1),aa g,.bool true,bM X,bM Y,aa 0,bM b.c,.bool false,aV #[aa g,.bool true],bM b.c,bM (b.D (1-x.aL)+4),aV #[aa g,.bool true],aa g,.bool true,.bool true,.bool false,bM b.c,aa g,.func (.func 272) #[] #[bM (X+1+1),bM (X+1)],aG #[aa (p.n:U),p.cz],aa 0,undef,undef,undef,undef,undef,undef,undef,undef],defers:=[]}/\X+5<=Y/\W.heap[Y]?=some (ab #[aa (p.n:U),p.cz] 271 (0,0))/\W.ownsRow (X+5) 45 9 p.cz p.xs.length (b0 p.xs)/\g+pre.length<x.now/\x3 w X b.S pre W)
  ?ass ?assign ?body ?done
 case inv=>
  intro pre Y Z y hd hk;exact y.keep hk L m.o (λk hk=>by rw[r]at hk;omega)
 case start=>exact⟨⟨_,aj5,il _ _ _ _⟩,λp ao=>by simp at ao,(zd.heap F id),t,ajS.mono λ_ _ x=>x.elim,I⟩
 case ass=>
  rintro pre p a' A cV ⟨Y,rfl,y,vs,V,z,M⟩ hd hk;exact⟨Y,rfl,y,hk.heap vs I,b7 V hk (λj a e=>by have:=(V.lt j a).1;omega),z,M.keep hk L m.o a1⟩
 case assign=>
  intro l' pre p ajT A K akc aj3 aku aj' akf hd aj4;obtain⟨z,_,akh⟩:=akf;have M:=aj3.keep aj' L m.o (λk hk=>.inl hk);have V':=aP A (ab #[aa 0,au none 0 0] 271);obtain⟨akj,_,akb⟩:=dT (A.alloc (ab #[aa 0,au none 0 0] 271)) 271 2 A #[aa (p.n:U),p.cz] _ sizeOf271 rfl rfl V' rfl;have aj7:=fb (A.alloc (ab #[aa 0,au none 0 0] 271)) A _ #[aa (p.n:U),p.cz] 271 V';have ys:=c1 ((bd A).alloc (ab #[aa 0,au none 0 0] 271)) akb a1;generalize (A.alloc (ab #[aa 0,au none 0 0] 271)).setRow A #[aa (p.n:U),p.cz]=akn at *;refine T5;have vl:=bN aj7 (bx (b7 (ku akh (show X+5<=ajT.heap.size+1 by omega)) ys (λ_ _=>id)) (M.keep ys L m.o (λk hk=>hk.elim)));generalize p.cz=cz at *;gi_wp2_with (first|(refine B_ (afH A) rfl rfl ?_)|(refine B' akj rfl rfl rfl rfl ?_));exact aj4 _ _ ⟨A,rfl,I,vl.o.1,vl.o.2.1,z,vl.o.2.2⟩ (ys.mono λ_ _ x=>x.elim)
 case body=>
  rintro l' pre p a' A akc ⟨Y,rfl,y,vs,V,z,M⟩ hd;obtain⟨i0,E,akk,akl,akm⟩:=aby;obtain⟨v,N,ar⟩:=M.row;have akd:=fS (P:=prog) 271 2 Y 0 #[aa (p.n:U),p.cz] _ _ isAgg271 sizeOf271 rfl vs (λj u a=>km);have akg:∀ u∈[aa (p.n:U),p.cz],u.oneCell'=true:=fJ.1 rfl;have aki:rowP (pre++[p])=rowP pre++[aa (p.n:U),p.cz]:=by simp[rowP]
  have fo:∀ q∈pre++[p],A.ownsRow (X+5) 45 9 q.cz q.xs.length (b0 q.xs):=λq i=>by
   rcases gd.1 i with i|i
   .exact M.mB q i
   simp at i;subst i;exact V
  have mv:∀ q∈pre++[p],∀ j,q.cz.ownBlock=some j->v.ownBlock≠some j:=λq i j a e=>sV ar (fo q i) Y8 e a;have ajV:=kz N;have ajY:=oU N;refine zS;refine p9;have aj_:=KO A #[aa (p.n:U),p.cz] 271;have ake:=ar.alloc (ab #[aa (p.n:U),p.cz] 271);have akt:pre.length+1<=1000:=I;have akv:p.cz.cells=#[p.cz]:=rfl;generalize p.cz=cz at *;gi_wp2_with (first|(refine G0 akd rfl rfl rfl ?_)|(gi_at_builtin;refine wpListIn_append_own _ rfl _ _ 267 rfl (X+5) 271 i0 (aG #[aa 0,au none 0 0]) 2 32 underlying267 r'.o akk akl akm rfl bs _ _ _ rfl ake (ah A 0) 1 1 [aa (p.n:U),cz] rfl rfl aj_ akg qU I b_ ?_;intro v' aq d w' _;have aka:ag (λk=>k=X\/v.ownBlock=some k) A aq:=((ag.refl _ A).alloc _).grown w' (λk hk=>.inl (.inr hk));obtain⟨g',Q',rfl⟩:=ownsRow_succ d;have h2:=(w'.block X b_ (λe=>by have:=(ar.lt _ e.symm).1;omega)).trans (b2 fr.o _);have akp:=kz h2;have akq:=oU h2;have sd:=ad h2;clear h2 w'));have l:=aka.setCell (p:=ah X 0) (.inl rfl) (au (bT g') (pre.length+1) Q');have H:=se.o;have s:∀ k,(k=X\/v.ownBlock=some k)->X<=k:=λk e=>e.elim a1 (λe=>by have:=(ar.lt k e).1;omega);have aj6:∀ k,(k=X\/v.ownBlock=some k)->k=X\/X+4<k:=λk e=>e.elim .inl (λe=>.inr (by have:=(ar.lt k e).1;omega));refine⟨l.mono (λk _ e=>aj6 k e),⟨⟨au (bT g') (pre.length+1) Q',CR,?_⟩,λq i=>b7 (Q.o.1 q i) l (λj a e=>?_),l.heap H.dq (λe=>tt),l.heap H.gD (λe=>tt),c1 H.bF l (λk hk e=>tt),cu H.cK l.size⟩⟩
  .rw[cG,jG,aki];exact b7 d ((ag.refl (λk=>k=X) aq).setCell (p:=ah X 0) rfl _) (λb al h=>zA)
  rcases e with e|e
  .have:=((Q.o.1 q i).lt j a).1;omega
  exact Q.o.2 q i j a e
 rintro ps W M aj2 akw aj1;obtain⟨v,N,ar⟩:=M.row;have ajV:=kz N;have ajY:=oU N;have bw:=kz M.dq;have f0:=oU M.dq;have bP:=kz M.gD;have f1:=oU M.gD;have B:=ad M;have TS:=ad aj2;have ajU:=ad aj1;refine o7;have W':=((ag.refl (λj=>j=w.heap.size\/j=w.heap.size+1) W).setCell (p:=ah w 0) (.inl rfl) (au A ps.length cap)).setCell (p:=ah (w+1) 0) (.inr rfl) (aa 0);have f:=W'.heap ajU.o I;refine sn;refine Dw;have aks:br.heap.size<W.heap.size:=I;have R:ag (λj=>j=w.heap.size\/j=w.heap.size+1\/j=br.heap.size) W (((W.setCell (ah w 0) (au A ps.length cap)).setCell (ah (w+1) 0) (aa 0)).putObj br (.deferred none)):=(W'.mono (λj _ e=>e.elim .inl (λe=>.inr (.inl e)))).putObj (.inr (.inr rfl)) _;have ajW:=(World.putObj_heap_other (o:=.deferred none) (show w.heap.size≠br.heap.size by omega)).trans (eB (bX B.o.dq 0 (au A ps.length cap)) (p:=ah (w+1) 0) (show w.heap.size≠w.heap.size+1 by omega) (aa 0));have ajX:=(World.putObj_heap_other (o:=.deferred none) (show w.heap.size+1≠br.heap.size by omega)).trans (bX (eB B.o.gD (p:=ah w 0) (show w.heap.size+1≠w.heap.size by omega) (au A ps.length cap)) 0 (aa 0));have aj8:=bb (k:=0) ajW rfl;have aj9:=bb (k:=0) ajX rfl;generalize ((W.setCell (ah w 0) (au A ps.length cap)).setCell (ah (w+1) 0) (aa 0)).putObj br (.deferred none)=ako at *;refine⟨aV #[au A ps.length cap,aa 0],by simp[results,results138,asAddr,loadVar,isAgg267,isAgg36,go_sem,aj8,aj9],?_⟩;rw[<-T'];refine⟨ps,A,cap,rfl,ku (b7 ar R (λj a e=>by have:=(ar.lt j a).1;omega)) I,TS.o.1,λp ao=>ku (b7 (B.o.mB p ao) R (λj a e=>by have:=((B.o.mB p ao).lt j a).1;omega)) I,TS.o.2.keeps R (λj a e=>by have:=m.o j a;omega),?_⟩;exact c1 B.o.bF R a1
end
section
section
variable{α:Type}
def b'(g:J->α)(m:J)(v:α):J->α:=λj=>if j=m then v else g j
def ky(g:J->α)(m:J)(v:α):b' g m v m=v:=aD rfl
def jD(g:J->α)(v:α)(h:j≠m):b' g m v j=g j:=az h
def yW{g g':J->α}(h:∀ j,f<=j->j<n->g j=g' j):fh g f n=fh g' f n:=by
 refine map_congr_left λi av=>?_
 have:=p1.1 av
 rw[h (f+i) I I]
def ur(g:J->α)(h:f<n):fh g f n=(f,g f) :: fh g (f+1) n:=by
 obtain⟨d,rfl⟩:∃ d,n=f+1+d:=⟨n-f-1,I⟩;rw[Gh g (show f<=f+1 by omega) d,yY g (dm f),uu g (dm f)];rfl
theorem NR(g:J->α)(n m:J)(v:α)(hm:m<n):∀ d f,m=f+d->fR (fh g f n) m v=fh (b' g m v) f n
 | 0,f,e=>by
  have e:=e;subst e;rw[ur g hm,ur _ hm,ky];unfold fR;rw[aD bu,oX aM,pZ.2 λp ao=>by have:=(wV ao).1;simp;omega];rw[yW (g':=b' g m v) λj h1 _=>(jD g v I).symm]
 | d+1,f,e=>by
  rw[ur g (show f<n by omega),ur _ (show f<n by omega),jD g v (show f≠m by omega)];unfold fR;rw[az I,NR g n m v hm d (f+1) I]
def By(g:J->α)(v:α)(h:f<=m)(aw:m<=n):fR (fh g f n) m v=fh (b' g m v) f (max n (m+1)):=by
 by_cases e:m=n
 .subst e;rw[show max m (m+1)=m+1 by omega,<-yX (b' g m v) h,ky,yW λj _ h2=>(jD g v (show j≠m by omega)).symm]
 rw[NR g n m v I (m-f) f I,show max n (m+1)=n by omega]
end
theorem Qe(K:ai (J×U))(u:J->U)(n:J):∀ d f,n=f+d->(∀ j x,f<=j->j<n->eu K j=some x->x=u j)->kl K (fh u f n)=none
 | 0,f,e,_=>by rw[uu u b4];rfl
 | d+1,f,e,h=>by
  rw[ur u (show f<n by omega)];unfold kl;have a:=Qe K u n d (f+1) I λj x h1 h2=>h j x I h2;split
  .rename_i x ak;rw[aD (h f x bu I ak)];exact a
  exact a
theorem Qf(K:ai (J×U))(u:J->U)(n g:J):∀ d f,n=f+d->kl K (fh u f n)=some g->f<=g/\g<n/\(∀ j x,f<=j->j<g->eu K j=some x->x=u j)/\∃ x,eu K g=some x/\x≠u g
 | 0,f,e,h=>by rw[uu u b4]at h;cases h
 | d+1,f,e,h=>by
  rw[ur u (show f<n by omega)]at h;unfold kl at h;have k:=Qf K u n g d (f+1) I;split at h
  .rename_i x ak;split at h
   .rename_i c;have⟨h1,h2,a,b⟩:=k h;refine⟨I,h2,λj y l i a8=>?_,b⟩;by_cases e:j=f
    .subst e;rw[ak]at a8;cases a8;exact c
    exact a j y I i a8
   rename_i c;cases h;exact⟨dm _,I,λj _ h1 h2=>I,x,ak,c⟩
  rename_i ak;obtain⟨h1,h2,a,b⟩:=k h;refine⟨I,h2,λj y l i a8=>?_,b⟩;by_cases e:j=f
  .subst e;rw[ak]at a8;cases a8
  exact a j y I i a8
theorem Qd(K:ai (J×U))(u:J->U)(n:J):∀ d f,n=f+d->kl K (fh u f n)=none->∀ j x,f<=j->j<n->eu K j=some x->x=u j
 | 0,f,e,_=>λj _ h1 h2=>by omega
 | d+1,f,e,h=>by
  rw[ur u (show f<n by omega)]at h;unfold kl at h;have a:=Qd K u n d (f+1) I;intro j y h1 h2 a8;split at h
  .rename_i x ak;split at h
   .rename_i b;by_cases e:j=f
    .subst e;rw[ak]at a8;cases a8;exact b
    exact a h j y I h2 a8
   cases h
  rename_i ak;by_cases e:j=f
  .subst e;rw[ak]at a8;cases a8
  exact a h j y I h2 a8
def rl(bk:J->U)(n:J):U:=if n=0 then 0 else bk (n-1)
def kP(bk:J->U)(n j:J):U:=if j<n then bk j else rl bk n
def pr(F now n:J)(bk us:J->U):Fd:=⟨F,n,rl bk n,fh bk F n,fh us F now⟩
structure hP(x:cO)(F:J)(bk us:J->J->U)(S:J->J->U):ae where
 fG:x.fG=F
 L:x.L=fh S F (x.now+1)
 f:∀ k,k<2->x.f k=pr F x.now (x.f k).next (bk k) (us k)
namespace hP
variable{x:cO}{F:J}{bk us:J->J->U}{S:J->J->U}
def congr{c dc:J->J->U}{d:J->J->U}(h:hP x F bk us S)(h1:∀ k,k<2->∀ j,j<(x.f k).next->bk k j=c k j)(h2:∀ k,k<2->∀ j,F<=j->j<x.now->us k j=dc k j)(g:∀ j,F<=j->j<=x.now->S j=d j):hP x F c dc d:=by
 refine⟨h.fG,by rw[h.L];exact yW λj a b=>g j a I,λk hk=>?_⟩;refine(h.f k hk).trans ?_;have e:rl (bk k) (x.f k).next=rl (c k) (x.f k).next:=by
  unfold rl;split
  .rfl
  exact h1 k hk _ I
 unfold pr;rw[yW λj _ b=>h1 k hk j b,yW λj a b=>h2 k hk j a b,e]
theorem first(h:hP x F bk us S)(hk:k<2):(x.f k).first=F:=by rw[h.f k hk];rfl
theorem K(h:hP x F bk us S)(hk:k<2):(x.f k).K=fh (bk k) F (x.f k).next:=by rw[h.f k hk];rfl
theorem de(h:hP x F bk us S)(hk:k<2):(x.f k).de=fh (us k) F x.now:=by rw[h.f k hk];rfl
theorem last(h:hP x F bk us S)(hk:k<2):(x.f k).last=rl (bk k) (x.f k).next:=by rw[h.f k hk];rfl
theorem ef(h:hP x F bk us S){k:J}(hk:k<2){n:J}(aw:F<=n):ef x n k=kP (bk k) (x.f k).next n:=by
 unfold Go.Proofs.YtalagblioepadaaGreatDoor.ef pR kP;rw[h.K hk,h.last hk,rN];by_cases e:n<(x.f k).next
 .rw[aD ⟨aw,e⟩,aD e];rfl
 rw[az (λc=>e c.2),az e];rfl
def st(h:hP x F bk us S)(aw:F<=n)(h2:n<=x.now):h_ x.L (n:U)=some (S n):=by rw[h.L,OU,aD ⟨aw,I⟩]
theorem ia(h:hP x F bk us S){n:J}(aw:F<=n)(h2:n<=x.now):ia x n=S n:=by
 unfold Go.Proofs.YtalagblioepadaaGreatDoor.ia;rw[h.st aw h2];rfl
def put(h:hP x F bk us S)(hk:k<2)(a:F<=(x.f k).next)(v:U):hP (hI x k v) F (λi=>if i=k then b' (bk k) (x.f k).next v else bk i) us S:=by
 refine⟨h.fG,h.L,λi av=>?_⟩;unfold hI;by_cases e:i=k
 .subst e;rw[show({x with f:=fy x.f i {x.f i with next:=(x.f i).next+1,last:=v,K:=fR (x.f i).K (x.f i).next v}}:cO).f i=fy x.f i {x.f i with next:=(x.f i).next+1,last:=v,K:=fR (x.f i).K (x.f i).next v} i from rfl,s0];simp only[if_true];unfold pr rl;rw[az I,HJ,ky,h.K hk,By _ v a bu,show max (x.f i).next ((x.f i).next+1)=(x.f i).next+1 by omega,h.first hk,h.de hk]
 rw[show({x with f:=fy x.f k {x.f k with next:=(x.f k).next+1,last:=v,K:=fR (x.f k).K (x.f k).next v}}:cO).f i=fy x.f k {x.f k with next:=(x.f k).next+1,last:=v,K:=fR (x.f k).K (x.f k).next v} i from rfl,sZ _ _ e];simp only[az e];exact h.f i av
def used(h:hP x F bk us S)(aw:F<=n)(h2:n<=x.now)(a:n<F+64)(hk:k<2):qH (x.f k) n=pr F (max x.now (n+1)) (x.f k).next (bk k) (b' (us k) n (kP (bk k) (x.f k).next n)):=by
 have e:=h.ef hk aw;unfold Go.Proofs.YtalagblioepadaaGreatDoor.ef at e;unfold qH uD;rw[e,h.first hk,aD a,h.de hk,By _ _ aw h2];unfold pr;rw[<-h.K hk,<-h.last hk,<-h.first hk]
def aeV(h:hP x F bk us S)(aw:F<=n)(h2:n<x.now)(a:n<F+64):hP (kg x n) F bk (λk=>b' (us k) n (kP (bk k) (x.f k).next n)) (b' S (n+1) (jB (kP (bk 0) (x.f 0).next n) (kP (bk 1) (x.f 1).next n) (S n))):=by
 unfold kg;rw[(h.ia aw I),h.ef I aw,h.ef (k:=1) I aw];refine⟨h.fG,?_,λk hk=>?_⟩
 .show fR x.L (n+1) _=fh _ F (x.now+1);rw[h.L,By _ _ I I,show max (x.now+1) (n+1+1)=x.now+1 by omega]
 show(ly x n 2).f k=pr F x.now ((ly x n 2).f k).next _ _;unfold ly;simp only[aD hk];rw[h.used aw I a hk,show max x.now (n+1)=x.now by omega];rfl
def step(h:hP x F bk us S)(aw:F<=x.now)(a:x.now<F+64):hP {kg x x.now with now:=x.now+1} F bk (λk=>b' (us k) x.now (kP (bk k) (x.f k).next x.now)) (b' S (x.now+1) (jB (kP (bk 0) (x.f 0).next x.now) (kP (bk 1) (x.f 1).next x.now) (S x.now))):=by
 unfold kg;rw[(h.ia aw bu),h.ef I aw,h.ef (k:=1) I aw];refine⟨h.fG,?_,λk hk=>?_⟩
 .show fR x.L (x.now+1) _=fh _ F (x.now+1+1);rw[h.L,By _ _ I bu,show max (x.now+1) (x.now+1+1)=x.now+1+1 by omega]
 show(ly x x.now 2).f k=pr F (x.now+1) ((ly x x.now 2).f k).next _ _;unfold ly;simp only[aD hk];rw[h.used aw bu a hk,show max x.now (x.now+1)=x.now+1 by omega];rfl
def cut(h:hP x F bk us S)(aw:F<=n)(h2:n<=x.now)(a:∀ k,k<2->n<=(x.f k).next):hP (tO x n) n bk us S:=by
 refine⟨rfl,?_,λk hk=>?_⟩
 .show(x.L.filter λp=>!decide (p.1<n))=fh S n (x.now+1);rw[h.L,wU _ aw I]
 show(if k<2 then qn (x.f k) n else x.f k)=pr n x.now (if k<2 then qn (x.f k) n else x.f k).next (bk k) (us k);rw[aD hk];unfold qn pr pq;rw[h.K hk,wU _ aw (a k hk),h.de hk,wU _ aw h2,h.last hk]
def G_(h:hP x F bk us S)(hm:x.aL<2)(a:F<=x.now)(aA:∀ j,F<=j->j<x.now->j<(gK x).next->us (1-x.aL) j=bk (1-x.aL) j):hc x=none:=by
 unfold hc;have e:=aA;unfold gK at e⊢;rw[h.K I,h.de I];refine Qe _ _ _ (x.now-F) F I λj y h1 h2 a8=>?_;rw[rN]at a8;split at a8
 .rename_i an;cases a8;exact(e j h1 h2 an.2).symm
 cases a8
def G9(h:hP x F bk us S)(hm:x.aL<2)(k:F<=x.now){g:J}(b:hc x=some g):F<=g/\g<x.now/\g<(gK x).next/\(∀ j,F<=j->j<g->us (1-x.aL) j=bk (1-x.aL) j)/\us (1-x.aL) g≠bk (1-x.aL) g:=by
 unfold hc gK at *;rw[h.K I,h.de I]at b;have⟨h1,h2,e,y,a,f⟩:=Qf _ _ _ _ (x.now-F) F I b;rw[rN]at a;split at a
 .rename_i an;cases a;refine⟨h1,h2,an.2,λj d i=>?_,λc=>f c.symm⟩;exact(e j _ d i (by rw[rN,aD ⟨d,I⟩])).symm
 cases a
end hP
end
end Go.Proofs.YtalagblioepadaaGreatDoor
