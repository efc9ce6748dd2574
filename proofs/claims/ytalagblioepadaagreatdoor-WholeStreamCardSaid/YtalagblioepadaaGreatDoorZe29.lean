/- The proof, part 29. -/
import Derived.Test.YtalagblioepadaaGreatDoorZe28
import Derived.Deep.CutBlock
namespace Go.Proofs.YtalagblioepadaaGreatDoor
set_option linter.all false
open Proofs.Tryz List Go.RowKit
set_option maxRecDepth 100000
set_option maxHeartbeats 8000000
variable{ww:Prop}
def oa(h:ww:=by decide):=h
def QQ(h:ww:=by simp only[map_toArray,nz,qQ];rfl):=h
variable{c f r:U}{d:J}
section
variable{w w':aj}{l:ay}{fr:U}{xs ys:ai aE}{o:J}{u v:J->U}
def afh(TS:Mid c f r v)(aj3:hh w l f xs)(akK:0<=f/\f<=1000000)(i:J)(av:i<2)(a:U)(bg:0<=a/\a<=63)(hd:v (4+i*10+8)=0):aB 67 #[.agg (aQ v),l,aa i,aa a] w (vH w l f (fw i a f (v,xs))):=by
 have ar:=kR i av;have m':=ad (dY.made TS aj3 ar);have ao:=TS.pl _ ar;have ajU:0<=v (4+i*10+6)/\v (4+i*10+6)<=8:=ao.co;have akD:0<=v (4+i*10+7)/\v (4+i*10+7)<=20:=ao.fA;have aks:fw i a f (v,xs)=if cE a 16=true then ov i f (kS i f (iM i a f (v,xs)))else kS i f (iM i a f (v,xs)):=by
  unfold fw;exact az (show ¬ 0<v (4+i*10+8)by omega)
 obtain⟨R,aj4⟩:∃ R,fw i a f (v,xs)=R:=⟨_,rfl⟩;rw[aj4];have ajZ:=ad (aj4.symm.trans aks);have T:=ad (ad' bg);have akG:=ad ((Fv (Fw TS i av a f xs) i av f (iM i a f (v,xs)).2).pl _ ar).co;have d1:decide (1<v (4+i*10+8))=false:=cN b4;have d2:(v (4+i*10+8) == 1)=false:=ep.2 b4;have aj5:=kh (w.alloc (ab (aQ v) 99));simp only[ft]at aj5;have aj8:=wM (o:=4+i*10) (b2 (aP w (ab (aQ v) 99)) (ab (aQ bW) 99)) ar;unfold fv at aj8 m';have b5:=bN TS.f0 (bx aj3.lt ar);clear TS aj3 aks aj4 ar hd ao
 go_in
 go_upto_region 2 with first|refine eL aj5 rfl rfl ?_|refine dg aj8 rfl rfl rfl ?_|fail
 generalize World.alloc (World.alloc (World.alloc w _) _) _=W at *;have C:dY w l (w.heap.size+1+1) (4+i*10) v v f l xs W:=m'.o;clear m' aj5 aj8;have bw:W.cell? (ah w 0)=some (aa f):=by rw[<-b5.o.1];exact bb C.cZ (dO v I)
 have bR:=aX C.et;have g0:=bV C.et;go_upto_if 76 with fail
 go_cut []from 76 to 80 (λbE=>dY w l (w.heap.size+1+1) (4+i*10) v (sH (4+i*10+6) v) f l xs bE)
 case first=>
  by_cases L:0<v (4+i*10+6)
  .have ax:=ad (C.eR 6 I .i64 rfl (v (4+i*10+6)-1) a1 a1);refine DI;rw[show max (v (4+i*10+6)-1) 0=v (4+i*10+6)-1 by omega];exact ax.o
  have ax:=ad C;refine DI;rw[show max (v (4+i*10+6)-1) 0=v (4+i*10+6)by omega,GN];exact ax.o
 clear C bR g0 bw;have C:=hcut;have ako:sH (4+i*10+6) v (4+i*10+7)=v (4+i*10+7):=c0 _ _ _ _ I;have akb:=ad (YM (4+i*10) v);generalize sH (4+i*10+6) v=v1 at *;rw[<-ako]at akD;clear hcut ako ajU;refine sl;go_upto_if 83 with fail
 go_cut []from 83 to 87 (λbE=>dY w l (w.heap.size+1+1) (4+i*10) v (sH (4+i*10+7) v1) f l xs bE)
 case first=>
  by_cases L:0<v1 (4+i*10+7)
  .have ax:=ad (C.eR 7 I .i64 rfl (v1 (4+i*10+7)-1) a1 a1);refine DI;rw[show max (v1 (4+i*10+7)-1) 0=v1 (4+i*10+7)-1 by omega];exact ax.o
  have ax:=ad C;refine DI;rw[show max (v1 (4+i*10+7)-1) 0=v1 (4+i*10+7)by omega,GN];exact ax.o
 clear C bR g0;have C:=hcut;rw[akb.o]at C;generalize akx:qm (4+i*10) v=v2 at *;have akg:=ad akx;clear hcut akD akb akx;refine sl;have aj7:=C.e';have akd:=ad C.e';have aW:(v2 (4+i*10+4)+65536-1024).tmod 65536=(v2 (4+i*10+4)+64512)%65536:=by rw[oW b4];omega
 go_upto_if 90 with fail
 go_cut []from 90 to 96 (λbE=>dY w l (w.heap.size+1+1) (4+i*10) v (v_ (4+i*10) 64512 (cE a 1) v2) f l xs bE)
 case first=>
  cases ao:cE a 1
  .have al:=T.o.1.symm.trans ao;exact Ij
  have al:=T.o.1.symm.trans ao;refine vw;have ax:=ad (C.eR 4 I .i64 rfl ((v2 (4+i*10+4)+64512)%65536) a1 a1);exact DA
 clear C bR g0 aj7 aW;have C:=hcut;have akc:=ad (ZG akd.o (cE a 1) (cE a 2));generalize v_ (4+i*10) 64512 (cE a 1) v2=v3 at *;clear hcut;refine sl;have aj7:=C.e';have aW:(v3 (4+i*10+4)+1024).tmod 65536=(v3 (4+i*10+4)+1024)%65536:=oW b4;go_upto_if 100 with fail
 go_cut []from 100 to 105 (λbE=>dY w l (w.heap.size+1+1) (4+i*10) v (v_ (4+i*10) 1024 (cE a 2) v3) f l xs bE)
 case first=>
  cases ao:cE a 2
  .have al:=T.o.2.1.symm.trans ao;exact Ij
  have al:=T.o.2.1.symm.trans ao;refine vw;have ax:=ad (C.eR 4 I .i64 rfl ((v3 (4+i*10+4)+1024)%65536) a1 a1);exact DA
 clear C bR g0 aj7 aW;have C:=hcut;rw[akc.o]at C;generalize aky:nV (4+i*10) (kM (4+i*10) 1024 (cE a 2) (kM (4+i*10) (-1024) (cE a 1) v2))=v4 at *;have akh:=ad aky;clear aky;clear hcut akc akd;refine sl;have hm:=ad (F3 (C.ho 2 I) (C.ho 3 I) (show aZ 32768 by unfold aZ;omega));go_upto_if 109 with fail
 go_cut []from 109 to 113 (λbE=>dY w l (w.heap.size+1+1) (4+i*10) v (sB (4+i*10) (cE a 8) v4) f l xs bE)
 case first=>
  cases ao:cE a 8
  .have al:=T.o.2.2.2.1.symm.trans ao;exact Ij
  have al:=T.o.2.2.2.1.symm.trans ao;refine vw;refine Td;have ax:=ad (C.rT _ _ (jx (v4 (4+i*10+2)) 32768) (jx (v4 (4+i*10+3)) 32768));clear bR g0 m' aka;refine sl;exact DA
 clear C bR g0 hm;have C:=hcut;generalize akz:sB (4+i*10) (cE a 8) v4=D at *;have aki:Hid (kW (4+i*10) a v=D):=ad (by unfold kW;rw[akg.o,akh.o,akz]);clear hcut akg akh akz;refine dU;clear C;go_upto_if 117 with fail
 go_cut [1]from 117 to 135 (λgf bE=>dY w l (w.heap.size+1+1) (4+i*10) v (kj i (4+i*10) f (cE a 4) (D,xs)).1 f gf (kj i (4+i*10) f (cE a 4) (D,xs)).2 bE)
 case first=>
  cases ao:cE a 4
  .have al:=T.o.2.2.1.symm.trans ao;refine vw;refine aK;go_meet;rw[vs.o];exact m'.o
  have al:=T.o.2.2.1.symm.trans ao;refine vw;go_upto_region 23 with fail
  have C:=m'.o.keep (bd wc).drew;have⟨G,s⟩:=gg (F:=λW=>dY w l (w.heap.size+1+1) (4+i*10) v D f l xs W);refine RN;have fr:=bN (BH _ 8192 C.e' (show aZ 8192 by unfold aZ;omega)) (yS (C.ho 2 I) (C.ho 3 I) (show aZ (gH (D (4+i*10+4)) 8192)from jx _ _) (show aZ (gI (D (4+i*10+4)) 8192)from jx _ _));refine U4;have m':=ad (C.rT _ _ (mV (D (4+i*10+2)) (gH (D (4+i*10+4)) 8192)) (mV (D (4+i*10+3)) (gI (D (4+i*10+4)) 8192)));refine SI;have C:dY w l (w.heap.size+1+1) (4+i*10) v (h8 (4+i*10) 8192 D) f l xs _:=m'.o;refine DF;clear m' bR g0;have akt:f.tmod 8=f%8:=oW akK.1;have e:kj i (4+i*10) f true (D,xs)=(h8 (4+i*10) 8192 D,if (f%8 == 0)=true then fM f xs (hn (i+1) 8 8 4096 1 8 (h8 (4+i*10) 8192 D (4+i*10)))else xs):=by
   unfold kj;rw[aD rfl];dsimp only;rw[C.z0,akt]
  have E:=ad e;clear e akt;generalize h8 (4+i*10) 8192 D=A at *;have bR:=aX C.et;by_cases S:(f%8 == 0)=true
  .have Z:=ad (rH C.ls (i+1) 8 4096 1 8 (A (4+i*10)) 8 rfl I I I I I I (C.ho 0 I));have ajW:=ad S;refine RV;clear s' Z bR S;refine aK;go_meet;rw[vs.o,E.out,aD ajW.o];exact m'.o
  have akJ:(f%8 == 0)=false:=by simpa using S
  have ajW:=ad S;refine IZ;go_meet;rw[vs.o,E.out,az ajW.o];exact m'.o
 clear m';have C:=hcut;generalize akA:kj i (4+i*10) f (cE a 4) (D,xs)=t at *;have akj:Hid (kj i (4+i*10) f (cE a 4) (kW (4+i*10) a v,xs)=t):=ad (by rw[aki.out,akA]);clear akA aki hcut;have⟨A,ys⟩:=t;have C:dY w l (w.heap.size+1+1) (4+i*10) v A f u1 ys wc:=C;have bR:=aX C.et;refine dU;clear C;go_upto_region 26 with fail
 go_cut [144]from 136 to 144 (λt bE=>t=.bool (cE a 32&&(A (4+i*10+7) == 0))/\bE=wc)
 case first=>
  cases ao:cE a 32
  .exact Sv
  exact Sv
 obtain⟨rfl,rfl⟩:=hcut;go_upto_if 144 with fail
 go_cut [1]from 144 to 160 (λgf bE=>dY w l (w.heap.size+1+1) (4+i*10) v (lJ i (4+i*10) f (cE a 32) (A,ys)).1 f gf (lJ i (4+i*10) f (cE a 32) (A,ys)).2 bE)
 case first=>
  cases sd:cE a 32&&(A (4+i*10+7) == 0)
  .have aj1:Hid (lJ i (4+i*10) f (cE a 32) (A,ys)=(A,ys)):=ad (az λh=>by rw[h.1,show A (4+i*10+7)=0 from h.2]at sd;cases sd);refine aK;go_meet;rw[aj1.o];exact m'.o
  have aj1:Hid (lJ i (4+i*10) f (cE a 32) (A,ys)=_):=ad (aD ⟨(Qq.1 sd).1,by simpa using(Qq.1 sd).2⟩);go_upto_region 27 with fail
  have C:=m'.o.keep (bd wc).drew;obtain⟨G,s⟩:=gg (F:=λW=>dY w l (w.heap.size+1+1) (4+i*10) v A f u1 ys W);refine RN;have fr:=bN (BH _ 65536 C.e' (show aZ 65536 by unfold aZ;omega)) (yS (C.ho 2 I) (C.ho 3 I) (show aZ (gH (A (4+i*10+4)) 65536)from jx _ _) (show aZ (gI (A (4+i*10+4)) 65536)from jx _ _));refine U4;have m':=ad (C.rT _ _ (mV (A (4+i*10+2)) (gH (A (4+i*10+4)) 65536)) (mV (A (4+i*10+3)) (gI (A (4+i*10+4)) 65536)));refine SI;have C:dY w l (w.heap.size+1+1) (4+i*10) v (h8 (4+i*10) 65536 A) f u1 ys _:=m'.o;refine DF;clear m' bR g0;refine sl;have m':=ad (C.eR 7 I .i64 rfl 20 a1 a1);clear C;go_upto_region 29 with fail
  have C:=m'.o;refine xE;generalize bn (h8 (4+i*10) 65536 A) (4+i*10+7) 20=se at *;clear m' bR g0;have bR:=aX C.et;have Z:=ad (rH C.ls (i+1) 9 8192 4 0 (se (4+i*10)) 9 rfl I I I I I I (C.ho 0 I));refine RV;clear s' Z bR;refine aK;go_meet;rw[aj1.o];exact m'.o
 clear m';have C:=hcut;generalize akB:lJ i (4+i*10) f (cE a 32) (A,ys)=t at *;have akk:Hid (lJ i (4+i*10) f (cE a 32) (kj i (4+i*10) f (cE a 4) (kW (4+i*10) a v,xs))=t):=ad (by rw[akj.out,akB]);clear akB akj hcut bR;have⟨se,cb⟩:=t;have C:dY w l (w.heap.size+1+1) (4+i*10) v se f u1 cb wc:=C;have bR:=aX C.et;have hm:=ad (afd _ _ 61440 131072 (C.ho 2 I) (C.ho 3 I) eN eN);refine Td;have aj6:=y0 (se (4+i*10+2)) (se (4+i*10+3)) 61440 131072;have ax:=ad (C.rT _ _ aj6.1 aj6.2);clear bR m' aka hm aj6;refine sl;clear C;go_upto_region 31 with fail
 have C:dY w l (w.heap.size+1+1) (4+i*10) v (wY (4+i*10) se) f u1 cb _:=ax.o;refine DF;generalize akC:wY (4+i*10) se=p at *;have akl:Hid (iM i a f (v,xs)=(p,cb)):=ad (by unfold iM;dsimp only;rw[akk.o,<-akC]);clear akC akk bR g0 ax;have fo:=w6 (p (4+i*10)) (p (4+i*10+2)) (-3932160) 3932160 1 2 (C.ho 2 I) eN eN;have mv:=w6 (p (4+i*10+1)) (p (4+i*10+3)) (-3932160) 3932160 4 8 (C.ho 3 I) eN eN;have aj9:=ae8 (p (4+i*10)) (p (4+i*10+1)) (p (4+i*10+2)) (p (4+i*10+3)) (-3932160) (-3932160) 3932160 3932160 (C.ho 0 I) (C.ho 1 I) (C.ho 2 I) (C.ho 3 I);change aZ (jT (4+i*10) p).1/\aZ (jT (4+i*10) p).2.1 at fo;change aZ (jU (4+i*10) p).1/\aZ (jU (4+i*10) p).2.1 at mv;change ∀ w,aB 111 #[aG #[af (p (4+i*10)),af (p (4+i*10+1))],aG #[af (p (4+i*10+2)),af (p (4+i*10+3))],aG (d' (-3932160) (-3932160) 3932160 3932160)] w λe w'=>e=aV #[aG #[af (jT (4+i*10) p).1,af (jU (4+i*10) p).1],aG #[af (jT (4+i*10) p).2.1,af (jU (4+i*10) p).2.1],aa ((jT (4+i*10) p).2.2+(jU (4+i*10) p).2.2)]/\Below w w w' at aj9;have ajY:=ad aj9;refine p9;have B:Hid (oi w l (w.heap.size+1+1) (4+i*10) v p f u1 cb none none a'.drew):=⟨C.keep (bd a').drew,(λ_ e=>nomatch e),(λ_ e=>nomatch e),(λ_ _ e=>nomatch e)⟩;clear C fo mv aj9;obtain⟨X,fo⟩:∃ X,jT (4+i*10) p=X:=⟨_,rfl⟩;obtain⟨Y,mv⟩:∃ Y,jU (4+i*10) p=Y:=⟨_,rfl⟩;rw[fo,mv]at ajY;rw[fo,mv]at Q;have r':=bN fo mv;clear fo mv;go_cut [15,16,17]from 165 to 174 (λx y z bE=>∃ c d:J,x=(c:ay)/\y=(d:ay)/\z=aa (X.2.2+Y.2.2)/\bE.heap[c]?=some (ab #[af X.1,af Y.1] 91 (0,0))/\bE.heap[d]?=some (ab #[af X.2.1,af Y.2.1] 91 (0,0))/\dY w l (w.heap.size+1+1) (4+i*10) v p f u1 cb bE)
 case first=>
  have⟨G,s⟩:=gg (F:=λW=>dY w l (w.heap.size+1+1) (4+i*10) v p f u1 cb W);have bR:=λx:bA G=>aX ((s _).1 x.held).et;have sd:∀ w,aB 112 #[aa 60] w λe w'=>e=aG (d' (-3932160) (-3932160) 3932160 3932160)/\Below w w w':=Od 60 bs;have akF:=ad sd;have H:=ad s;have V:=(s _).2 B.o.pl;clear sd s;refine cS 15 ?_;refine cJ G (.range 15) 0 15 ?_;refine dN V (.range 4) 11 ?_;generalize a'.drew=P at *;clear bR
  iterate 4 (
   all_goals first
    | refine Fj 4 10 11 (λK q=>?_) (λK q=>?_) (λK q=>?_)
    | refine Fj 5 10 11 (λK q=>?_) (λK q=>?_) (λK q=>?_)
    | refine mo 4 10 (λK q=>?_) (λK q=>?_)
    | refine mo 4 11 (λK q=>?_) (λK q=>?_)
    | refine mo 5 10 (λK q=>?_) (λK q=>?_)
    | refine mo 5 11 (λK q=>?_) (λK q=>?_)
    | refine mo 10 11 (λK q=>?_) (λK q=>?_)
    | refine wo 4 λK q=>?_
    | refine wo 5 λK q=>?_
    | refine wo 10 λK q=>?_
    | refine wo 11 λK q=>?_
   all_goals simp only[cD,gS]
   all_goals first
    | (obtain⟨c,aj2,T',hm⟩:=B.o.aQ;refine w9 15 T' ?_;have B:=ad hm;clear T' hm;refine q _ _ ((H.o _).2 B.o.pl) ?_;clear q K;simp only[Act.put,dV])
    | (obtain⟨d,aj2,T',hm⟩:=B.o.acX;refine w9 16 T' ?_;have B:=ad hm;clear T' hm;refine q _ _ ((H.o _).2 B.o.pl) ?_;clear q K;simp only[Act.put,dV])
    | (go_simp;refine aS (akF.o _) λw' k=>?_;have B:=ad (B.o.call k);refine q _ _ ((H.o _).2 B.o.pl) ?_;clear q K k)
    | (go_simp;refine aS (ajY.o _) λw' k=>?_;have B:=ad (B.o.call k);refine q _ _ ((H.o _).2 B.o.pl) ?_;clear q K k;first|refine dN ((H.o _).2 B.o.pl) [6,7,8,9] 3 ?_|refine dN ((H.o _).2 B.o.pl) [6,7,8,9] 4 ?_|refine dN ((H.o _).2 B.o.pl) [6,7,8,9] 5 ?_))
  all_goals
   have aT:=B.o;have cf:¬ c=d:=aT.n _ _ rfl rfl;have akZ:¬ d=c:=h4 cf;have bI:=aX (aT.c _ rfl).1;have g1:=bV (aT.c _ rfl).1;have ak0:=aX (aT.d _ rfl).1;have g2:=bV (aT.d _ rfl).1;have ajS:=bN (aT.half X.1 Y.1) (aT.fin X.1 Y.1 X.2.1 Y.2.1);clear aT B;refine hG 12 ((H.o _).2 ajS.o.1) ?_;refine hG 13 ((H.o _).2 ajS.o.2.2.2) ?_;refine iV 14 ((H.o _).2 ajS.o.2.2.2) ?_;go_wp2_with fail;go_meet;exact⟨c,d,rfl,rfl,rfl,ajS.o.2⟩
 obtain⟨c,d,rfl,rfl,rfl,L,hd,C⟩:=hcut;have akP:¬ c=w.heap.size+1+1:=λe=>by rw[e,C.et]at L;injection L with h;injection h with _ h2;exact absurd h2 oa
 have akQ:¬ d=w.heap.size+1+1:=λe=>by rw[e,C.et]at hd;injection hd with h;injection h with _ h2;exact absurd h2 oa
 refine j1;have akR:=aX hd;refine sl;have akf:=ad (((C.eR 0 I .i32 rfl X.1 (λ_=>Q.o.1.1) a1).eR 1 I .i32 rfl Y.1 (λ_=>Q.o.2.1) a1).rT X.2.1 Y.2.1 Q.o.1.2 Q.o.2.2);have hm:kS i f (p,cb)=(ru (4+i*10) p,if 0<X.2.2+Y.2.2 then fM f cb (hn (i+1) 3 3 8192 3 0 (ru (4+i*10) p (4+i*10)))else cb):=by
  have:=aiN (p (4+i*10)) (p (4+i*10+2)) (-3932160) 3932160 (p (4+i*10+1)) (p (4+i*10+3)) (-3932160) 3932160
  change (bits .or .i64 (jT (4+i*10) p).2.2 (jU (4+i*10) p).2.2 != 0)=decide (0<(jT (4+i*10) p).2.2+(jU (4+i*10) p).2.2)at this;rw[r'.out.1,r'.out.2]at this;unfold kS;dsimp only;rw[r'.out.1,r'.out.2];simp only[this,hf]
 have V':ru (4+i*10) p=pW (4+i*10) X.2.1 Y.2.1 (bn (bn p (4+i*10+0) X.1) (4+i*10+1) Y.1):=by
  unfold ru pW;rw[r'.out.1,r'.out.2];rfl
 rw[V']at hm;have ajX:=ad hm;clear C L hd ajY B hm V';go_upto_region 34 with fail
 have C:=akf.o;generalize pW (4+i*10) X.2.1 Y.2.1 (bn (bn p (4+i*10+0) X.1) (4+i*10+1) Y.1)=v9 at *;generalize World.setCell (World.setCell (World.setCell (World.setCell _ _ _) _ _) _ _) _ _=akT at *;clear akf dq akR bR g0 akP akQ;have bR:=aX C.et;refine dU;have Z:=ad (rH C.ls (i+1) 3 8192 3 0 (v9 (4+i*10)) 3 rfl I I I I I I (C.ho 0 I));clear C;go_upto_if 180 with fail
 go_cut [1]from 180 to 188 (λgf bE=>dY w l (w.heap.size+1+1) (4+i*10) v (kS i f (p,cb)).1 f gf (kS i f (p,cb)).2 bE)
 case first=>
  by_cases al:0<X.2.2+Y.2.2
  .have aj0:=ad al;refine Tn;clear s' Z bR;refine aK;go_meet;rw[ajX.o,aD aj0.o];exact m'.o
  have aj0:=ad al;refine aK;go_meet;rw[ajX.o,az (by have:=aj0.o;omega)];exact m'.o
 clear m' Z bR;have C:=hcut;generalize V':kS i f (p,cb)=t at *;have akm:Hid (kS i f (iM i a f (v,xs))=t):=ad (by rw[akl.out,V']);clear V' hcut ajX r' Q akl;have⟨m,ak3⟩:=t;have C:dY w l (w.heap.size+1+1) (4+i*10) v m f u1 ak3 wc:=C;rw[akm.o]at ajZ;have ajU:0<=m (4+i*10+6)/\m (4+i*10+6)<=8:=by
  have:=akG.o
  change 0<=(kS i f (iM i a f (v,xs))).1 (4+i*10+6)/\(kS i f (iM i a f (v,xs))).1 (4+i*10+6)<=8 at this
  rwa [akm.o]at this
 have akX:=ad ajU;have akr:∀ k,k<=6->(∀ j,j<k->m (24+j*6+4)≠0)->(k=6\/cE a 16=false\/¬ m (4+i*10+6)=0)->R=(m,ak3):=λk hk N L=>by
  rw[ajZ.o];split
  .rename_i ao;unfold ov;dsimp only;split
   .rfl
   rcases L with rfl|L|L
   .rw[yh m 6 bu N];rfl
   .rw[ao]at L;cases L
   exfalso;omega
  rfl
 have akq:∀ k,k<6->(∀ j,j<k->m (24+j*6+4)≠0)->cE a 16=true->m (4+i*10+6)=0->m (24+k*6+4)=0->R=(bn (cI (24+k*6) 6 (pO (cY (m (4+i*10)) (gH (m (4+i*10+4)) 262144)) (cY (m (4+i*10+1)) (gI (m (4+i*10+4)) 262144)) (gH (m (4+i*10+4)) 196608) (gI (m (4+i*10+4)) 196608) (i+1) 40) m) (4+i*10+6) 8,fM f ak3 (hn (i+1) 1 1 16384 5 0 (m (4+i*10)))):=λk hk N ao L ak2=>by
  have akL:re m 0 6=some k:=by
   rw[yh m k b4 N,show 6-k=(6-(k+1))+1 by omega];exact aD ak2
  rw[ajZ.o,aD ao];unfold ov;dsimp only;rw[az b4,akL]
 have ajT:=bN akr akq;refine dU;clear C ajU akr akq
 go_upto_block 0 with fail
 go_cut [1,18]from 189 to 233 (λgf _ bE=>∃ ps,dY w l (w.heap.size+1+1) (4+i*10) ps R.1 f gf R.2 bE)
 case first=>
  refine aK;go_loopg [1,18] 6 (λg gf z wr=>∃ k:J,g=6-k/\k<=6/\z=aa k/\(((∀ j,j<k->m (24+j*6+4)≠0)/\dY w l (w.heap.size+1+1) (4+i*10) v m f gf ak3 wr)\/(cE a 16=true/\(∃ ps,dY w l (w.heap.size+1+1) (4+i*10) ps R.1 f gf R.2 wr)/\R.1 (4+i*10+6)=8)))
  case atStart=>exact⟨0,rfl,I,rfl,.inl ⟨λj akv=>absurd akv (lD j),m'.o⟩⟩
  obtain⟨k,a7,hk,rfl,fr⟩:=hrel;rcases fr with⟨N,C⟩|⟨ao,⟨ps,C⟩,S⟩
  .have bR:=aX C.et;by_cases ajV:k<6
   .cases ao:cE a 16
    .have al:=T.o.2.2.2.2.1.symm.trans ao;have e:=ad (ajT.o.1 k hk N (.inr (.inl ao)));refine dU;clear C ao N;exact IE
    have al:=T.o.2.2.2.2.1.symm.trans ao;by_cases L:m (4+i*10+6)=0
    .have aku:(m (4+i*10+6) == 0)=true:=iY.2 L;have akI:wr.cell? (ah w (24+k*6+4))=some (aa (m (24+k*6+4))):=by
      rw[<-C.un _ (show 24+k*6+4<4+i*10\/4+i*10+10<=24+k*6+4 by omega)];exact bb C.cZ (by rw[dO v b4,t' k ajV 4 b4];rfl)
     by_cases ak2:m (24+k*6+4)=0
     .have z0:(m (24+k*6+4) == 0)=true:=iY.2 ak2;have ake:=ad (ajT.o.2 k ajV N ao L ak2);have vs:=ad ao;refine dU;clear C ao N L ak2;go_upto_region 40 with fail
      clear bR aku akI z0 al;have C:=m'.o.keep (bd wr).drew;obtain⟨G,s⟩:=gg (F:=λW=>dY w l (w.heap.size+1+1) (4+i*10) v m f u1 ak3 W);refine Su;have V:=(s wr.drew).2 C;have fr:=bN (BH (m (4+i*10+4)) 262144 C.e' eN) (bx (yS (a:=m (4+i*10)) (b:=m (4+i*10+1)) (C.ho 0 I) (C.ho 1 I) (show aZ (gH (m (4+i*10+4)) 262144)from jx _ _) (show aZ (gI (m (4+i*10+4)) 262144)from jx _ _)) (BH (m (4+i*10+4)) 196608 C.e' eN));have H:=ad s;clear C s m';generalize cY (m (4+i*10)) (gH (m (4+i*10+4)) 262144)=Q' at *;generalize cY (m (4+i*10+1)) (gI (m (4+i*10+4)) 262144)=Tq at *;generalize gH (m (4+i*10+4)) 196608=zd at *;generalize gI (m (4+i*10+4)) 196608=zp at *;refine cS 16 ?_;refine cJ G (.range 14) 2 14 ?_;refine dN V [0,1,2,3,4,7,8,10,11,13] 4 ?_;refine vr;refine wI 5 (fr.o.1 _) λakV g'=>⟨u.o _ _ V g',?_⟩;have v':=u.o _ _ V g';refine wI 6 (fr.o.2.1 _) λakW lb=>⟨u.o _ _ v' lb,?_⟩;have vl:=u.o _ _ v' lb;refine wI 9 (fr.o.2.2 _) λa' aj'=>⟨u.o _ _ vl aj',?_⟩;have aj_:=u.o _ _ vl aj';refine jh 12 λK q=>?_;go_simp;refine q _ _ aj_ ?_;obtain⟨aj2,akw,ax⟩:=((H.o _).1 aj_).row 96 (24+k*6) 6 #[af Q',af Tq,af zd,af zp,aa (i+1),aa 40] _ sizeOf96 rfl I (Gs Q' Tq zd zp (i+1) 40 k ajV);have m':=ad ax;clear q K cp V v' vl aj_ u H fr g' lb aj' ax;refine cJ (λW=>0<=W.heap.size) [14,15] 0 2 ?_;refine hG 14 (c3 _) ?_;refine pE 15 (c3 _) (l3 rfl rfl rfl akw) ?_;refine p';clear akw;have bR:=aX m'.o.et;have g0:=bV m'.o.et;have m':=ad (m'.o.eR 6 I .i64 rfl 8 a1 a1);go_upto_region 42 with fail
      have C:=m'.o;generalize World.setCell _ _ _=ak1 at *;clear m' bR g0;have akn:bn (cI (24+k*6) 6 (pO Q' Tq zd zp (i+1) 40) m) (4+i*10+6) 8 (4+i*10)=m (4+i*10):=by rw[c0 _ _ _ _ I,iI _ _ _ _ _ I]
      have akp:bn (cI (24+k*6) 6 (pO Q' Tq zd zp (i+1) 40) m) (4+i*10+6) 8 (4+i*10+6)=8:=pV _ _ _;generalize bn (cI (24+k*6) 6 (pO Q' Tq zd zp (i+1) 40) m) (4+i*10+6) 8=akS at *;have E:=bN akn akp;clear akn akp;have bR:=aX C.et;have Z:=ad (rH C.ls (i+1) 1 16384 5 0 (akS (4+i*10)) 1 rfl I I I I I I (C.ho 0 I));refine dU;clear C;refine Tn;clear s' Z bR;refine aK;go_roundg (6-(k+1))
      case rel=>exact⟨k+1,rfl,I,cT,.inr ⟨vs.o,⟨_,by rw[ake.o,<-E.out.1];exact m'.o⟩,by rw[ake.o];exact E.out.2⟩⟩
      omega
     have z0:(m (24+k*6+4) == 0)=false:=ep.2 ak2;refine dU;have akH:=ad (show ∀ j,j<k+1->m (24+j*6+4)≠0 from λj akv=>by
      by_cases e:j=k
      .subst e;exact ak2
      .exact N j b4)
     clear C ao N L ak2;refine aK;go_roundg (6-(k+1))
     case rel=>exact⟨k+1,rfl,I,cT,.inl ⟨akH.o,m'.o⟩⟩
     omega
    have aku:(m (4+i*10+6) == 0)=false:=ep.2 L;have e:=ad (ajT.o.1 k hk N (.inr (.inr L)));refine dU;clear C ao N L;exact IE
   have e:=ad (ajT.o.1 k hk N (.inl b4));refine dU;clear C N;exact IE
  have bR:=aX C.et;have al:=T.o.2.2.2.2.1.symm.trans ao;have akJ:(R.1 (4+i*10+6) == 0)=false:=ep.2 (by rw[S];decide);refine dU;clear C S ao;by_cases ajV:k<6
  .refine aK;go_meet;exact⟨ps,m'.o⟩
  refine aK;go_meet;exact⟨ps,m'.o⟩
 obtain⟨ps,C⟩:=hcut;obtain⟨akY,aj2,akM,bK,akN,akO,akE,g',lb⟩:=C.fin;have ajR:=bN akE (bx g' (bx lb C.fq));clear m' C akE g' lb;go_wp2_with first|refine dg akM rfl rfl rfl ?_|refine c' bK rfl rfl rfl rfl ?_|refine dg akN rfl rfl rfl ?_|refine c' akO rfl rfl rfl rfl ?_
 refine dj (v:=aV #[.agg (aQ R.1),_]) ajR.o.1 ?_;exact⟨_,rfl,ajR.o.2.1,ajR.o.2.2.1,ajR.o.2.2.2⟩
end
section
variable{w w':aj}{l:ay}{fr a b:U}{xs ys:ai aE}{o k:J}{u v:J->U}
def Og(b:Mid c f r v)(d:hh w l f xs)(e:0<=f/\f<=1000000)(i:J)(av:i<2)(a:U)(bg:0<=a/\a<=63):aB 67 #[.agg (aQ v),l,aa i,aa a] w (vH w l f (fw i a f (v,xs))):=by
 by_cases h1:1<v (4+i*10+8)
 .exact ae3 b d i av a h1
 by_cases h2:v (4+i*10+8)=1
 .exact afa b d e i av a h2
 exact afh b d e i av a bg (by
  have:0<=v (4+i*10+8)/\_:=(b.pl _ (kR i av)).e5
  omega)
def acV(h:∀ j,j<60->u j=v j):aQ u=aQ v:=by
 unfold aQ
 congr 1
 exact map_congr_left λj a=>by rw[h j (p1.1 a)]
def E0(fr aN a:U):J->U:=cI 24 36 (λ_=>0) (cI 4 20 mm λj=>if j=0 then fr else if j=1 then aN else if j=2 then a else 600)
def afS(fr aN a:U)(w:aj):(Instr.build 99 #[(0,aa fr),(1,bz aN),(2,aa a),(3,aa 600),(4,.agg (fm (-2097152) 0++fm 2097152 32768))]).run prog w=.ok (.agg (aQ (E0 fr aN a))) w:=bc
def adp(v:J->U)(x:U):aQ (E0 (v 0) (v 1) (v 2+1))=aQ (cI 24 36 (λ_=>0) (cI 4 20 mm (bn (bn (bn v 3 x) 2 (v 2+1)) 3 600))):=acV λj a=>by
 unfold E0 cI bn;by_cases h1:24<=j
 .simp only[aD (show 24<=j/\j<24+36 by omega)]
 simp only[az (show ¬ (24<=j/\j<24+36)by omega)];by_cases h2:4<=j
 .simp only[aD (show 4<=j/\j<4+20 by omega)]
 simp only[az (show ¬ (4<=j/\j<4+20)by omega)]
 have:j=0\/j=1\/j=2\/j=3:=I
 rcases this with rfl|rfl|rfl|rfl<;>rfl
structure hz(w:aj)(a b fr:U)(u:J->U)(l:ay)(xs:ai aE)(W:aj):ae where
 cZ:W.heap[w.heap.size]?=some (ab (aQ u) 99 (0,0))
 bi:W.heap[w.heap.size+1]?=some (ab #[bf a,bf b] 101 (0,0))
 eH:W.heap[w.heap.size+1+1]?=some (ab (aQ bW) 99 (0,0))
 ls:hh W l fr xs
 of:∀ j,l.ownBlock=some j->w.heap.size+3<=j
 bF:ag (λj=>w.heap.size<=j) w W
namespace hz
variable{W W':aj}
theorem keep(h:hz w a b fr u l xs W)(hk:ag aH W W'):hz w a b fr u l xs W':=
 {h with cZ:=hk.heap h.cZ id,bi:=hk.heap h.bi id,eH:=hk.heap h.eH id,ls:=h.ls.keep hk λ_ _=>id,bF:=h.bF.trans (hk.mono λ_ _ e=>e.elim)}
theorem b8{l':ay}(h:hz w a b fr u l xs W)(ao:om W l fr ys l' W'):hz w a b fr u l' ys W':=
 have hk:ag aH W W':=ag.bU ao.be a1
 {h with cZ:=hk.heap h.cZ id,bi:=hk.heap h.bi id,eH:=hk.heap h.eH id,ls:=ao.ls,of:=λj c=>(ao.fq j c).elim (h.of j) (λe=>by have:=bZ h.eH;omega),bF:=h.bF.trans (hk.mono λ_ _ e=>e.elim)}
theorem eR(h:hz w a b fr u l xs W)(s:J)(q:IntKind)(c:dw s=q)(x:U):hz w a b fr (bn u s x) l xs (W.setCell (ah w s) (.int q x)):=
 have hk:=(ag.refl (λj=>j=w.heap.size) W).setCell (p:=ah w s) rfl _
 {h with cZ:=B0 h.cZ s q c x,bi:=hk.heap h.bi I,eH:=hk.heap h.eH I,ls:=h.ls.keep hk λj d e=>ts,bF:=h.bF.trans (hk.mono λj _ e=>b4)}
def bw(h:hz w a b fr u l xs W)(c:u 0=fr):W.cell? (ah w 0)=some (aa fr):=by
 rw[<-c];exact bb h.cZ (dO u b4)
def put(h:hz w a b fr u l xs W)(v:J->U):∃ f,(Instr.storeAt 99 w (.agg (aQ v))).run prog W=.ok () f/\hz w a b fr v l xs f:=by
 have⟨h1,h2,c⟩:=dT W 99 60 w (aQ v) _ sizeOf99 (dX _) (dX _) h.cZ (rr v);exact⟨_,h1,{h with cZ:=fb _ _ _ _ _ h.cZ,bi:=c.heap h.bi I,eH:=c.heap h.eH I,ls:=h.ls.keep c λj d e=>ts,bF:=h.bF.trans (c.mono λj _ e=>b4)}⟩
def ret(h:hz w a b fr u l xs W):∃ c,(Instr.loadAt 99 w).run prog W=.ok (.agg (aQ u)) W/\(Instr.storeAt 99 (w.heap.size+1+1:J) (.agg (aQ u))).run prog W=.ok () c/\(loadCellsFrom (ah (w.heap.size+1+1) 0) 0 60 #[]).run prog c=.ok (aQ u) c/\hh c l fr xs/\Below w w c/\∀ j,l.ownBlock=some j->w.heap.size<=j:=by
 have⟨c,h1,h2,g,f⟩:=y2 h.cZ h.eH;exact⟨c,h1,h2,g,h.ls.keep f (λj d e=>ts),(h.bF.trans (f.mono λj _ e=>b4)).below bu a1,λj d=>ts⟩
def made(w:aj)(v:J->U)(a b fr:U):hz w a b fr v (au (bT (w.heap.size+1+1+1)) 0 0) [] ((((w.alloc (ab (aQ v) 99)).alloc (ab #[bf a,bf b] 101)).alloc (ab (aQ bW) 99)).alloc (ab #[] 45)):=by
 have h1:=aP (w.alloc (ab (aQ v) 99)) (ab #[bf a,bf b] 101);have h2:=aP ((w.alloc (ab (aQ v) 99)).alloc (ab #[bf a,bf b] 101)) (ab (aQ bW) 99);have c:=aP (((w.alloc (ab (aQ v) 99)).alloc (ab #[bf a,bf b] 101)).alloc (ab (aQ bW) 99)) (ab #[] 45);simp only[ft]at h1 h2 c;exact⟨b2 (b2 (b2 (aP w _) _) _) _,b2 (b2 h1 _) _,b2 h2 _,⟨FH (c3 _) c,⟨Pairwise.nil,aM,aM⟩,qe.nil fr⟩,λj d=>by cases d;exact dm _,(((((ag.refl (λj=>w.heap.size<=j) w).alloc (ab (aQ v) 99)).alloc (ab #[bf a,bf b] 101)).alloc (ab (aQ bW) 99)).alloc (ab #[] 45))⟩
end hz
structure vL(w:aj)(a b fr:U)(u:J->U)(l:ay)(xs:ai aE)(c d:J)(W:aj):ae where
 st:hz w a b fr u l xs W
 bw:W.heap[c]?=some (ab (fv 4 u) 93 (0,0))
 d0:W.heap[d]?=some (ab (fv 14 u) 93 (0,0))
 Eg:c≠w.heap.size
 YY:d≠w.heap.size
theorem vL.keep{W W':aj}{c:J}(h:vL w a b fr u l xs c d W)(hk:ag aH W W'):vL w a b fr u l xs c d W':=
 {h with st:=h.st.keep hk,bw:=hk.heap h.bw id,d0:=hk.heap h.d0 id}
def qL:a6 ay:=#[af 0,af 0,af 0,af 0,aa 0,aa 0,aa 0,aa 0,aa 0,aa 0]
def D_(w:aj):(Instr.alloc 93 true (aV #[])).run prog w=.ok w (w.alloc (ab qL 93)):=bc
def hz.two{W:aj}{c:J}(h:hz w a b fr u l xs W)(an:W.heap[c]?=some (ab qL 93 (0,0)))(hd:W.heap[d]?=some (ab qL 93 (0,0)))(aw:c≠d)(lc:w.heap.size+3<=c)(ld:w.heap.size+3<=d)(qz:l.ownBlock≠some c)(cv:l.ownBlock≠some d):∃ f i,(Instr.storeAt 93 c (.agg (fv 4 u))).run prog W=.ok () f/\hz w a b fr u l xs f/\(Instr.storeAt 93 d (.agg (fv 14 u))).run prog f=.ok () i/\vL w a b fr u l xs c d i:=by
 obtain⟨h1,_,k⟩:=dT W 93 10 c (fv 4 u) _ sizeOf93 rfl rfl an bc;have h2:=fb W c _ (fv 4 u) 93 an
 have hk:∀ {W W':aj} {j},hz w a b fr u l xs W->ag (λx=>x=j) W W'->w.heap.size+3<=j->l.ownBlock≠some j->hz w a b fr u l xs W':=λh hk q ar=>
  {h with cZ:=hk.heap h.cZ I,bi:=hk.heap h.bi I,eH:=hk.heap h.eH I,ls:=h.ls.keep hk λ_ n o=>ar (o▸n),bF:=h.bF.trans (hk.mono λj _ e=>b4)}
 have hd:=k.heap hd (λe=>aw e.symm);have g:=hk h k lc qz;generalize World.setRow _ _ _=f at *;obtain⟨p,_,m⟩:=dT f 93 10 d (fv 14 u) _ sizeOf93 rfl rfl hd bc;exact⟨f,_,h1,g,p,hk g m ld cv,m.heap h2 aw,fb f d _ (fv 14 u) 93 hd,I,I⟩
end
section
variable{w w':aj}{l:ay}{fr:U}{xs ys:ai aE}{o k:J}{u v:J->U}
def afe(fo:Mid 2 f r v)(aj9:0<=f/\f<=1000000)(ajT:0<=r/\r<=1000000)(a b:U)(bg:0<=a/\a<=63)(al:0<=b/\b<=63):aB 43 #[.agg (aQ v),aG #[bf a,bf b]] w λe w'=>∃ l',e=aV #[.agg (aQ (jB a b v)),l']/\hh w' l' f (lu a b v)/\Below w w w'/\∀ j,l'.ownBlock=some j->w.heap.size<=j:=by
 obtain⟨V,V'⟩:∃ V,jB a b v=V:=⟨_,rfl⟩;obtain⟨E,T'⟩:∃ E,lu a b v=E:=⟨_,rfl⟩;rw[V',T'];have p:stepG a b (v 0) v=kc f (hM f (jO f (fw 1 b f (fw 0 a f (v,[])))) 6):=by rw[fo.f0];rfl
 have akf:=ad (V'.symm.trans (show jB a b v=bn (kc f (hM f (jO f (fw 1 b f (fw 0 a f (v,[])))) 6)).1 0 (f+1)by unfold jB;rw[p,fo.f0]));have akd:=ad (T'.symm.trans (show lu a b v=(kc f (hM f (jO f (fw 1 b f (fw 0 a f (v,[])))) 6)).2 by unfold lu;rw[p]));have m1:=wE fo 0 I a f [];have aj7:∀ w l xs,hh w l f xs->aB 67 #[.agg (aQ v),l,aa 0,aa a] w (vH w l f (fw 0 a f (v,xs))):=λw l xs h=>Og fo h aj9 0 I a bg;have aj4:=ad aj7;generalize aj':fw 0 a f (v,[])=s1 at *;have aj5:=ad aj';have b5:=ad m1;have H:=bN aj9 (bx ajT (bx bg al));have ajR:=kh ((w.alloc (ab (aQ v) 99)).alloc (ab #[bf a,bf b] 101));simp only[ft]at ajR;have q:=ad (hz.made w v a b f);clear fo V' T' p aj7 aj' m1 ajT
 go_in
 go_upto_region 2 with first|refine eL ajR rfl rfl ?_|fail
 generalize World.alloc (World.alloc (World.alloc (World.alloc w _) _) _) _=W at *;have n:=q.o;clear q ajR;generalize (Value.slice (some {block:=w.heap.size+1+1+1,off:=0}) 0 0)=ds at *;have M:=ks n.cZ;have bR:=aX n.bi;have aU:=ad (aj4.o W ds [] n.ls);rw[aj5.o]at aU;have q:=ad n;clear n aj5;go_wp2_with first|refine dg M rfl rfl rfl ?_|fail
 refine aU.o.mono ?_;rintro e aq ⟨ajY,rfl,z⟩;obtain⟨akA,h1,n⟩:=(q.o.b8 z).put s1.1;clear aU M bR q z aj4;obtain⟨v1,cm⟩:=s1;have M:=ks n.cZ;have bR:=aX n.bi;have aU:=ad (Og b5.o n.ls H.o.1 1 I b H.o.2.2.2);have m2:=wE b5.o 1 I b f cm;generalize fw 1 b f (v1,cm)=s2 at *;have q:=ad n;clear n b5;have b5:=ad m2;clear m2;go_upto_region 3 with first|refine c' h1 rfl rfl rfl rfl ?_|fail
 clear h1;go_wp2_with first|refine dg M rfl rfl rfl ?_|fail
 refine aU.o.mono ?_;rintro e aF ⟨hd,rfl,z⟩;obtain⟨m',h1,n⟩:=(q.o.b8 z).put s2.1;clear aU M bR q z;obtain⟨v2,cB⟩:=s2;have q:Hid (hz w a b f v2 hd cB m'):=ad n;clear n;go_upto_region 4 with first|refine c' h1 rfl rfl rfl rfl ?_|fail
 clear h1;go_cut [7,8]from 29 to 34 (λx y bE=>∃ c d:J,x=(c:ay)/\y=(d:ay)/\vL w a b f v2 hd cB c d bE)
 case first=>
  have n:=q.o.keep (bd m').drew;obtain⟨G,p⟩:=gg (F:=λW=>hz w a b f v2 hd cB W);have ds:∀ W,(∃ x:bA G,W=x.to)->(Instr.loadAt 93 (.pointer (dk w 4))).run prog W=.ok (.agg (fv 4 v2)) W:=λW ⟨x,ak⟩=>ak▸wM ((p _).1 x.held).cZ (.inl rfl);have ajY:∀ W,(∃ x:bA G,W=x.to)->(Instr.loadAt 93 (.pointer (dk w 14))).run prog W=.ok (.agg (fv 14 v2)) W:=λW ⟨x,ak⟩=>ak▸wM ((p _).1 x.held).cZ (.inr rfl);have S:=(p m'.drew).2 n;have D:=ad p;clear q p;refine cS 10 ?_;refine cJ G (.range 10) 0 10 ?_;refine pz S (.range 6) 4 λ_=>?_
  repeat (first|(refine rV ds rfl rfl rfl ?_;simp only[Act.put,dV])|(refine rV ajY rfl rfl rfl ?_;simp only[Act.put,dV])|go_big_quiet_step (fail))
  refine wpQuiet_nil ?_;generalize m'.drew=O at *;clear ds ajY;have gf:=bZ n.eH;have aw:∀ j,O.heap.size<=j->hd.ownBlock≠some j:=λj akC e=>by have:=n.ls.lt j e;omega
  have aj3:=b2 (aP O (ab qL 93)) (ab qL 93);have v':=aP (O.alloc (ab qL 93)) (ab qL 93);rw[ft]at v';have zd:=n.keep ((bd O).alloc (ab qL 93));have h2:=zd.keep ((bd _).alloc (ab qL 93));have ys:=D_ (O.alloc (ab qL 93));rw[ft]at ys;refine mo 6 7 (λK B=>?_) (λK B=>?_)
  all_goals simp only[cD,gS]
  .have⟨akg,akh,s1,i1,s2,Y⟩:=h2.two aj3 v' I I I (aw _ bu) (aw _ aM);have dr:=bN Y (bx ((D.o _).2 i1) ((D.o _).2 Y.st));refine w9 7 (D_ O) (B _ _ ((D.o _).2 zd) ?_);refine wo 7 λK B=>?_;simp only[cD,gS];refine w9 8 ys (B _ _ ((D.o _).2 h2) ?_);exact Rb
  have⟨akg,akh,s1,i1,s2,Y⟩:=h2.two v' aj3 I I I (aw _ aM) (aw _ bu);have dr:=bN Y (bx ((D.o _).2 i1) ((D.o _).2 Y.st));refine w9 8 (D_ O) (B _ _ ((D.o _).2 zd) ?_);refine wo 6 λK B=>?_;simp only[cD,gS];refine w9 7 ys (B _ _ ((D.o _).2 h2) ?_);exact Rb
 obtain⟨c,d,rfl,rfl,s⟩:=hcut;refine Re;have dr:=ad s;have Z:q8 v2=(decide (0<v2 12) || (decide (0<v2 22) || !jj (d_ (v2 14) (v2 4)) (d_ (v2 15) (v2 5)) (cY 262144 262144))):=rfl;have sd:=b5.o.pl 4 (.inl rfl);have se:=b5.o.pl 14 (.inr rfl);have Tq:0<=v2 12:=sd.e5.1;have ps:0<=v2 22:=se.e5.1;have aj8:=Oj (v2 4) (v2 5) 262144 (v2 14) (v2 15) 262144 (by have:_<=v2 4/\v2 4<=_:=sd.x;unfold aZ;omega) (by have:_<=v2 5/\v2 5<=_:=sd.y;unfold aZ;omega) eN (by have:_<=v2 14/\v2 14<=_:=se.x;unfold aZ;omega) (by have:_<=v2 15/\v2 15<=_:=se.y;unfold aZ;omega) eN;generalize jj (d_ (v2 14) (v2 4)) (d_ (v2 15) (v2 5)) (cY 262144 262144)=t at *;have zp:=ad aj8;have u:=ad Z;clear s q aj8 Z sd se;go_upto_region 5 with fail
 go_cut [49]from 35 to 49 (λx bE=>x=.bool (!q8 v2)/\vL w a b f v2 hd cB c d bE)
 case first=>
  by_cases g1:0<v2 12
  .have d1:(v2 12 == 0)=false:=ep.2 I;have Q:=ad (show(!q8 v2)=false by rw[u.o,dh g1];rfl);exact Rs
  have d1:(v2 12 == 0)=true:=iY.2 I;by_cases P:0<v2 22
  .have d2:(v2 22 == 0)=false:=ep.2 I;have Q:=ad (show(!q8 v2)=false by rw[u.o,dh P,zc,Bool.or_true];rfl);exact Rs
  have d2:(v2 22 == 0)=true:=iY.2 I;have Q:=ad (show(!q8 v2)=t by rw[u.o,cN g1,cN P,uT,uT,Bool.not_not]);clear u;refine jI;refine aS (zp.o _) λbr g'=>?_;have dr:=ad (dr.o.keep (ag.bU g' a1));clear zp g';exact Rz
 obtain⟨rfl,s⟩:=hcut;clear zp u bI akb dr;have fr:jO f (v2,cB)=if q8 v2=true then(v2,cB)else(bn (bn (bn (bn v2 6 (v2 16)) 7 (v2 17)) 16 (v2 6)) 17 (v2 7),fM f cB (hn 0 4 4 16384 6 0 0)):=rfl
 have m3:=Fu b5.o f cB;generalize jO f (v2,cB)=fF at *;have R:=ad fr;have z0:=b5.o.f0;have b5:=ad m3;have dr:=ad s;clear fr m3;generalize q8 v2=t at *;go_upto_if 49 with fail
 go_cut [6]from 49 to 63 (λx bE=>hz w a b f fF.1 x fF.2 bE)
 case first=>
  cases t
  .replace R:=ad (R.o.trans (az Bool.noConfusion));have cf:¬ c=w.heap.size:=s.Eg;have aks:¬ d=w.heap.size:=s.YY;refine Re;have g0:=bV s.st.cZ;have eI:wc.cell? (ah w 6)=some (af (v2 6)):=bb s.st.cZ (dO v2 I);have dv:wc.cell? (ah w 7)=some (af (v2 7)):=bb s.st.cZ (dO v2 I);have akl:wc.cell? (ah w 16)=some (af (v2 16)):=bb s.st.cZ (dO v2 I);have akm:wc.cell? (ah w 17)=some (af (v2 17)):=bb s.st.cZ (dO v2 I);have q:=ad ((((s.st.eR 6 .i32 rfl (v2 16)).eR 7 .i32 rfl (v2 17)).eR 16 .i32 rfl (v2 6)).eR 17 .i32 rfl (v2 7));have akc:=ad z0;clear s dr z0;go_upto_region 8 with fail
   have n:=q.o;generalize World.setCell _ _ _=akE at *;clear q bI akb g0 eI dv akl akm cf aks;have bw:=n.bw ((c0 _ _ _ _ b4).trans ((c0 _ _ _ _ b4).trans ((c0 _ _ _ _ b4).trans ((c0 _ _ _ _ b4).trans akc.o))));have s:=ad (rH n.ls 0 4 16384 6 0 0 4 rfl I ⟨H.o.1.1,by have:=H.o.1.2;omega⟩ I I I I eN);have q:=ad n;clear n;refine jI;refine s.o.mono ?_;rintro e akx ⟨akq,rfl,z⟩;have q:=ad (q.o.b8 z);clear s z bw;refine jI;go_meet;rw[R.o];exact q.o
  replace R:=ad (R.o.trans (aD rfl));clear s z0;refine jI;go_meet;rw[R.o];exact dr.o.st
 have n:hz w a b f fF.1 u6 fF.2 wc:=hcut;clear dr s z0 R;have q:=ad n;clear n;refine jI;go_loopg [6,9] 6 (λg x i wr=>∃ k:J,g=6-k/\k<=6/\i=aa k/\hz w a b f (hM f fF k).1 x (hM f fF k).2 wr)
 case atStart=>exact⟨0,rfl,I,rfl,q.o⟩
 obtain⟨k,a7,hk,rfl,aU⟩:=hrel;clear q;have mk:=Bq b5.o f k hk;by_cases gf:k<6
 .have ajS:wr.cell? (ah w (24+k*6+4))=some (aa ((hM f fF k).1 (24+k*6+4))):=bb aU.cZ (by rw[dO _ I,t' k gf 4 I];rfl);have ps:hM f fF (k+1)=nt k f (hM f fF k):=rfl;generalize hM f fF k=akw at *;obtain⟨N,aj2⟩:=akw;change wr.cell? (ah w (24+k*6+4))=some (aa (N (24+k*6+4)))at ajS;replace mk:Mid (2+k) f r N:=mk;have lb:=ad ps;by_cases T:N (24+k*6+4)=0
  .rw[T]at ajS;replace lb:=ad (lb.o.trans (show nt k f (N,aj2)=(N,aj2)from aD T));have q:=ad aU;clear aU mk ps T;refine jI;go_roundg (6-(k+1))
   case rel=>exact⟨k+1,rfl,I,cT,by rw[lb.o];exact q.o⟩
   omega
  have ako:1<=N (24+k*6+4):=by
   have:=((mk.pN k gf).resolve_left (λr'=>T (r' 4 I))).2.2.2.2.1
   exact this.1
  have d1:decide (0<N (24+k*6+4))=true:=dh I;have ax:=ad (afc mk b4 aU.ls H.o.1 gf T);have M:=ks aU.cZ;have q:=ad aU;clear aU mk ps T ako;generalize nt k f (N,aj2)=akv at *;go_wp2_with first|refine dg M rfl rfl rfl ?_|fail
  refine ax.o.mono ?_;rintro e akx ⟨akq,rfl,z⟩;obtain⟨akB,h1,n⟩:=(q.o.b8 z).put akv.1;have q:=ad n;clear n ax z M ajS d1;go_wp2_with first|refine c' h1 rfl rfl rfl rfl ?_|fail
  go_roundg (6-(k+1))
  case rel=>exact⟨k+1,rfl,I,cT,by rw[lb.out];exact q.o⟩
  omega
 obtain rfl:k=6:=I;clear hcut b5;generalize hM f fF 6=jz at *;obtain⟨m,ib⟩:=jz;replace aU:hz w a b f m u6 ib wr:=aU;replace mk:Mid (2+6) f r m:=mk;have fr:kc f (m,ib)=if pF m=true then(bn m 3 (m 3-1),ib)else(cI 24 36 (λ_=>0) (cI 4 20 mm (bn (bn (bn m 3 (m 3-1)) 2 (m 2+1)) 3 600)),fM f ib (hn 0 7 7 32768 12 0 0)):=rfl
 have Z:pF m=(decide (1<m 3)&&(decide (m 13<3)&&decide (m 23<3))):=rfl;have z0:m 0=f:=mk.f0;have z2:m 2=r:=mk.f2;have akD:1<=m 3/\m 3<=600:=mk.f3;have akz:0<=m 1/\m 1<=4294967295:=mk.f1;have akH:0<=m 13/\m 13<=2+6:=(mk.pl 4 (.inl rfl)).dF;have z23:0<=m 23/\m 23<=2+6:=(mk.pl 14 (.inr rfl)).dF;have e3:wr.cell? (ah w 3)=some (aa (m 3)):=bb aU.cZ (dO m I);have g0:=bV aU.cZ;have q:=ad (aU.eR 3 .i64 rfl (m 3-1));generalize kc f (m,ib)=X at *;have A:=ad fr;have u:=ad Z;have L:=bN z0 (bx z2 akz);clear aU mk fr Z gf z0 z2;go_upto_region 15 with fail
 have n:=q.o;generalize World.setCell _ _ _=vl at *;clear q e3 g0;have e3:vl.cell? (ah w 3)=some (aa (m 3-1)):=bb n.cZ (dO _ I);have akk:vl.cell? (ah w 13)=some (aa (m 13)):=bb n.cZ (dO _ I);have akn:vl.cell? (ah w 23)=some (aa (m 23)):=bb n.cZ (dO _ I);have q:=ad n;clear n;go_cut [101]from 85 to 101 (λx bE=>x=.bool (!pF m)/\hz w a b f (bn m 3 (m 3-1)) u6 ib bE)
 case first=>
  by_cases g1:1<m 3
  .have d1:(m 3-1 == 0)=false:=ep.2 I;by_cases P:m 13<3
   .have d2:decide (3<=m 13)=false:=cN I;by_cases g3:m 23<3
    .have d3:decide (3<=m 23)=false:=cN I;have Q:=ad (show(!pF m)=false by rw[u.o,dh g1,dh P,dh g3];rfl);exact Rq
    have d3:decide (3<=m 23)=true:=dh I;have Q:=ad (show(!pF m)=true by rw[u.o,dh g1,dh P,cN g3];rfl);exact Rq
   have d2:decide (3<=m 13)=true:=dh I;have Q:=ad (show(!pF m)=true by rw[u.o,dh g1,cN P];rfl);clear u g1 P;exact H7
  have d1:(m 3-1 == 0)=true:=iY.2 I;have Q:=ad (show(!pF m)=true by rw[u.o,cN g1];rfl);clear u g1;exact H7
 obtain⟨rfl,n⟩:=hcut;clear q u e3 akk akn;have q:=ad n;clear n;generalize pF m=t2 at *;go_upto_if 101 with fail
 go_cut [6]from 101 to 116 (λx bE=>hz w a b f X.1 x X.2 bE/\X.1 0=f)
 case first=>
  cases t2
  .replace A:=ad (A.o.trans (az Bool.noConfusion));have n:=q.o;have Tq:bn m 3 (m 3-1) 0=f:=(c0 m 3 0 _ b4).trans L.o.1;have bw:=n.bw Tq;have s:=ad (rH n.ls 0 7 32768 12 0 0 7 rfl I ⟨H.o.1.1,by have:=H.o.1.2;omega⟩ I I I I eN);have q:=ad n;have Q':=ad (adp m (m 3-1));clear n Tq;refine jI;refine s.o.mono ?_;rintro e aj1 ⟨akr,rfl,z⟩;have n:=q.o.b8 z;clear s z bw q;generalize fM f ib (hn 0 7 7 32768 12 0 0)=aky at *;have mv:Hid (bn m 3 (m 3-1) 0=f/\bn m 3 (m 3-1) 1=m 1/\bn m 3 (m 3-1) 2=r):=bN ((c0 m 3 0 _ b4).trans L.o.1) (bx (c0 m 3 1 _ b4) ((c0 m 3 2 _ b4).trans L.o.2.1));generalize bn m 3 (m 3-1)=aj0 at *;rw[L.o.1,L.o.2.1]at Q';rw[L.o.2.1]at A;have aj_:X.1 0=f:=(c6 (λx=>x.1 0) A.o).trans mv.o.1;have ake:=ad aj_;clear aj_;replace A:=ad (bx (c6 Prod.snd A.o) ((c6 (λx=>aQ x.1) A.o).trans Q'.o.symm));have q:=ad n;clear n Q';go_upto_region 17 with fail
   have n:=q.o.keep (bd aj1).drew;have⟨G,p⟩:=gg (F:=λW=>hz w a b f aj0 akr aky W);have a':=ad (λ(W W':aj) (akp:G W) (al:Below W W W')=>(p W').2 (((p W).1 akp).keep (ag.bU al a1)));have cp:∀ x:bA G,x.to.cell? (ah w 0)=some (aa f):=λx=>((p _).1 x.held).bw mv.o.1;have bS:∀ x:bA G,x.to.cell? (ah w 1)=some (bz (m 1)):=λx=>by rw[<-mv.o.2.1];exact bb ((p _).1 x.held).cZ (dO aj0 I)
   have akj:∀ x:bA G,x.to.cell? (ah w 2)=some (aa r):=λx=>by rw[<-mv.o.2.2];exact bb ((p _).1 x.held).cZ (dO aj0 I)
   have ajT:=H.o.2.1;have S:=(p aj1.drew).2 n;have r':∀ w,aB 66 #[aa 0] w λe w'=>e=.returned (.agg (fm (-2097152) 0))/\Below w w w':=BG 0 bs;have h1:∀ w,aB 66 #[aa 1] w λe w'=>e=.returned (.agg (fm 2097152 32768))/\Below w w w':=BG 1 bs;have s:=F';have ax:=afS f (m 1) (r+1);rw[<-A.o.2]at ax;have TS:=bN r' h1;have D:=ad p;generalize fm (-2097152) 0++fm 2097152 32768=pl at *;generalize fm (-2097152) 0=akt at *;generalize fm 2097152 32768=aku at *;clear n p q r' h1;refine cS 12 ?_;refine cJ G (.range 11) 1 11 ?_;refine dN S (.range 7) 4 ?_;generalize aj1.drew=O at *;refine wI 7 (TS.o.1 _) λakF ajW=>⟨a'.o _ _ S ajW,?_⟩;have ajU:=a'.o _ _ S ajW;refine wI 8 (TS.o.2 _) λvl ajX=>⟨a'.o _ _ ajU ajX,?_⟩;have s':=a'.o _ _ ajU ajX;refine eK 9 λK B=>?_;refine G7 (vs:=#[(0,.agg akt),(1,.agg aku)]) rfl QQ (s _) (B _ _ s' ?_);clear B K;simp only[Act.put,dV];refine jh 10 λK B=>?_;refine G7 (vs:=#[(0,aa f),(1,bz (m 1)),(2,aa (r+1)),(3,aa 600),(4,.agg pl)]) rfl QQ (ax _) (B _ _ s' ?_);obtain⟨aki,ajV,n⟩:=((D.o _).1 s').put X.1;have q:=bN n ake.o;clear n D S ajU s' a' ajW ajX TS cp bS akj s ax B;refine cJ (λW=>0<=W.heap.size) [11] 0 1 ?_;refine pE 11 (c3 _) (l3 rfl rfl rfl ajV) ?_;simp only[Act.put];refine jI;go_meet;rw[A.o.1];exact q.o
  replace A:=ad (A.o.trans (aD rfl));refine jI;go_meet;rw[A.o];exact⟨q.o,(c0 m 3 0 (m 3-1) b4).trans L.o.1⟩
 clear q L A;obtain⟨n,z0⟩:=hcut;have bw:=n.bw z0;have g0:=bV n.cZ;have aj6:=n.eR 0 .i64 rfl (f+1);obtain⟨aki,ajV,bK,g',aka⟩:=aj6.ret;have K:=bN g' aka;clear n aj6 g' aka z0;go_upto_region 19 with fail
 generalize World.setCell _ _ _=akG at *;clear bw g0;go_wp2_with first|((with_reducible refine dg ajV rfl rfl ?_ ?_);exact rfl)|((with_reducible refine c' bK rfl rfl ?_ ?_ ?_);exact rfl;exact rfl)
 refine dj (v:=aV #[.agg (aQ (bn X.1 0 (f+1))),u6]) K.o.1 ?_;exact⟨_,by rw[akf.o],by rw[akd.o];exact K.o.2⟩
end
end Go.Proofs.YtalagblioepadaaGreatDoor
