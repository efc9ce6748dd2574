/- The proof, part 50. -/
import Derived.Test.YtalagblioepadaaGreatDoorZb49
import Derived.Test.YtalagblioepadaaGreatDoorZb09
namespace Go.Proofs.YtalagblioepadaaGreatDoor
set_option linter.all false
open Proofs.Tryz List Go.RowKit Go.Maps
set_option maxRecDepth 100000
set_option maxHeartbeats 8000000
variable{w w':ai}{B:jt}{M:dZ}{bh:aa}{R:ah ay}{k:J}
section
variable(h:cq w B M bh R)(hk:k<2)
include h hk
theorem vh:az 21 #[.pointer (some (ad ((B.p k).p) 0 ab))] w λe w'=>e=.returned (.pointer (some (ad ((B.p k).c.c) 0 ab)))/\w=w':=by
 have⟨V,T,d,h⟩:=h.view hk;exact vC h
theorem Oh:az 16 #[.pointer (some (ad ((B.p k).p) 0 ab))] w λe w'=>e=.returned (.pointer (some (ad ((B.p k).lb) 0 ab)))/\w=w':=by
 have⟨V,T,d,h⟩:=h.view hk;exact G8 h
theorem Oj:az 18 #[.pointer (some (ad ((B.p k).p) 0 ab))] w λe w'=>e=.returned (.pointer (some (ad ((B.p k).L.p) 0 ab)))/\w=w':=by
 have⟨V,T,d,h⟩:=h.view hk;exact QZ h
theorem On:az 29 #[.pointer (some (ad ((B.p k).p) 0 ab))] w λe w'=>(∃ A n cap,e=.returned (ao A n cap)/\n<=64)/\Keeps aG w w':=by
 have⟨V,T,d,h⟩:=h.view hk;exact Q4 h
theorem Og:az 27 #[.pointer (some (ad ((B.p k).p) 0 ab))] w λe w'=>e=aV #[.bool (M.p k).b',I (M.p k).reason]/\∃ q,w'=w.drewN q:=by
 have⟨V,T,d,h⟩:=h.view hk;exact G7 h
theorem vi:IsCore w (B.p k).c (M.p k).x:=by
 have⟨V,T,d,h⟩:=h.view hk;exact gX h
theorem Oo:IsLink w (B.p k).L (M.p k).aE:=by
 have⟨V,T,d,h⟩:=h.view hk;exact l4 h
theorem Ol:az 23 #[.pointer (some (ad ((B.p k).lb) 0 ab))] w λe w'=>(∃ A cap,e=.returned (.slice A (M.p k).ld.bd.length cap))/\Keeps aG w w':=by
 obtain⟨V,T,d,h⟩:=h.view hk;refine(HM (nI h)).mono λe w' ⟨v,a,b,hk⟩=>?_;obtain⟨A,cap,rfl,_,_⟩:=cP b;exact⟨⟨A,cap,a⟩,hk⟩
end
def oz(bM:J)(o4:a6 aw)(B:jt)(d n:J)(cr bK:aa)(k:J)(W:ai):ak:=
 ∃ M bh,cq W B M bh [ay.bc bM (o4,26)]/\e' k d n cr (pad d M)/\hl cr (pad d M)/\∀ j,(M.p j).ld.most=bK
def Kj{x:aa}(h:0<=x/\x<256):∃ (b:J) (c:aQ),x=b/\b<256/\x=c.toNat:=by
 obtain⟨b,rfl⟩:=lQ h.1;exact⟨b,UInt8.ofNat b,rfl,U,by rw[Le,ja U]⟩
def R6{bM:J}{o4:a6 aw}{d n:J}{cr bK:aa}(h:oz bM o4 B d n cr bK k w)(hk:k<=300)(m:kE)(hm:m.wf):az 10 #[B.b,aM #[I m.bw,I m.bf,I m.i,I m.at',aF m.bI,aF m.bB]] w λe w'=>w9 e/\oz bM o4 B d n cr bK (k+1) w':=by
 have⟨M,bh,aj,av,r,q⟩:=h;have⟨b,_,f,p,_⟩:=Kj hm.bI;have⟨_,c,_,_,g⟩:=Kj hm.bB;rw[f,g];refine(QL aj av r U m.bw m.bf m.i m.at' b c p).mono λe w' ⟨fH,c3,bZ,h1,h2,l,o⟩=>?_;have a:=o.out;exact⟨a.1,fH,_,a.2,h1,h2,λj=>(l.most j).trans (q j)⟩
def R5(h:kC w)(aO d n a b pat bK b5:aa)(dz:aw)(a1:¬ vA d n pat bK b5):az 7 #[aM #[aK aO,I d,I n,I a,aK b,I pat,I bK,I b5],dz] w λe w'=>e=.returned (.bool true)/\Below w w w':=by
 have ca:=(bY w.heap.size w).alloc bA (ae #[aK aO,I d,I n,I a,aK b,I pat,I bK,I b5] 26);have i:=aW w (ae #[aK aO,I d,I n,I a,aK b,I pat,I bK,I b5] 26);have g:=af (Kf (w:=w.alloc (ae #[aK aO,I d,I n,I a,aK b,I pat,I bK,I b5] 26)) (h.keep ((a_ w).alloc _) id) aI)
 go_in
 go_wp2_with fail;generalize World.alloc w _=bl at *;refine aT g.o λan c=>?_;have f:=ca.trans (c.mono ca.size);have j:=(Keeps.bE (S:=aG) c a7).heap i id;have fo:=aP j;go_wp2_with fail;refine aT ((XH aO d n pat bK b5 a b a1) an) λaB k=>?_;have hfin:=f.trans (k.mono f.size);go_wp2_with fail;go_ret;exact⟨rfl,hfin⟩
theorem oz.below{bM:J}{o4:a6 aw}{d n:J}{cr bK:aa}(h:oz bM o4 B d n cr bK k w){bm:J}{bl:ai}(a:B.o=⟨bm,bl⟩):Below bm bl w:=by
 have⟨M,bh,aj,_⟩:=h
 have:=aj.below.2
 rwa [a]at this
theorem oz.keep{bM:J}{o4:a6 aw}{d n:J}{cr bK:aa}(h:oz bM o4 B d n cr bK k w)(hk:Keeps aG w w'):oz bM o4 B d n cr bK k w':=by
 have⟨M,bh,aj,h⟩:=h;exact⟨M,bh,aj.keep hk,h⟩
def R4(a:kC w)(sd:0<w.heap.size)(aO:aa)(T':0<=aO/\aO<=4294967295)(d n:J)(l m pat bK b5:aa)(hd:d<=8)(au:1<=n/\n<=16)(ar:1<=pat/\pat<=10000)(he:1<=bK/\bK<=256)(aX:1<=b5/\b5<=16)(dz:b4 Addr)(lc:J)(L:ah kE)(Q:dQ w 6 dz L.length lc (vN L))(vl:∀ c∈L,c.wf):az 7 #[aM #[aK aO,I d,I n,I l,aK m,I pat,I bK,I b5],ao dz L.length lc] w λe w'=>e=.returned (.bool true)/\Below w w w':=by
 have ZB:L.length<=9223372036854775807:=b7 Q.2.1 Q.2.2.1;have zd:=aW w (ae #[aK aO,I d,I n,I l,aK m,I pat,I bK,I b5] 26);have g':=af (Kf (w:=w.alloc (ae #[aK aO,I d,I n,I l,aK m,I pat,I bK,I b5] 26)) (a.keep ((a_ w).alloc _) id) aI);have ys:=Jv a sd;have m':=af ((ys.cons (r:=ay.bc w.heap.size (#[aK aO,I d,I n,I l,aK m,I pat,I bK,I b5],26)) ((a_ w).alloc (ae #[aK aO,I d,I n,I l,aK m,I pat,I bK,I b5] 26)) (λ_ _ _ _ e=>e) (aW w _) (λj St=>gE (jK St))).perm (.swap _ _ _));have X:=af (Ih aO d n pat bK T' hd au ar he);have u:=b8 hd (bD au (bD ar (bD he aX)));have cE:=af Q;have Y7:=af vl;clear a sd T' hd au ar he aX Q vl ys
 go_in
 go_wp2_with fail;generalize World.alloc w _=bl at *;refine aT g'.o λan O=>?_;have gf:=Keeps.bE (S:=aG) O a7;have zp:=gf.heap zd id;have lb:=af (XG (m'.o.keep gf) aO d n pat bK b5 l m u.o.1 u.o.2.1 u.o.2.2.1 u.o.2.2.2.1 u.o.2.2.2.2);clear g' m' zd gf O;have fo:=aP zp;go_wp2_with fail;refine lb.o.mono ?_;rintro e aB ⟨B,rfl,fr,s'⟩;have Aw:aB.heap[w.heap.size]?=some (ae #[aK aO,I d,I n,I l,aK m,I pat,I bK,I b5] 26 (0,0)):=fr.res (r:=ay.bc w.heap.size (#[aK aO,I d,I n,I l,aK m,I pat,I bK,I b5],26)) aI;have P:Hid (oz w.heap.size #[aK aO,I d,I n,I l,aK m,I pat,I bK,I b5] B d n aO bK 0 aB):=af ⟨_,_,fr,X.out.1,X.out.2,λ_=>rfl⟩;have Y6:=af s';clear fo zp lb fr s' X;have fo:=aP Aw;clear Aw;go_wp2_with fail;go_quiet (fail);clear fo;have P:=af (P.o.keep ((a_ aB).drewN nq));generalize aB.drewN nq=bn at *;go_wp2_with fail;go_loopg [9,10,11,12,13] 300 (λg i _ _ _ _ wr=>∃ k:J,g=300-k/\k<=300/\i=I k/\oz w.heap.size #[aK aO,I d,I n,I l,aK m,I pat,I bK,I b5] B d n aO bK k wr)
 case atStart=>exact⟨0,rfl,U,rfl,P.o⟩
 obtain⟨k,a1,Zk,rfl,Z⟩:=hrel;have R:=Z.below Y6.o;have l':=af Z;clear P Z;by_cases Tq:k<L.length
 .by_cases ZA:k<300
  .obtain⟨b,o,rfl,aq⟩:=(cE.out.below R (λau x V=>cE.out.lt U au V)).at' U;have A:=Te L k Tq;have Ze:wr.cell? (ad b (o+k*6) ab)=some (I L[k].bw):=aq _ _ (A 0 U);have Zf:wr.cell? (ad b (o+k*6+1) ab)=some (I L[k].bf):=by rw[iN];exact aq _ _ (A 1 U)
   have Zg:wr.cell? (ad b (o+k*6+2) ab)=some (I L[k].i):=by rw[iN];exact aq _ _ (A 2 U)
   have Zh:wr.cell? (ad b (o+k*6+3) ab)=some (I L[k].at'):=by rw[iN];exact aq _ _ (A 3 U)
   have Zi:wr.cell? (ad b (o+k*6+4) ab)=some (aF L[k].bI):=by rw[iN];exact aq _ _ (A 4 U)
   have Zj:wr.cell? (ad b (o+k*6+5) ab)=some (aF L[k].bB):=by rw[iN];exact aq _ _ (A 5 U)
   have h2:=af (R6 l'.o Zk L[k] (Y7.out L[k] (og Tq)));clear aq A R l';go_wp2_with fail;refine h2.o.mono ?_;rintro e ZE ⟨⟨Zq,ZD,Zt,Zp,ZC,e5,m9,Zw,rfl⟩,M,bh,aj,av,V,TS⟩;have H:=af aj;have ps:=af av;have Hx:=b8 V TS;clear h2 Ze Zf Zg Zh Zi Zj aj av V TS;go_wp2_with fail;go_loopg [10,11,12,13] 2 (λg i _ _ _ Zo=>∃ j:J,g=2-j/\j<=2/\i=I j/\cq Zo B M bh [ay.bc w.heap.size (#[aK aO,I d,I n,I l,aK m,I pat,I bK,I b5],26)])
   case atStart=>exact⟨0,rfl,U,rfl,H.o⟩
   obtain⟨j,Zz,St,rfl,aj⟩:=hrel;clear H;by_cases T:j<2
   .have v':=af (AY aj T);have hH:=af (Og aj T);have H:=af aj;clear aj;go_wp2_with fail;refine br v'.o ?_;go_wp2_with fail;refine aT hH.o ?_;rintro _ ⟨q,rfl⟩;have O:=H.out.keep ((a_ wr).drewN q);clear H v' hH;generalize wr.drewN q=v1 at *;have Zd:=ps.out.bounds T;obtain⟨bP,r',Y9,Y_,Y',Za,Zb,Zc⟩:=Zd;rw[Hx.out.2 j]at r';have Zy:d<=8/\n<=16:=⟨u.out.1,u.out.2.1.2⟩;obtain⟨Zl,Q'⟩:=cQ (M.p j).b';rw[<-Q'];obtain⟨G,C⟩:=hj (F:=λW=>cq W B M bh [ay.bc w.heap.size (#[aK aO,I d,I n,I l,aK m,I pat,I bK,I b5],26)]);have Zn:=λx:bp G=>aP (((C _).1 x.held).res (r:=ay.bc w.heap.size (#[aK aO,I d,I n,I l,aK m,I pat,I bK,I b5],26)) aI);have D:G v1.drew:=(C _).2 (O.keep (a_ v1).drew);have E:=af (λ(W W':ai) (a':G W) (hk:Keeps aG W W')=>(C W').2 (((C W).1 a').keep hk));have s:=af (λ(W:ai) (a':G W)=>(C W).1 a');have h:=af T;have f1:decide ((n:aa)+(d:aa)+3<((M.p j).x.L.length:aa))=false:=cZ U;have f2:decide (bK<((M.p j).ld.bd.length:aa))=false:=cZ U;have f3:decide ((iy (M.p j).x:aa)+(n:aa)<((M.p j).x.now:aa))=false:=cZ U;have f4:decide ((64:aa)<rT M.cs j)=false:=cZ (by unfold rT;rw[aD wY];omega);have f5:decide (2*((n:aa)+(d:aa))+1<((M.p j).aE.own.length:aa))=false:=cZ U;have f6:decide (((M.p j).x.now:aa)+(d:aa)+1<(((M.p j).x.f (M.p j).x.aJ).next:aa))=false:=cZ U;have Zb:(M.p j).x.now<=400:=U;have Zc:iy (M.p j).x<=400:=U;clear O C bP r' Y9 Y_ Y' Za Q';go_wp2_with fail;refine cB 40 ?_;refine cC (G) (.range 40) 0 40 ?_;refine de (D) [0,3,4,5,6] 35 ?_;refine dC 1 λK a=>?_;go_simp;refine br (vh (s.o _ D) h.o) ?_;refine a _ _ (D) ?_;clear a K;refine dC 2 λK a=>?_;go_simp;refine aT (OM (vi (s.o _ D) h.o)) λZF Y5=>?_;have y:=E.o _ _ D (Keeps.bE Y5 a7);refine a _ _ (y) ?_;clear a K;clear D Y5;refine de (y) [7,8,9,13,14] 28 ?_;refine dC 10 λK a=>?_;go_simp;refine br (Oh (s.o _ y) h.o) ?_;refine a _ _ (y) ?_;clear a K;refine dC 11 λK a=>?_;go_simp;refine(Ol (s.o _ y) h.o).mono ?_;rintro e ZG ⟨⟨Zs,Zv,rfl⟩,z2⟩;have N:=E.out _ _ y z2;refine a _ _ (N) ?_;clear a K;clear y z2;refine de (N) [12,15,16,17,18] 21 ?_;refine dC 19 λK a=>?_;go_simp;refine(On (s.out _ N) h.out).mono ?_;rintro e Y3 ⟨⟨Zr,Zm,Zu,rfl,Zx⟩,z3⟩;have t:=E.out _ _ N z3;have f7:decide ((64:aa)<(Zm:aa))=false:=cZ U;refine a _ _ (t) ?_;clear a K;clear N z3;refine de (t) [20,21,22,23,24,27,30] 13 ?_;refine dC 25 λK a=>?_;go_simp;refine br (vh (s.out _ t) h.out) ?_;refine a _ _ (t) ?_;clear a K;refine dC 26 λK a=>?_;go_simp;refine br (rB (vi (s.out _ t) h.out)) ?_;refine a _ _ (t) ?_;clear a K;refine dC 28 λK a=>?_;go_simp;refine br (vh (s.out _ t) h.out) ?_;refine a _ _ (t) ?_;clear a K;refine dC 29 λK a=>?_;go_simp;refine aT (Ai (vi (s.out _ t) h.out)) ?_;rintro _ ⟨Y2,rfl⟩;have z:=E.out _ _ t ((a_ Y3).drewN Y2);refine a _ _ (z) ?_;clear a K;clear t;generalize Y3.drewN Y2=Y4 at *;refine de (z) [31,32,33,34,35,36] 3 ?_;refine dC 37 λK a=>?_;go_simp;refine br (GN (s.out _ z) j) ?_;refine a _ _ (z) ?_;clear a K;refine de (z) [38,39] 0 ?_;refine mL ?_;clear Zn f1 f2 f3 f4 f7;have CW:=s.out _ z;have v:=af CW;clear z E s CW;cases Zl with
    | true=>
     clear f5 f6;go_wp2_with fail;go_roundg (2-(j+1))
     case rel=>exact⟨j+1,rfl,U,by go_num,v.out⟩
     omega
    | false=>
     go_wp2_with fail;refine br (Oj v.out h.out) ?_;go_wp2_with fail;refine br (SC (Oo v.out h.out)) ?_;go_wp2_with fail;refine br (vh v.out h.out) ?_;go_wp2_with fail;refine aT (xp (vi v.out h.out)) ?_;rintro _ ⟨V',rfl⟩;have Y:=af (v.out.keep ((a_ Y4).drewN V'));clear v;generalize Y4.drewN V'=ZH at *;go_wp2_with fail;refine br (vh Y.o h.out) ?_;go_wp2_with fail;refine br (rB (vi Y.o h.out)) ?_;go_wp2_with fail;clear f5 f6;go_roundg (2-(j+1))
     case rel=>exact⟨j+1,rfl,U,by go_num,Y.o⟩
     omega
   obtain rfl:j=2:=U;have Y8:Hid (oz w.heap.size #[aK aO,I d,I n,I l,aK m,I pat,I bK,I b5] B d n aO bK (k+1) wr):=af ⟨M,bh,aj,ps.out,Hx.out⟩;clear aj;go_wp2_with fail;go_roundg (300-(k+1))
   case rel=>exact⟨k+1,rfl,U,by go_num,Y8.o⟩
   omega
  obtain rfl:k=300:=U;go_wp2_with fail;go_ret;exact⟨rfl,R⟩
 go_wp2_with fail;go_ret;exact⟨rfl,R⟩
def YV(g:kC w)(h:0<w.heap.size)(aO d n b f pat bK b5:aa)(l:0<=aO/\aO<=4294967295)(dz:b4 Addr)(a:J)(L:ah kE)(i:dQ w 6 dz L.length a (vN L))(j:∀ c∈L,c.wf):az 7 #[aM #[aK aO,I d,I n,I b,aK f,I pat,I bK,I b5],ao dz L.length a] w λe w'=>e=.returned (.bool true)/\Below w w w':=by
 by_cases a1:vA d n pat bK b5
 .obtain⟨h1,ar,k,aX⟩:=a1;have h2:=ri h1;obtain⟨d,rfl⟩:=lQ h2.1;obtain⟨n,rfl⟩:=lQ (show 0<=n by omega);exact R4 g h aO l d n b f pat bK b5 U U ar k aX dz a L i j
 exact R5 g aO d n b f pat bK b5 _ a1
end Go.Proofs.YtalagblioepadaaGreatDoor
