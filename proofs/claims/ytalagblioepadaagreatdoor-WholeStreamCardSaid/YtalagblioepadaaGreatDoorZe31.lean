/- The proof, part 31. -/
import Derived.Test.YtalagblioepadaaGreatDoorZe30
import Derived.Deep.CutBlock
namespace Go.Proofs.YtalagblioepadaaGreatDoor
set_option linter.all false
open Proofs.Tryz List Go.RowKit Go.Maps
set_option maxRecDepth 100000
set_option maxHeartbeats 4000000
variable{ww:Prop}
def C5(h:ww:=by rw[Q];exact P):=h
def HY(h:ww:=by rw[a];show(M.p k).x.now<=_;omega):=h
def HX(h:ww:=by rcases k with rfl|k;omega;cases k):=h
def HU(h:ww:=by show(-1000:U)<=0/\(0:U)<=1000;omega):=h
def QX(h:ww:=by show(0:U)<=0/\(0:U)<=1073741824;omega):=h
def QS(h:ww:=by rcases a with a|a;exact hO a.symm;cases a):=h
def Q1(h:ww:=by rw[gD];have:=hk.E;have:=(ug hk.c4);have⟨_,_,_,_,_,_,_,q,_⟩:=this;rw[q];omega):=h
variable{z:a6 ay×TypeId}{x y:cO}{f se:U}{xs:ai aE}{c k n r dq:J}{T:J->ae}{p:c9}{t:TypeId}{v:ay}
section
open Go.Maps
variable{fu:Old}{w w':aj}{b:hg}{R:ai aC}{q:c9}{o:J}{sd vl:ay}{m:aY}{l:ai cq}
def E7(z:aC.kinds fu∈R)(h:gr w b q o sd m (aC.dn vl l :: R))(aw:lf q.1)(an:∀ c∈l,vy c)(V':q.2.length+l.length<=100000):aB 96 #[b.p,o,vl] w λe w'=>e=aV #[]/\gr w' b (q.1,q.2++l) o sd m R:=by
 obtain⟨s,cs⟩:=q;obtain⟨A,cap,rfl,_,_⟩:=dA (show w.ownsRow 0 47 12 vl l.length (eY l)by obtain⟨d,v,H⟩:=h;exact H.at' 10 rfl);have F:=ad (bx h (bx aw (bx an (bx V' z))));clear h aw an V' z
 go_in
 go_wp2_with fail;go_loopg [11] l.length (λg i wr=>∃ pre rest:ai cq,l=pre++rest/\g=rest.length/\i=aa pre.length/\gr wr b (s,cs) o sd m (aC.dn (au A l.length cap) l :: R))
 case atStart=>exact⟨[],l,rfl,rfl,rfl,F.o.1⟩
 obtain⟨pre,rest,ak,a7,rfl,d,v,H⟩:=hrel;cases rest with
 | nil=>
  have aj7:¬ (pre.length:U)<(l.length:U):=by rw[ak];simp
  obtain⟨al,fr⟩:=lM (p:=(s,cs)) H;refine V1;obtain⟨v',aq,ajU,r',mv,lb⟩:=KN 32 fr T (cu F.o.2.2.2.1 bs);have se:∀ j,v.ownBlock=some j->j≠o:=λj aj_ e=>nP fr (e▸al) bs aj_;have Z:=mv.heap al (λe=>se _ e rfl);have bw:=aX al;have d0:=aX Z;have f0:=bV Z;have fP:=(ag.refl (λj=>j=o) aq).setCell (p:=ah o 0) rfl v';have ajW:=bZ al;have TS:=b7 r' fP (λj aj_ e=>by
   rcases lb j aj_ with zp|zp
   .exact se j zp e
   .omega)
  have L:=bX Z 0 v';refine Dr;have ajT:=ad (show gr (aq.setCell (ah o 0) v') b (s,cs++l) o sd m R from⟨d,v',(EZ (p:=(s,cs)) H (v':=v') (sd':=sd) (m':=m) (l:=cs++l) ⟨L,TS⟩ ((mv.mono λ_ _ e=>.inr e).trans (fP.mono λ_ _ e=>.inl e)) (λj aj_=>.inr (lb j aj_))).rR⟩);obtain⟨ajZ,aj1,rfl,_,_⟩:=dA fr;obtain⟨aj0,aj2,rfl,_,_⟩:=dA r';clear H al fr T r' mv lb se Z fP ajW TS L ak F;go_wp2_with refine rU ajU rfl rfl rfl rfl ?_
  go_end0;exact⟨rfl,by simpa only[cG]using ajT.o⟩
 | cons c rest=>
  have ys:pre.length<l.length:=by rw[ak];simp
  have ajV:(pre.length:U)<(l.length:U):=I;have X:l[pre.length]=c:=by simp[ak]
  have aj6:l.length<=100000:=by have:=F.o.2.2.2.1;omega
  have T':vy c:=F.o.2.2.1 c zJ;have W':l=(pre++[c])++rest:=by rw[ak];simp
  refine xO;refine V1;refine Wc;obtain⟨bD,l'⟩:∃ bD,bD=wr.heap.size:=⟨_,rfl⟩;have f:i_ (bO b s d++aC.out o v sd m cs :: aC.dn (au (bT r) l.length cap) l :: R) bD c a:=⟨H.keep Y,l'▸V,λr ajX aj_=>absurd (H.lt ajX aj_) I⟩;obtain⟨bq,cL,eC,pl⟩:=c;have ajR:a.cell? (ah bD 0)=some (aa bq):=bb f.box rfl;have h2:=ad (bx W' T');rw[<-l']at e2 N;generalize wr.alloc _=aj8 at e2 N;clear H T ak a7 X T' W' V Y zd l'
  go_upto_block 1 with fail
  go_cut [] (λbE=>gr bE b (s,cs) o sd m (aC.dn (au (bT r) l.length cap) l :: R))
  case first=>
   have Q:=ad (bx h2.o.2 (bx F.o.2.1 F.o.2.2.2.2));go_wp2_with first|((with_reducible refine dg D rfl rfl ?_ ?_);exact rfl)|(with_reducible refine eL e2 rfl rfl ?_)|((with_reducible refine c' N rfl rfl ?_ ?_ ?_);exact rfl;exact rfl)
   all_goals clear D e2 N ajR F h2 ys ajV akp
   .have ax:=ad (λW (u:i_ (bO b s d++aC.out o v sd m cs :: aC.dn (au (bT r) l.length cap) l :: R) bD (cq.mk bq cL eC pl) W)=>by
     obtain⟨vs,hm⟩:=EU u.sep;exact adj hm cL Q.o.1.cL eC Q.o.1.eC)
    refine zM;have n:=(B _).2 (f.keep (bd a).drew);refine Da;refine cS 11 ?_;refine cJ (G) (.range 9) 2 9 ?_;refine pz (n) (.range 9) 0 λhne=>?_;refine xx;refine nf ?_;clear g' hd gf M S;refine cJ (λ_=>True) [9,10] 0 2 ?_;refine eK 9 λK z=>?_;refine Ic;refine mz 10 λK z=>?_;go_simp;refine DT;obtain⟨d,f⟩:=(C.o _ n).gT E;clear E n C ax;go_upto_region 6 with fail
    go_cut [34] (λajY bE=>(∃ t,ajY=.bool t)/\bE=s')
    case first=>
     clear f;cases aj4:(ajS == 14)<;>cases aj5:(ajS == 8)
     all_goals
      go_wp2_with fail;go_meet;exact⟨⟨_,rfl⟩,rfl⟩
    case rest=>
    obtain⟨⟨t,rfl⟩,rfl⟩:=hcut;go_upto_if 34 with fail
    go_cut [] (λbE=>∃ d:hQ,i_ (bO b s d++aC.out o v sd m cs :: aC.dn (au (bT r) l.length cap) l :: R) bD (cq.mk bq cL eC pl) bE)
    case first=>
     have Ed:=aak f.sep;have f11:=AY f.sep 11;have a':=ad f;clear f;go_wp2_with fail
     all_goals
      go_meet
      first|exact⟨_,a'.o⟩|exact⟨_,a'.o.nU _⟩
    case rest=>
    obtain⟨d,f⟩:=hcut;have Q':=ad (λW (u:i_ (bO b s d++aC.out o v sd m cs :: aC.dn (au (bT r) l.length cap) l :: R) bD (cq.mk bq cL eC pl) W)=>aa1 u.sep Q.o.2.1 cL.k.em);have ax:=ad (λW (u:i_ (bO b s d++aC.out o v sd m cs :: aC.dn (au (bT r) l.length cap) l :: R) bD (cq.mk bq cL eC pl) W) (x y:U)=>by
     obtain⟨vs,hm⟩:=ET u.sep;have ps:aC.kinds fu∈(aC.out o v sd m cs :: aC.dn (au (bT r) l.length cap) l :: R):=by simp[Q.o.2.2]
     exact ZK hm (u.sep.all (aC.kinds fu) (gd.2 (.inr ps))).1 (λe=>(tg.1 u.sep.apart).2.2 (aC.e7 b.e7 d.dQ) (by simp[bO]) (aC.kinds fu) ps 0 (.inr e) (u.sep.all (aC.kinds fu) (gd.2 (.inr ps))).2.2.1) cL Q.o.1.cL x y)
    refine zM;have n:=(B _).2 (f.keep (bd wc).drew);refine Da;refine cS 14 ?_;refine cJ (G) (.range 13) 1 13 ?_;refine pz (n) (.range 12) 1 λhne=>?_;refine xx;refine jh 12 λK z=>?_;go_simp;refine(Q'.o _ (C.o _ n)).mono ?_;rintro e s' ⟨⟨x,y,ak,a8,rfl⟩,Tq⟩;have fo:=(C.o _ n).keep Tq;refine z _ _ (S.out _ fo) ?_;clear z K;clear g' hd gf M S;refine cJ (λ_=>True) [13] 0 1 ?_;refine mz 13 λK z=>?_;go_simp;refine(ax.out _ fo x y).mono ?_;rintro e aj9 ⟨⟨aj3,rfl⟩,E⟩;refine DT;obtain⟨d,f⟩:=fo.e7 E;clear E n C ax Q' fo Tq;refine aK;exact Jj
   .have ax:=ad (λW (u:i_ (bO b s d++aC.out o v sd m cs :: aC.dn (au (bT r) l.length cap) l :: R) bD (cq.mk bq cL eC pl) W)=>by
     obtain⟨vs,hm⟩:=EU u.sep;exact adk hm cL Q.o.1.cL)
    refine zM;have n:=(B _).2 (f.keep (bd a).drew);refine Da;refine cS 8 ?_;refine cJ (G) (.range 7) 1 7 ?_;refine pz (n) (.range 7) 0 λhne=>?_;refine xx;refine nf ?_;clear g' hd gf M S;refine cJ (λ_=>True) [7] 0 1 ?_;refine mz 7 λK z=>?_;refine Ic;obtain⟨d,f⟩:=(C.o _ n).gT E;exact Vo
   .have ax:=ad (λW (u:i_ (bO b s d++aC.out o v sd m cs :: aC.dn (au (bT r) l.length cap) l :: R) bD (cq.mk bq cL eC pl) W)=>by
     obtain⟨vs,hm⟩:=EU u.sep;exact adg hm cL.k)
    refine zM;have n:=(B _).2 (f.keep (bd a).drew);refine UB;obtain⟨d,f⟩:=(C.o _ n).gT E;clear E n C ax;have ax:=ad (λW (u:i_ (bO b s d++aC.out o v sd m cs :: aC.dn (au (bT r) l.length cap) l :: R) bD (cq.mk bq cL eC pl) W)=>by
     obtain⟨vs,hm⟩:=ET u.sep;exact ZH hm cL.k)
    refine zM;have n:=(B _).2 (f.keep (bd s').drew);refine UB;obtain⟨d,f⟩:=(C.o _ n).e7 E;exact Vo
   exact Jj
  have a':=ad hcut;clear hcut ajR D e2 N f;refine aK;go_roundg rest.length
  case measure=>omega
  exact⟨pre++[(cq.mk bq cL eC pl)],rest,h2.o.1,rfl,tp,a'.o⟩
end
section
open Go.Maps
variable{fu:Old}{w w':aj}{b:hg}{s:ch}{R:ai aC}{d:hQ}{q:c9}{o:J}{sd:ay}{m:aY}
def qb(_:aj):ae:=True
def nD(w:aj):qb w:=trivial
def lf.same{s s':ch}(h:lf s)(e:s'.x=s.x):lf s':=by
 unfold lf;rw[e];exact h
def E9(c:aC.kinds fu∈R)(h:gr w b q o sd m R)(aw:lf q.1)(g:iy q.1.ld.bl)(j:q.2.length<=90000)(r:U):aB 63 #[b.p,o,aa r] w λe w'=>e=aV #[]/\gr w' b (hC r q) o sd m R:=by
 have⟨s,cs⟩:=q;have⟨d,v,H⟩:=h;have fY:=rh H;unfold hC;by_cases aT:s.cn=true
 .rw[aT]at fY;rw[aD aT];refine cg;refine dH (v:=aV #[]) (by simp[results,results63]) rfl ?_;exact⟨rfl,d,v,H⟩
 have aT:s.cn=false:=by simpa using aT
 rw[aT]at fY;rw[az (by simp[aT])];have x:=AY H 9;have t:=AY H 10;have sC:=LY H
 have h2:Sep ((w.setCell (ah b.p 9) (.bool true)).setCell (ah b.p 10) (aa r)) (bO b {s with cn:=true,reason:=r} d++aC.out o v sd m cs :: R):=
  AX (s:={s with cn:=true}) (s':={s with cn:=true,reason:=r}) (n:=d.nU) (AX (s':={s with cn:=true}) (n:=d.nU) H 9 (.bool true) rfl rfl rfl rfl rfl rfl) 10 (aa r) rfl rfl rfl rfl rfl rfl
 have k:=wi h2;have a:=bN h2 (bx aw (bx g j));refine cg;refine((acd (pt h2))).mono ?_;rintro e aF ⟨vl,rfl,ar,f,i⟩;have z:(lN s.ld).length<=256:=by
  have:=(pt a.o.1).cf
  unfold lN;split
  .simp
  rw[iP];exact this
 have u:=ad (E7 c (q:=({s with cn:=true,reason:=r,ld:=iF s.ld},cs)) (l:=lN s.ld) (vl:=vl) (b:=b) (o:=o) (sd:=sd) (m:=m) (R:=R) ⟨_,v,(EY a.o.1 f ar i).sS⟩ (a.o.2.1.same rfl) (abm a.o.2.2.1) (by show cs.length+_<=_;have:=a.o.2.2.2;omega));refine o7;refine tx;exact I3
def E8(c:aC.kinds fu∈R)(h:gr w b q o sd m R)(aw:lf q.1)(f:iy q.1.ld.bl)(g:q.2.length<=90000):aB 94 #[b.p,o] w λe w'=>e=aV #[]/\gr w' b (gy q) o sd m R:=by
 have a:=h;have⟨d,v,H⟩:=h;have bP:=qp H;have ax:=ad (M6 (pv H));unfold gy;by_cases a7:q.1.aJ.state=2
 .rw[aD a7];rw[a7]at ax;refine Ds;refine aS (E9 c a aw f g 12) λbr y=>?_;exact I3
 rw[az a7];generalize q.1.aJ.state=z at *;refine Ds;go_end0;exact⟨rfl,a⟩
structure sy(L:ai aC)(bD:J)(f:U)(v:ay)(xs:ai aE)(W:aj):ae where
 sep:Sep W L
 bD:W.heap[bD]?=some (ab #[aa f,v] 271 (0,0))
 row:∃ base,W.ownsRow base 45 9 v xs.length (b0 xs)
theorem sy.keep{L:ai aC}{bD:J}(h:sy L bD f v xs w)(hk:ag aH w w'):sy L bD f v xs w':=by
 have⟨base,a⟩:=h.row;exact⟨h.sep.keep hk,hk.heap h.bD id,base,b7 a hk (λ_ _=>id)⟩
def Mn(c:aC.kinds fu∈R)(h:gr w b q o sd m R){base:J}(a_:w.ownsRow base 45 9 v xs.length (b0 xs))(ao:fk n xs)(now:U)(y:(n:U)<=now/\now<=1000000)(aT:q.1.ld.hd=false)(an:q.1.ld.aO<n)(aw:lf q.1)(u:iy q.1.ld.bl)(G:q.2.length<=50000):aB 139 #[b.p,o,aG #[aa (n:U),v],aa now] w λe w'=>e=aV #[]/\gr w' b (lv now q (n,xs)) o sd m R:=by
 obtain⟨s,cs⟩:=q;obtain⟨d,cM,H⟩:=h;dsimp only at *;obtain⟨a,i⟩:=c8 (bO b s d++aC.out o cM sd m cs :: R);have k:=(bd w).alloc (ab #[aa (n:U),v] 271);have B:sy a w n v xs (w.alloc (ab #[aa (n:U),v] 271)):=⟨by rw[i];exact H.keep k,aP w _,base,b7 a_ k (λ_ _=>id)⟩;obtain⟨A,cap,rfl,_,_⟩:=dA a_;have j:∀ W,Sep W a->Sep W (bO b s d++aC.out o cM sd m cs :: R):=λW h=>i▸h;have bR:∀ x:bA (sy a w n (au A xs.length cap) xs),x.to.cell? (ah b.p 2)=some (bM b.lb):=λx=>wi (j _ x.held.sep);have bI:=λx:bA (sy a w n (au A xs.length cap) xs)=>aX x.held.bD;have C:=ad (λ(W:aj) (t:sy a w n (au A xs.length cap) xs W)=>by
  obtain⟨base,L⟩:=t.row;have h1:=j _ t.sep;exact acf (pt h1) aT L ao I y an)
 have E:(l1 s.ld n xs now).length<=320:=by
  have h1:=(pt H).cf;have h2:=ao.2.1;have r:=Gw s.ld.most now (jd s.ld.bl (hS xs (hV s.ld.bl n))) xs;have M:(jN xs (hV s.ld.bl n)).length<=s.ld.bl.length:=by
   exact TJ
  unfold l1;rw[cG];omega
 have f:=bN aw (bx (ah1 u ao I y) (show cs.length+(l1 s.ld n xs now).length<=100000 by omega));clear H a_ ao aT an aw u G k i E
 go_in
 go_wp2_with fail;have g:=B.keep (bd _).drew;refine cS 13 ?_;refine cJ (sy a w n (au A xs.length cap) xs) (.range 7) 6 7 ?_;refine dN (g) (.range 7) 0 ?_;refine nf ?_;refine cJ (qb) [7,8,9,10,11,12] 0 6 ?_;refine eK 7 λK c=>?_;go_simp;refine(C.o _ g).mono ?_;rintro e aq ⟨vl,kH,rfl,ar,D,F⟩;refine c _ _ (nD _) ?_;clear c K;refine dN (nD aq) [8,9,10,11,12] 0 ?_;refine pA ?_;have z:=ad (E7 c (q:=({s with ld:=qI s.ld n xs},cs)) (l:=l1 s.ld n xs now) (vl:=vl) (b:=b) (o:=o) (sd:=sd) (m:=m) (R:=R) ⟨_,cM,(EY (j _ g.sep) D ar F).sS⟩ (f.o.1.same rfl) f.o.2.1 (by show cs.length+_<=_;have:=f.o.2.2;omega));go_wp2_with fail;refine aS z.o λbr r=>?_;go_wp2_with fail;go_end0;exact⟨rfl,r⟩
end
section
open Go.Maps
variable{fu:Old}{w w':aj}{b:hg}{s:ch}{R:ai aC}{d:hQ}{q:c9}{o:J}{sd:ay}{m:aY}
def ZV(M:ai (U×U))(f:U):je (nY M) f=(na M f).map λv=>bz v:=by
 unfold je na nY;rw[find?_map,HR,HR];rfl
def Lf(M:ai (U×U))(f:U):mj (nY M) f=nY (mZ M f):=by
 unfold mj mZ nY;rw[tc];rfl
def aem(M:ai (U×U))(f v:U):nm (nY M) f (bz v)=nY (sX M f v):=by
 unfold nm sX;rw[Lf];unfold nY;rw[k3];rfl
def Lb(M:ai (U×U))(f:U):∀ p∈mZ M f,p∈M:=λ_ ao=>(hN.1 ao).1
def af'(w:aj):(zeroValue 22).run prog w=.ok (bz 0) w:=bc
namespace mR
variable{B:J}{M:ai (U×U)}
def gR(h:mR w B M):M.length<=2147483648:=by
 have:=EH 2147483648 ((nY M).map Prod.fst) (xh.2 h.1.q_) λx ak=>by
  obtain⟨p,ao,rfl⟩:=gO.1 ak;obtain⟨b,a,rfl⟩:=gO.1 ao
  have:=h.2 b a
  simp only;omega
 simpa[nY]using this
theorem ok(a:-4294967296<=f/\f<4294967296):tZ.ok f:=wf_i64 I
theorem look(h:mR w B M)(f:U)(a:0<=f/\f<2147483648):(Instr.lookup 110 (.map (some B)) (aa f) true).run prog w=.ok (aV #[bz ((na M f).getD 0),.bool (na M f).isSome]) w:=by
 have:=h.1.look wu (x:=f) (ok I) underlying110 af'
 rw[ZV]at this;refine this.trans ?_;cases na M f<;>rfl
def put(h:mR w B M)(f v:U)(b:0<=f/\f<2147483648):∃ w',(Instr.mapUpdate 110 (.map (some B)) (aa f) (bz v)).run prog w=.ok () w'/\mR w' B (sX M f v)/\ag (λj=>j=B) w w':=by
 have c:=h.gR;obtain⟨aF,h1,h2,a⟩:=h.1.store wu (x:=f) (ok I) underlying110 (by unfold nY;rw[iP];unfold maxLen;omega) (bz v);rw[aem]at h2;refine⟨aF,h1,⟨h2,λp ao=>?_⟩,a⟩;rcases gd.1 ao with ao|ao
 .exact h.2 p (Lb _ _ p ao)
 rw[kD.1 ao];exact b
def del(h:mR w B M)(f:U)(b:-4294967296<=f/\f<4294967296)(ty:TypeId):∃ w',(Builtin.delete_ #[110,3] ty #[.map (some B),aa f]).run prog w=.ok (aV #[]) w'/\mR w' B (mZ M f)/\ag (λj=>j=B) w w':=by
 have⟨aF,h1,h2,a⟩:=h.1.drop wu (x:=f) (ok I) underlying110 ty;rw[Lf]at h2;exact⟨aF,h1,⟨h2,λp ao=>h.2 p (Lb _ _ p ao)⟩,a⟩
theorem len(h:mR w B M)(ty:TypeId):(Builtin.len_ #[110] ty #[.map (some B)]).run prog w=.ok (aa M.length) w:=by
 have:=h.1.len underlying110 ty
 unfold nY at this
 rwa [iP]at this
end mR
def Ml(y:aC.kinds fu∈R)(h:gr w b q o sd m R)(aw:lf q.1)(B:iy q.1.ld.bl)(C:q.2.length<=90000)(f v:U)(j:0<=f/\f<2147483648):aB 104 #[b.p,o,aa f,bz v] w λe w'=>e=aV #[]/\gr w' b (ka f v q) o sd m R:=by
 have⟨s,cs⟩:=q;have i:=h;have⟨d,cM,H⟩:=h;have eI:=ER H;have N:=(EX H).look f j;unfold ka;dsimp only at *;cases D:na s.own f with
 | some u=>
  refine ed;refine DD;dsimp only;by_cases a:u=v
  .subst a;rw[aD rfl];have A:=ad i;have hd:=dh (rfl:u=u)
   go_in
   refine Jb;refine dH (v:=aV #[]) (by simp[results,results104]) rfl ?_;exact⟨rfl,A.o⟩
  rw[az a];have x:=ad (E9 y i aw B C 13);have t:=ep.2 a;have G:=HS.2 a;have K:decide (u=v)=false:=cN a
  go_in
  refine Jb;refine aS x.o λaF h2=>?_;refine aK;refine dH (v:=aV #[]) (by simp[results,results104]) rfl ?_;exact⟨rfl,h2⟩
 | none=>
  refine ed;simp only[tm,r6]at N;dsimp only;have dv:=ES H;have bB:=wi H;have g:=(yj H).look f j;have aU:=ad (yx (pt H));have l:=(yj H).len 3;have L:=(pt H).dz;have⟨M,F,E,z⟩:=(yj H).put f v j;have r:=ad (L6 (s:=s) H E z);have A:=ad i;have t:IntKind.i64.wrap (s.ld.aO+1)=s.ld.aO+1:=e0 _ I;generalize s.ld.aO=dz at *;by_cases h1:dz+1<f
  .have d1:decide (dz+1<f)=true:=dh h1;have n:decide (f>dz+1)=true:=dh h1;cases k:na s.wt f with
   | some u=>
    rw[k]at g;simp only[jH,vd]at g;rw[az (λc=>by simp at c)];exact R0
   | none=>
    rw[k]at g;simp only[tm,r6]at g;by_cases h2:s.wt.length<8
    .have d2:decide ((s.wt.length:U)<8)=true:=dh I;rw[aD ⟨h1,rfl,h2⟩];refine Ih;go_wp2_with first|refine P9 l rfl rfl rfl ?_|refine P_ F rfl rfl rfl rfl rfl ?_
     go_end0;exact⟨rfl,_,_,r.o⟩
    have d2:decide ((s.wt.length:U)<8)=false:=cN I;rw[az (λc=>h2 c.2.2)];refine Ih;go_wp2_with refine P9 l rfl rfl rfl ?_
    go_end0;exact⟨rfl,A.o⟩
  have d1:decide (dz+1<f)=false:=cN h1;have n:decide (f>dz+1)=false:=cN h1;rw[az (λc=>h1 c.1)];exact R0
end
section
open Go.Maps
variable{fu:Old}{w w':aj}{b:hg}{s:ch}{R:ai aC}{d:hQ}{q:c9}{o:J}{sd:ay}{m:aY}
structure x5(x:cO)(f:J):ae where
 L:h_ x.L (f:U)=some (ia x f)
 wf:vM (ia x f)
 rt:mE (ia x f)=true
 len:(nS (ia x f)).length<=100000
 top:f<=1000000
def aa3(Z:aC.kinds fu∈R)(h:gr w b q o sd m R)(aw:lf q.1)(z:iy q.1.ld.bl)(B:q.2.length<=90000)(f:J)(a:x5 q.1.x f):aB 148 #[b.p,o,aa (f:U)] w λe w'=>e=aV #[]/\gr w' b (kv f q) o sd m R:=by
 obtain⟨s,cs⟩:=q;obtain⟨d,cM,H⟩:=h;dsimp only at *;have bw:=nb H;have ax:=ad (YC (iE H) f (by have:=a.top;omega) _ a.L a.wf a.rt a.len);have gf:f<=1000000:=a.top;have fr:IntKind.i64.wrap ((f:U)-128)=(f:U)-128:=e0 _ I;obtain⟨jA,k⟩:∃ jA,jA=jX (ia s.x f):=⟨_,rfl⟩;have E:uh s f={s with own:=mZ (sX s.own f jA) ((f:U)-128),aJ:=np s.aJ f jA}:=by rw[k];rfl
 have g:=ad (bx aw (bx z B));have l:=ad H;obtain⟨i,j⟩:∃ i,i=na s.wt f:=⟨_,rfl⟩;unfold kv;dsimp only;rw[E,<-j];have V:=ad j;rw[<-k]at ax;clear H aw z B a E k j
 go_in
 go_wp2_with fail;refine aS ax.o λaq P=>?_;have h1:=l.o.keep P;have eI:=ER h1;obtain⟨aF,M,F,bK⟩:=(EX h1).put f jA I;have h2:=L5 h1 F bK;have X:=ER h2;obtain⟨br,v,G,Q⟩:=(EX h2).del ((f:U)-128) I 0;have c:=L5 h2 G Q;have W:=qp c;have t:=ad (acv (pv c) f jA);have n:=ad c;clear h1 h2 c P bK Q F G l ax;go_wp2_with first|refine P_ M rfl rfl rfl rfl rfl ?_|refine G5 v rfl rfl rfl rfl ?_
 refine aS t.o λg' ⟨A,S⟩=>?_;have C:=A0 n.o A S;have dv:=ES C;have N:=(yj C).look f I;clear A S n t M v bw eI X W;rw[<-V.o]at N;cases i with
 | none=>
  simp only[tm,r6]at N;refine tE;refine Jb;go_end0;exact⟨rfl,_,_,D.o⟩
 | some u=>
  refine DD;obtain⟨hd,a',K,T⟩:=(yj C).del f I 0;have r:=L6 C K T;have Y:=ad (Ml Z (q:=({s with own:=mZ (sX s.own f jA) ((f:U)-128),aJ:=np s.aJ f jA,wt:=mZ s.wt f},cs)) ⟨_,_,r⟩ (g.o.1.same rfl) g.o.2.1 g.o.2.2 f u I);have fo:=ES C;clear C r K T;go_wp2_with first|refine y9 N rfl rfl rfl rfl ?_|refine G5 a' rfl rfl rfl rfl ?_
  refine aS Y.o λlb y=>?_;exact I3
end
section
open Go.Maps
variable{fu:Old}{w w':aj}{b:hg}{s:ch}{R:ai aC}{d:hQ}{q:c9}{o:J}{sd:ay}{m:aY}
def aa4(E:aC.kinds fu∈R)(h:gr w b q o sd m R)(F:iz q.1.x q)(aw:lf q.1)(fr:hc q.1.x=none)(TS:q.2.length<=10000)(gf:q.1.ld.aO<=900000/\dx q.1.x<=q.1.ld.aO+100)(ax:∀ f:J,q.1.ld.aO+2<=f->(f:U)<=dx q.1.x+1->x5 q.1.x f):aB 89 #[b.p,o] w λe w'=>e=aV #[]/\gr w' b (kU q) o sd m R:=by
 have⟨x,ak⟩:=c8 q.1.x;rw[<-ak]at F fr gf ax;have N:=bN h (bx F (bx aw ak));have S:=bN fr (bx gf (bx ax TS));clear h F aw fr gf ax TS ak
 go_in
 go_wp2_with fail;go_loopg [4,5,6] (dx x-q.1.ld.aO).toNat (λg l e n wr=>∃ (p:c9) (k:J),g=k/\gp k p=kU q/\gr wr b p o sd m R/\iz x p/\dx x<=p.1.ld.aO+k/\q.1.ld.aO<=p.1.ld.aO/\p.1.ld.aO+k<=990000/\p.2.length+320*k<=60000)
 case atStart=>
  have h1:=S.o.2.1;have h2:=S.o.2.2.2;have y:(dx x-q.1.ld.aO).toNat<=100:=I;refine⟨q,_,rfl,?_,N.o.1,N.o.2.1,I,kA _,?_,I⟩
  .unfold kU;rw[<-N.o.2.2.2]
  omega
 have⟨p,k,a7,aW,ajW,F,hk,ys,zd,Q'⟩:=hrel;have⟨s,cs⟩:=p;dsimp only at *;have C:=F.x;have X:=F.aO;have s':=N.o.2.2.1.same (C.trans N.o.2.2.2);have⟨d,cM,H⟩:=ajW;have⟨i,a'⟩:=c8 (bO b s d++aC.out o cM sd m cs :: R);have L:∀ W,Sep W i->Sep W (bO b s d++aC.out o cM sd m cs :: R):=λW h=>a'▸h;have j:Sep wr.drew i:=by rw[a'];exact H.drew 1
 have r:∀ x:bA (λW=>Sep W i),x.to.cell? (ah b.p 9)=some (.bool s.cn):=λx=>rh (L _ x.held);have bI:∀ x:bA (λW=>Sep W i),x.to.cell? (ah b.p 2)=some (bM b.lb):=λx=>wi (L _ x.held);have g':∀ x:bA (λW=>Sep W i),x.to.cell? (ah b.p 0)=some (bM b.c.c):=λx=>nb (L _ x.held);have aU:=ad (λ(W:aj) (P:Sep W i)=>yx (pt (L _ P)));have ax:=ad (λ(W:aj) (P:Sep W i)=>AB (iE (L _ P)) (by rw[C];exact S.o.1));have T':dx s.x=dx x:=by rw[C]
 rw[T']at ax;have a:=bN F (bx s' (bx aW (bx hk (bx ys (bx zd Q')))));refine dU;have T:=ad L;clear F s' aW hk ys zd Q' a' H C T' L;refine aK;cases t:s.cn with
 | true=>
  rw[t]at r;have hfin:=show gp k (s,cs)=(s,cs)by cases k with|zero=>rfl|succ k=>unfold gp;rw[aD (.inl t)]
  have A:=ad (show gr wr.drew b (kU q) o sd m R by rw[<-a.o.2.2.1,hfin];exact⟨d,cM,T.o _ j⟩);clear t aU ax bI g' hfin;refine TG;refine M3 CU ?_;refine M3 CU ?_;refine mx ?_;refine xS;have hne:Nonempty (bA ((λW=>Sep W i))):=⟨⟨_,j⟩⟩;refine B1 ((λW=>Sep W i)) (j) [18,19] [] 0 rfl #[true,true,true,true,true,true,true,true,true,true,true,true,true,true,true,true,true,true,true,true] bc bc (λ_ _ _ d _ h=>zz) ?_;refine Ta;clear j r;exact DE
 | false=>
  refine xK;refine TG;refine DU;refine bJ (aU.out _ j) ?_;refine E _ _ (oy (j)) ?_;clear E K;refine lU λK E=>?_;go_simp;refine aS (ax.out _ j) λaq ajS=>?_;have G:=j.keep ajS;refine E _ _ (oy (G)) ?_;clear E K;have hne:Nonempty (bA ((λW=>Sep W i))):=⟨⟨_,G⟩⟩;refine B1 ((λW=>Sep W i)) (G) [18,19] [] 0 rfl #[true,true,true,true,true,true,true,true,true,true,true,true,true,true,true,true,true,true,true,true] bc bc (λ_ _ _ d _ h=>zz) ?_;refine Ta;clear j ajS r;by_cases M:s.ld.aO<dx x;rotate_left
  .have hfin:=show gp k (s,cs)=(s,cs)by cases k with|zero=>rfl|succ k=>unfold gp;rw[aD (.inr (by show dx s.x<=s.ld.aO;rw[m'.o];omega))]
   have A:=ad (show gr aq b (kU q) o sd m R by rw[<-a.o.2.2.1,hfin];exact⟨d,cM,T.o _ G⟩);have ajX:=cN M;clear hfin G aU ax bI g';exact DE
  have ajX:=dh M;obtain⟨k,rfl⟩:∃ ajT,k=ajT+1:=⟨k-1,by have:=a.o.2.2.2.1;omega⟩;have V':gp (k+1) (s,cs)=gp k (hr (s,cs)):=by
   show(if s.cn=true\/dx s.x<=s.ld.aO then(s,cs)else gp k (hr (s,cs)))=_;rw[az (by rw[D.o,m'.o];simp;omega)]
  have W':=a.o.1.step;have se:=a.o.1.hd.trans D.o;have fo:=a.o.2.2.2.2.2.1;have z:Sep aq.drew i:=G.drew 1;have ajZ:IntKind.i64.wrap (s.ld.aO+1)=s.ld.aO+1:=e0 _ I;have r':=ad (λ(W:aj) (P:Sep W i)=>acb (pt (T.o _ P)) se (s.ld.aO+1) rfl I);have v:=bN V' (bx W' (bx fo X));clear V' W' se G fo;refine aK;refine cS 18 ?_;refine cJ ((λW=>Sep W i)) (.range 12) 6 12 ?_;refine dN (z) (.range 10) 2 ?_;refine eK 10 λK E=>?_;go_simp;refine bJ (aU.out _ z) ?_;refine vq;refine dN (z) [11] 0 ?_;refine nf ?_;refine cJ (qb) [12,13,14,15,16,17] 0 6 ?_;refine eK 12 λK E=>?_;go_simp;refine(r'.o _ z).mono ?_;rintro e br ⟨vl,kH,rfl,ar,v',Tq⟩;refine E _ _ (nD _) ?_;clear E K;refine dN (nD br) [13,14,15,16,17] 0 ?_;refine pA ?_;have zp:(jc s.ld (s.ld.aO+1)).length<=64:=by
   have h1:=KW s.ld.bl (s.ld.b8 (s.ld.aO+1));have h2:(s.ld.b8 (s.ld.aO+1)).length<=64:=(a.o.1.b8 (s.ld.aO+1)).2;unfold jc;omega
  have u:=ad (E7 E (q:=({s with ld:=lh s.ld (s.ld.aO+1)},cs)) (l:=jc s.ld (s.ld.aO+1)) (vl:=vl) (b:=b) (o:=o) (sd:=sd) (m:=m) (R:=R) ⟨_,cM,(EY (T.o _ z) v' ar Tq).sS⟩ (a.o.2.1.same rfl) (Yk (a.o.1.b8 _).1) (by show cs.length+_<=_;have:=a.o.2.2.2.2.2.2;omega));refine o7;clear z v' ar Tq r' aU ax bI g';refine tx;have l':=ad y;obtain⟨d4,v4,y⟩:=y;have bB:=wi y;have ps:Hid (aB 17 #[b.lb] Q λe w'=>e=aa (s.ld.aO+1)/\Q=w'):=ad (yx (pt y));have X:=v.o.2.2.2;have fo:=v.o.2.2.1;have aj0:IntKind.i64.wrap (s.ld.aO+1+1)=s.ld.aO+2:=by rw[show s.ld.aO+1+1=s.ld.aO+2 by omega];exact e0 _ I
  have V:Int.tmod (s.ld.aO+2) 16=(s.ld.aO+2)%16:=oW I;clear y u;by_cases B:(s.ld.aO+2)%16=0
  focus
   have ajR:(((s.ld.aO+2).toNat:J):U)=s.ld.aO+2:=I
   have vs:=ad (aa3 E l'.o (a.o.2.1.same rfl) (a.o.1.bl.KV _) (by show(cs++jc s.ld (s.ld.aO+1)).length<=_;rw[cG];have:=a.o.2.2.2.2.2.2;omega) (s.ld.aO+2).toNat (by
    show x5 s.x _;rw[m'.o];exact S.o.2.2.1 _ (by have:=a.o.2.2.2.2.1;omega) I))
   rw[ajR]at vs;have Y:=ad (show hr (s,cs)=kv (s.ld.aO+2).toNat ({s with ld:=lh s.ld (s.ld.aO+1)},cs++jc s.ld (s.ld.aO+1))by unfold hr;dsimp only;rw[aD B]);have ajU:(Int.tmod (s.ld.aO+2) 16 == 0)=true:=by rw[V,B];rfl
   have ajV:((s.ld.aO+2)%16 == 0)=true:=by rw[B];rfl
   have ajY:=M;clear V B ajR zp X M;go_wp2_with refine bJ ps.o ?_
   go_wp2_with refine aS vs.o λaj1 Z=>?_
   rw[<-Y.o]at Z;have mv:=ad Z;clear Z
  rotate_left
  focus
   have Y:=ad (show hr (s,cs)=({s with ld:=lh s.ld (s.ld.aO+1)},cs++jc s.ld (s.ld.aO+1))by unfold hr;dsimp only;rw[az B]);have ajU:(Int.tmod (s.ld.aO+2) 16 == 0)=false:=by rw[V];simpa using B
   have ajV:((s.ld.aO+2)%16 == 0)=false:=by simpa using B
   have ajY:=M;clear V B zp X M;go_wp2_with refine bJ ps.o ?_
   have mv:=ad (show gr Q b (hr (s,cs)) o sd m R by rw[Y.o];exact l'.o)
  rotate_left
  all_goals
   go_wp2_with fail;go_roundg k
   case rel=>exact⟨hr (s,cs),k,rfl,by rw[<-v.o.1];exact a.o.2.2.1,mv.o,v.o.2.1.1,by rw[v.o.2.1.2.2];have:=a.o.2.2.2.1;(try dsimp only);omega,by rw[v.o.2.1.2.2];have:=a.o.2.2.2.2.1;(try dsimp only);omega,by rw[v.o.2.1.2.2];(try dsimp only);omega,by have:=v.o.2.1.2.1;have:=a.o.2.2.2.2.2.2;(try dsimp only at *);omega⟩
   omega
end
def acO{c r:U}{v:J->U}(h:Mid c f r v):∀ k,k<2->aZ (v (4+10*k))/\aZ (v (4+10*k+1)):=λk hk=>by
 have p:=h.pl (4+10*k) (by unfold ea;omega);have ak:=p.x;have a8:=p.y;unfold aZ;simp only[tj]at ak;omega
def ck.qy{s:ch}{F:J}{bk us:J->J->U}(h:ck s F bk us):lf s:=by
 have⟨r,hm,_⟩:=um us h.aN s.x.now;exact⟨_,h.jr.st h.k_.1 bu,acO hm⟩
def ck.ahM{s:ch}{F:J}{bk us:J->J->U}(h:ck s F bk us)(b:s.x.now<=1000000)(f:J)(h1:F<=f)(h2:f<=s.x.now):x5 s.x f:=by
 have⟨r,hm,a⟩:=um us h.aN f;have e:=h.jr.ia h1 h2;have⟨s1,s2,fF⟩:=hm.ahR I a;exact⟨by rw[e];exact h.jr.st h1 h2,by rw[e];exact s1,by rw[e];exact s2,by rw[e];exact fF,I⟩
structure qh(s:ch)(k:J)(p:c9):ae where
 rest:p.1={s with ld:=p.1.ld}
 aO:p.1.ld.aO=s.ld.aO
 hd:p.1.ld.hd=s.ld.hd
 eV:gh p.1.ld.bl
 bl:iy p.1.ld.bl
 nN:(p.1.ld.bl.length:U)<=p.1.ld.most/\p.1.ld.most<=256
 len:p.2.length<=320*k
def Pw{s:cR}(h:s.bl.length<=256){fr now:U}(ak:xs.length<=64):(l1 s fr xs now).length<=320:=by
 have a:=Gw s.most now (jd s.bl (hS xs (hV s.bl fr))) xs;have b:(jN xs (hV s.bl fr)).length<=s.bl.length:=by
  exact TJ
 unfold l1;rw[cG];omega
def qh.step{s:ch}(h:qh s k p)(ak:fk n xs)(now:U):qh s (k+1) (lv now p (n,xs)):=by
 have b:=h.nN;have h1:=Pw (s:=p.1.ld) (fr:=n) (now:=now) I ak.2.1;refine⟨c6 (λq:ch=>{q with ld:=qI p.1.ld n xs}) h.rest,h.aO,h.hd,?_,h.bl.tell (λe a=>(ak.2.2 e a).1) h.eV,⟨?_,b.2⟩,?_⟩
 .exact(B2 (most:=p.1.ld.most) (now:=0) (yb h.eV _) xs).1
 .have hd:=(tP p.1.ld.bl (hS xs (hV p.1.ld.bl (n:U)))).length_le;exact Pn (yb h.eV _) (show(((jd p.1.ld.bl (hS xs (hV p.1.ld.bl (n:U)))).length:J):U)<=p.1.ld.most by omega) xs
 have:=h.len
 show(p.2++l1 p.1.ld n xs now).length<=_;rw[cG];omega
section
open Go.Maps
variable{w w':aj}{b:hg}{s:ch}{R A:ai aC}{d:hQ}{q:c9}{o:J}{sd:ay}{m:aY}{F:J}{bk us:J->J->U}
def Xc(w:aj)(v:ay)(ps:ai gu):ae:=w.ownsRow 0 271 2 v ps.length (rowP ps)/\∀ p∈ps,w.ownsRow 0 45 9 p.cz p.xs.length (b0 p.xs)
def aC.mB(v:ay)(ps:ai gu):aC where
 S j:=v.ownBlock=some j\/∃ p∈ps,p.cz.ownBlock=some j
 P w:=Xc w v ps
 lt h a:=by
  rcases a with a|⟨p,ao,a⟩
  .exact qA h.1 a
  .exact qA (h.2 p ao) a
 frame h hk aA:=⟨b7 h.1 hk λj a=>aA j (.inl a),λp ao=>b7 (h.2 p ao) hk λj a=>aA j (.inr ⟨p,ao,a⟩)⟩
structure Xi(s:ch)(eM:cO)(ps:ai gu):ae where
 now:eM.now=s.x.now
 eq:dt s=(ps.map gu.key).foldl (lv s.x.now) ({s with x:=eM},[])
 ok:∀ p∈ps,fk p.n p.xs/\s.ld.aO<p.n/\p.n<=s.x.now
 gR:ps.length<=64
def aaZ(h:Sep w (bO b s d++A))(ao:ck s F bk us)(z:s.x.now<=100000):aB 138 #[b.c.c] w λe w'=>∃ eM ps i cap,e=aV #[au i ps.length cap,aa 0]/\Xi s eM ps/\Sep w' (aC.mB (au i ps.length cap) ps :: (bO b {s with x:=eM} d++A)):=by
 cases hw:hc s.x with
 | none=>
  refine aS (Yz (iE h) hw) λaq o=>?_;refine⟨s.x,[],none,0,rfl,⟨rfl,by unfold dt;rw[hw];rfl,λp ao=>(by cases ao),aM⟩,?_⟩;have aw:(aC.mB (au none 0 0) []).P aq:=⟨il _ _ _ _,λp ao=>by cases ao⟩;exact(h.keep o).cons (bd aq) (λ_ _ _ _=>id) aw (λj a=>by rcases a with a|⟨p,ao,_⟩;cases a;cases ao)
 | some g=>
  have⟨g1,B,C,D,u⟩:=ao.jr.G9 ao.aL ao.k_.1 hw;have H:s.ld.aO<g:=by
   rcases Int.lt_or_le s.ld.aO g with c|c
   .exact c
   exact absurd (ao.uJ g (.inr c)) u
  have E:=ao.k_;have G:=ao.ot;obtain⟨_,_,_,_,t,_⟩:=wP s.x g (s.x.now-g);refine(Yy (iE h) hw I (λk hk=>Yb ao.jr ao.aN ao.fO g1 I z k hk) I).mono ?_;rintro e aq ⟨ps,i,cap,rfl,ar,l,m,an,o⟩;have K:ps.length=s.x.now-g:=by rw[<-iP (f:=gu.key),l];unfold nT;simp
  refine⟨_,ps,i,cap,rfl,⟨t,?_,λp y=>?_,I⟩,?_⟩
  .unfold dt;rw[hw,l]
  .have hm:p.key∈nT s.x g (s.x.now-g):=by rw[<-l];exact gO.2 ⟨p,y,rfl⟩
   have⟨j,a,r⟩:=gO.1 hm;have a:=p1.1 a;have aw:p.n=g+j:=(c6 Prod.fst r).symm;have ak:p.xs=fe (kY s.x bk us g s.x.now) s.x.aN (g+j):=by rw[<-FL ao.jr g1 I j I];exact(c6 Prod.snd r).symm
   exact⟨by rw[aw,ak];exact tR _ ao.aN _,I,I⟩
  exact h.BU 1 (r':=aC.core b.c (replay s.x g (s.x.now-g))) (q:=aC.mB (au i ps.length cap) ps) rfl o (λ_ _ h=>h) an (λ_ h=>.inl h) ⟨ku ar (c3 _),λp ao=>ku (m p ao) (c3 _)⟩ (λj a=>by
   rcases a with a|⟨p,ao,a⟩
   .exact(ar.lt j a).1
   .exact((m p ao).lt j a).1) (λj a v=>by
   have h1:=(iE h).lt v;rcases a with a|⟨p,ao,a⟩
   .have:=(ar.lt j a).1;omega
   .have:=((m p ao).lt j a).1;omega)
end
section
open Go.Maps
variable{fu:Old}{w w':aj}{b:hg}{s:ch}{R:ai aC}{o:J}{sd:ay}{m:aY}{F:J}{bk us:J->J->U}
def n0(s:ch)(eM:cO)(now:U)(ps:ai gu):c9:=(ps.map gu.key).foldl (lv now) ({s with x:=eM},[])
def ah2(s:ch)(eM:cO)(now:U)(ps:ai gu)(p:gu):n0 s eM now (ps++[p])=lv now (n0 s eM now ps) (p.n,p.xs):=by
 unfold n0;rw[k3,CA,LK];rfl
def afI(w:aj):(Instr.alloc 271 true (aV #[])).run prog w=.ok w (w.alloc (ab #[aa 0,au none 0 0] 271)):=bc
structure Kb(L:ai aC)(wL n:J)(cz:ay)(W:aj):ae where
 sep:Sep W L
 box:W.heap[wL]?=some (ab #[aa (n:U),cz] 271 (0,0))
def aa2(E:aC.kinds fu∈R)(h:gr w b (s,[]) o sd m R)(ao:ck s F bk us)(akk:s.x.now<=100000)(aT:s.ld.hd=false):aB 86 #[b.p,o] w λe w'=>e=aV #[]/\gr w' b (dt s) o sd m R:=by
 have⟨d,cM,H⟩:=h;have⟨v,aj8,a_⟩:=ao.qy;have aj':=ad (E_ H v aj8);have aj1:=ad H;have N:=bN ao (bx akk (bx a_ aT));have E:=ad E;clear H aj8 a_ ao akk aT
 go_in
 go_wp2_with fail;refine aS aj'.o λaq aj9=>?_;go_wp2_with fail;refine(PE v N.o.2.2.1 _).mono ?_;rintro e aF ⟨⟨c,rfl,ajT,akh,aki⟩,ake⟩;have aj2:=aj1.o.keep (aj9.ga ake);have r':=F_ aF;have Y:=aP aF (ab kG 264);obtain⟨y,_,gf⟩:=dT (aF.alloc (ab kG 264)) 264 26 aF c _ sizeOf264 ajT rfl Y (fJ.2 akh);have ajX:=fb (aF.alloc (ab kG 264)) aF _ c 264 Y;have V':=c1 ((bd aF).alloc (ab kG 264)) gf a1;generalize (aF.alloc (ab kG 264)).setRow aF c=br at y ajX V';generalize aF.alloc (ab kG 264)=akI at r' y;obtain⟨ev,ajY⟩:=c8 aF.heap.size;have Tq:=(aj2.cons (r:=aC.bh ev (c,264)) V' (λ_ _ _ _=>id) (ajY▸ajX) (λj a=>by have a:j=ev:=a;omega)).sS;rw[<-ajY]at r' y;have bw:=nb Tq;have akb:=ad (aaZ Tq N.o.1 N.o.2.1);have TS:=bN ajT aki;clear aj2 Tq Y gf ajX V' ajY aj' aj1 aj9 ake ajT akh aki;go_wp2_with first|refine eL r' rfl rfl ?_|refine c' y rfl rfl rfl rfl ?_
 clear r' y;refine akb.o.mono ?_;rintro e ys ⟨eM,ps,zp,cap,rfl,vs,h2⟩;have h2:=h2.sS;have Z:=N.o.1;have akc:qh {s with x:=eM} 0 (n0 s eM s.x.now []):=⟨rfl,rfl,rfl,Z.eV,Z.rp,⟨Z.nN,Z.most.2⟩,by show([]:ai cq).length<=_;simp⟩;have akd:∀ (L:ai gu) (k:J) (bR:c9),bR.1.x=eM->((L.map gu.key).foldl (lv s.x.now) bR).1.x=eM:=by
  intro L
  induction L with
  | nil=>intro k bR h;exact h
  | cons p L akw=>intro k bR h;exact akw k _ h
 obtain⟨dc,aj0,_⟩:=ug Z;have akm:(dt s).1.x=eM:=by rw[vs.eq];exact akd ps 0 _ rfl
 have lb:=bN (aj0.qy.same (s':={s with x:=eM}) akm.symm) (bx TS.o.1 TS.o.2);have a':=bN vs (bx Z.aO (bx N.o.2.2.2 (bx N.o.2.1 vs.gR)));have zd:=ad (bx h2 akc);clear akb h2 vs Z akc akd aj0 akm N TS bw;simp only;go_wp2_with fail;go_loopg [23] ps.length (λg i wr=>∃ pre rest:ai gu,ps=pre++rest/\g=rest.length/\i=aa pre.length/\qh {s with x:=eM} pre.length (n0 s eM s.x.now pre)/\∃ d cM,Sep wr (bO b (n0 s eM s.x.now pre).1 d++aC.out o cM sd m (n0 s eM s.x.now pre).2 :: aC.mB (au zp ps.length cap) ps :: aC.bh ev (c,264) :: R))
 case atStart=>exact⟨[],ps,rfl,rfl,rfl,zd.o.2,d,cM,zd.o.1⟩
 obtain⟨pre,rest,ak,a7,rfl,Q,d,cM,l⟩:=hrel;clear zd;cases rest with
 | nil=>
  obtain rfl:ps=pre:=by rw[ak,gq]
  have akF:¬ (ps.length:U)<(ps.length:U):=I;clear ak;by_cases akE:0<ps.length
  .have akt:=dh I;have akq:=dh I;have mv:(n0 s eM s.x.now ps).1.x=eM:=by rw[Q.rest]
   have aks:=lb.o.1.same mv;have⟨v9,fo,Q'⟩:=aks;have⟨f,T⟩:=c8 (n0 s eM s.x.now ps);rw[<-T]at l fo;have⟨B,bK⟩:=c8 (bO b f.1 d++aC.out o cM sd m f.2 :: aC.mB (au zp ps.length cap) ps :: aC.bh ev (c,264) :: R);have V:∀ W,Sep W B->Sep W (bO b f.1 d++aC.out o cM sd m f.2 :: aC.mB (au zp ps.length cap) ps :: aC.bh ev (c,264) :: R):=λW h=>bK▸h;have D:Sep wr.drew B:=by rw[bK];exact l.drew 1
   have akB:∀ t:bA (λW=>Sep W B),t.to.cell? (ah b.p 5)=some (bM b.e6):=λt=>L0 (V _ t.held);have M:∀ W,(∃ t:bA (λW=>Sep W B),W=t.to)->(Instr.loadAt 264 ev).run prog W=.ok (.agg c) W:=λW ⟨t,aW⟩=>by
    rw[aW];have al:=(V _ t.held).at' 11 rfl;exact fS (P:=prog) 264 26 ev 0 c c _ isAgg264 sizeOf264 lb.o.2.1 al (λj u a=>km)
   have aka:=ad (λ(W:aj) (ajR:Sep W B)=>E_ (V _ ajR) v9 fo);have aj3:=ad V;have akr:=ad Q';have aj4:=bN T lb.o.2.2;refine IV;refine cS 11 ?_;refine cJ ((λW=>Sep W B)) (.range 10) 1 10 ?_;refine pz (D) (.range 7) 3 λhne=>?_;refine xx;refine eK 7 λK E=>?_;go_simp;refine aS (aka.o _ D) λakC akj=>?_;have z:=D.keep akj;refine vq;refine eK 8 λK E=>?_;go_simp;refine(PE v9 akr.o _).mono ?_;rintro e akK ⟨⟨eI,rfl,_,_,aj5⟩,akf⟩;have T':=z.keep (ag.bU akf a1);refine E _ _ (T') ?_;clear E K;refine jh 9 λK E=>?_;go_simp;refine(aik aj4.o.2 aj5 _).mono ?_;rintro e akL ⟨⟨akx,aky,akz,akA,aku,rfl⟩,akg⟩;have X:=T'.keep (ag.bU akg a1);refine C9;clear D z T' akj akf akg aj5 aka akB M;have aj_:=ad (Y4 b.e6 (L2 (aj3.o _ X)) akx aky akz akA aku);refine cJ (qb) [10] 0 1 ?_;refine mz 10 λK E=>?_;go_simp;refine aj_.o.mono ?_;rintro e akD ⟨⟨gQ,rfl⟩,aj7,akn⟩;refine E _ _ (nD _) ?_;clear E K;have ako:=ad (show gr akD b (n0 s eM s.x.now ps) o sd m R from aj4.o.1▸⟨d,cM,(L3 (aj3.o _ X) aj7 akn).rR.rR⟩);clear X aj7 akn aj_;exact Vl
  have akt:=cN I;have akq:=cN I;have ako:=ad (show gr wr b (n0 s eM s.x.now ps) o sd m R from⟨d,cM,l.rR.rR⟩);clear l Q;exact Vl
 | cons p rest=>
  have akv:pre.length<ps.length:=by rw[ak];simp
  have akG:(pre.length:U)<(ps.length:U):=I;have he:ps[pre.length]=p:=by simp[ak]
  have ajV:p∈ps:=by rw[ak];simp
  have se:=a'.o.1.ok p ajV;have akl:ps=(pre++[p])++rest:=by rw[ak];simp
  refine xO;have vl:=l.at' 10 rfl;obtain⟨r,rfl⟩:=nR vl.1 I;have g':=rJ (P:=prog) (enc:=λp:gu=>[aa (p.n:U),p.cz]) (λ_=>rfl) isAgg271 sizeOf271 vl.1 pre.length akv;rw[he]at g';have g':=g';have e2:=afI wr;have Y:=aP wr (ab #[aa 0,au none 0 0] 271);obtain⟨y,_,gf⟩:=dT (wr.alloc (ab #[aa 0,au none 0 0] 271)) 271 2 wr #[aa (p.n:U),au p.A p.xs.length p.cap] _ sizeOf271 rfl rfl Y rfl;have ajS:=fb (wr.alloc (ab #[aa 0,au none 0 0] 271)) wr _ #[aa (p.n:U),au p.A p.xs.length p.cap] 271 Y;have v':=c1 ((bd wr).alloc (ab #[aa 0,au none 0 0] 271)) gf a1;generalize (wr.alloc (ab #[aa 0,au none 0 0] 271)).setRow wr _=ys at y ajS v';generalize wr.alloc (ab #[aa 0,au none 0 0] 271)=akJ at e2 y;obtain⟨f,T⟩:=c8 (n0 s eM s.x.now pre);rw[<-T]at l Q;obtain⟨B,bK⟩:=c8 (bO b f.1 d++aC.out o cM sd m f.2 :: aC.mB (au (bT r) ps.length cap) ps :: aC.bh ev (c,264) :: R);have V:∀ W,Sep W B->Sep W (bO b f.1 d++aC.out o cM sd m f.2 :: aC.mB (au (bT r) ps.length cap) ps :: aC.bh ev (c,264) :: R):=λW h=>bK▸h;obtain⟨wL,ajU⟩:=c8 wr.heap.size;have D:Kb B wL p.n (au p.A p.xs.length p.cap) ys.drew:=⟨by rw[bK];exact(l.keep v').drew 1,ajU▸ajS⟩;obtain⟨G,fr⟩:=gg (F:=λW=>Kb B wL p.n (au p.A p.xs.length p.cap) W);have bR:∀ t:bA G,t.to.cell? (ah b.p 0)=some (bM b.c.c):=λt=>nb (V _ ((fr _).1 t.held).sep);have bI:=λx:bA G=>aX (((fr _).1 x.held).box);have M:∀ W,(∃ t:bA G,W=t.to)->(Instr.loadAt 271 wL).run prog W=.ok (aG #[aa (p.n:U),au p.A p.xs.length p.cap]) W:=λW ⟨t,aW⟩=>by
   rw[aW];exact fS (P:=prog) 271 2 wL 0 #[aa (p.n:U),au p.A p.xs.length p.cap] #[aa (p.n:U),au p.A p.xs.length p.cap] _ isAgg271 sizeOf271 rfl ((fr _).1 t.held).box (λj u a=>km)
  have l':=(fr _).2 D;have ajZ:f.1.x=eM:=by rw[Q.rest]
  have aj6:Hid (∀ W,G W->aB 22 #[b.c.c] W λe w'=>e=aa (s.x.now:U)/\W=w'):=ad (λW ajR=>by
   have h1:=x' (iE (V _ ((fr W).1 ajR).sep));rw[ajZ,a'.o.1.now]at h1;exact h1)
  have S:=ad (Mn (w:=ys.drew) (b:=b) (q:=f) (o:=o) (sd:=sd) (m:=m) (R:=aC.mB (au (bT r) ps.length cap) ps :: aC.bh ev (c,264) :: R) (lB _ (lB _ E.out)) ⟨d,cM,V _ D.sep⟩ (show ys.drew.ownsRow 0 45 9 (au p.A p.xs.length p.cap) p.xs.length (b0 p.xs)from b7 (vl.2 p ajV) (v'.drew) (λ_ _=>id)) se.1 (s.x.now:U) ⟨I,by have:=a'.o.2.2.2.1;omega⟩ (Q.hd.trans a'.o.2.2.1) (by rw[Q.aO];exact se.2.1) (lb.o.1.same ajZ) Q.bl (by have:=Q.len;have:=a'.o.2.2.2.2;omega));have ajW:lv s.x.now f (p.n,p.xs)=n0 s eM s.x.now (pre++[p]):=by rw[ah2,T]
  rw[ajW]at S;have W':=Q.step se.1 s.x.now;rw[ajW]at W';have dr:=bN W' akl;have akH:=a'.o.2.2.2.2;rw[<-ajU]at e2 y;clear l Q ak a7 he ajV se akl vl Y gf ajS v' T bK V D fr ajZ ajW W' ajU;go_wp2_with first|((with_reducible refine dg g' rfl rfl ?_ ?_);exact rfl)|refine eL e2 rfl rfl ?_|refine c' y rfl rfl rfl rfl ?_
  clear g' e2 y;refine xS;refine cS 10 ?_;refine cJ (G) (.range 9) 1 9 ?_;refine pz (l') (.range 8) 1 λhne=>?_;refine xx;refine jh 8 λK E=>?_;go_simp;refine bJ (aj6.o _ l') ?_;refine E _ _ (l') ?_;clear E K;clear bR bI M l' aj6;refine cJ (qb) [9] 0 1 ?_;refine mz 9 λK E=>?_;go_simp;refine aS S.o ?_;rintro akC ⟨d5,v5,C⟩;refine E _ _ (nD _) ?_;clear E K;refine IZ;go_roundg rest.length
  case measure=>omega
  exact⟨pre++[p],rest,dr.o.2,rfl,tp,by rw[cG,jG];exact dr.o.1,d5,v5,m'.o⟩
end
section
open Go.Maps
variable{fu:Old}{w w':aj}{b:hg}{s:ch}{R:ai aC}{d:hQ}{q:c9}{o:J}{sd:ay}{m:aY}
structure Kf(s:ch):ae where
 cC:-1000<=s.cC/\s.cC<=1000
 pT:0<=s.aJ.cA/\s.aJ.cA<=1000000
 ee:0<=s.aJ.du/\s.aJ.du<=1000000
 hd:s.ld.hd=false
 aO:s.ld.aO<s.x.now
 no:hc s.x=none
 bl:iy s.ld.bl
 now:lf s
 dl:s.x.e_<=1000
 d:(s.x.f s.x.aL).next<=s.x.now+s.x.e_
 eZ:(s.x.f s.x.aL).next<1000000
 w:(s.x.f s.x.aL).first<=(s.x.f s.x.aL).next/\(s.x.f s.x.aL).next<(s.x.f s.x.aL).first+64
def Bj{w:aj}{b:hg}{q:c9}{o:J}{sd:ay}{R:ai aC}{v:aR}(h:gr w b q o sd false R)(an:hj q.1=false):gr w b (fH v q) o sd (hj q.1) R:=by
 unfold fH;rw[an];exact h
def aam(h:Sep w (bO b p.1 d++aC.out o v sd m p.2 :: R))(m':aY):Sep (w.setCell (ah o 2) (.bool m')) (bO b p.1 d++aC.out o v sd m' p.2 :: R):=by
 obtain⟨al,c⟩:=lM h;have fP:=(ag.refl (λj=>j=o) w).setCell (p:=ah o 2) rfl (.bool m');exact EZ h ⟨by simpa using bX al 2 (.bool m'),b7 c fP (λj a e=>nP c (e▸al) bs a)⟩ (fP.mono λ_ _ e=>.inl e) (λj a=>.inr (.inl a))
def aao(h:Sep w (bO b p.1 d++aC.out o v sd m p.2 :: R))(sd':ay):Sep (w.setCell (ah o 1) sd') (bO b p.1 d++aC.out o v sd' m p.2 :: R):=by
 obtain⟨al,c⟩:=lM h;have fP:=(ag.refl (λj=>j=o) w).setCell (p:=ah o 1) rfl sd';exact EZ h ⟨by simpa using bX al 1 sd',b7 c fP (λj a e=>nP c (e▸al) bs a)⟩ (fP.mono λ_ _ e=>.inl e) (λj a=>.inr (.inl a))
def aa5(a':aC.kinds fu∈R)(h:gr w b q o sd false R)(v:aR)(a_:v.toNat<=63)(hk:Kf q.1)(m':q.2.length<=40000)(lb:hj q.1=true->Can (ff q.1 v).x q.1.x.now/\hc (ff q.1 v).x=none/\kO (ff q.1 v).x=false/\q.1.x.now<((ff q.1 v).x.f q.1.x.aL).next/\fk q.1.x.now (jk (ff q.1 v).x q.1.x.now)/\lf (nv (ff q.1 v,q.2)).1):aB 88 #[b.p,o,bf v.toNat] w λe w'=>e=aV #[]/\gr w' b (fH v q) o sd (hj q.1) R:=by
 have⟨s,cs⟩:=q;have F:=h;have⟨d,cM,N⟩:=h;have bP:=qp N;have ax:=ad (M6 (pv N));by_cases k:s.aJ.state=1;rotate_left
 .have l:=ad (Bj (v:=v) F (show hj s=false by unfold hj;simp[k]));have ys:=cN k;generalize s.aJ.state=z at *;refine cg;refine bJ ax.o ?_;exact Ii
 rw[k]at ax;have C:=ad (aa6 N hk.cC hk.pT);by_cases g:uL s=true
 .have l:=ad (Bj (v:=v) F (show hj s=false by unfold hj;simp[g]));have H:=ad (λn=>(show gr (w.drewN n) b (fH v (s,cs)) o sd (hj s) R from Bj ⟨d,cM,N.drew n⟩ (show hj s=false by unfold hj;simp[g])));rw[g]at C;refine Ds;refine aS C.o ?_;rintro _ ⟨n,rfl⟩;have l:=ad (H.o n);exact Ii
 have g:uL s=false:=by simpa using g
 rw[g]at C;have i:=ad hk;by_cases E:kO s.x=true
 .have M:hj s=false:=by unfold hj;simp[E]
  have B:=ad (λn=>Yx (iE (N.drew n)) v.toNat E);refine zS;have m:=ad (λn=>nb (N.drew n));refine cg;refine bJ ax.out ?_;refine tD;rintro _ ⟨n,rfl⟩;have bw:=m.out n;have u:=ad (B.o n);refine tx;have h2:=(fr.o.drew n).keep y;have bw:=nb h2;have c:=ad (YB (iE h2) i.o.no r'.o);have t:=ad h2;simp only;refine aK;refine xG;have l:=ad (Bj (v:=v) (show gr (aF.alloc (ab #[aa 0,au none 0 0] 271)) b (s,cs) o sd false R from⟨d,cM,(t.o.keep al).keep ((bd aF).alloc _)⟩) se.o);exact Ii
 have E:kO s.x=false:=by simpa using E
 have M:hj s=true:=by unfold hj;simp[k,g,E]
 have⟨g1,S,T,V,W,X⟩:=lb M;have B:=ad (λn=>Yw (iE (N.drew n)) v.toNat I E hk.d hk.dl hk.eZ hk.w);have fr:=ad N;have m:=ad (λn=>nb (N.drew n));have a:=bN g1 (bx S (bx T (bx V (bx W (bx X m')))));unfold fH;dsimp only;rw[aD M,M]
 go_in
 go_wp2_with fail;refine bJ ax.out ?_;go_wp2_with fail;refine aS C.out ?_;rintro _ ⟨n,rfl⟩;have bw:=m.out n;have u:=ad (B.o n);go_wp2_with fail;refine aS u.o ?_;rintro Q ⟨s',y⟩;have h2:=AZ (fr.o.drew n) s' y;have bP:=qp h2;have gf:=ad (acu (pv h2) (s.x.f s.x.aL).next v (by have:=i.o.ee;simp only;omega));have t:=ad h2;go_wp2_with fail;refine aS gf.o ?_;rintro aF ⟨l',al⟩;have D:=A0 t.o l' al;have bw:=nb D;obtain⟨r,fo,ps⟩:=a.o.1.st;have g':=ad (YA (iE D) a.o.2.1 a.o.2.2.1 a.o.2.2.2.1 a.o.1.L fo ps a.o.1.top a.o.1.cc a.o.1.LD a.o.1.w7);have K:=ad D;simp only;go_wp2_with fail;refine g'.o.mono ?_;rintro e br ⟨⟨A,cap,rfl,mv⟩,vl,vs⟩;have bK:=AZ K.o vl vs;have Z:=aP br (ab #[aa (s.x.now:U),.slice A (jk (ff s v).x s.x.now).length cap] 271);have G:=(bd br).alloc (ab #[aa (s.x.now:U),.slice A (jk (ff s v).x s.x.now).length cap] 271);have v':=aX Z;have c:=ad (Mn (q:=({ff s v with x:={kg (ff s v).x s.x.now with now:=s.x.now+1}},cs)) a' ⟨d,cM,bK.keep G⟩ (b7 mv G (λ_ _=>id)) a.o.2.2.2.2.1 (s.x.now:U) ⟨I,by have:=a.o.1.top;omega⟩ i.o.hd i.o.aO (lf.same (s:=(nv (ff s v,cs)).1) a.o.2.2.2.2.2.1 rfl) i.o.bl (cu a.o.2.2.2.2.2.2 bs));go_wp2_with fail;refine aS c.o ?_;rintro zd ⟨P,v6,j⟩;have j:=j;have f2:=aX ((lM j).1);have h7:=bV ((lM j).1);have Y:=ad (show gr _ b (nv (ff s v,cs)) o sd true R from⟨P,v6,aam (p:=nv (ff s v,cs)) j true⟩);go_wp2_with fail;go_end0;exact⟨rfl,Y.o⟩
end
section
variable{w w':aj}{s:ch}{F:J}{bk us:J->J->U}
theorem qh.many{s:ch}(now:U):∀ (L:ai (J×ai aE)) (k:J) (p:c9),qh s k p->(∀ g∈L,fk g.1 g.2)->qh s (k+L.length) (L.foldl (lv now) p)
 | [],_,_,h,_=>h
 | g :: L,k,p,h,a=>by
  rw[eA,show k+(L.length+1)=k+1+L.length by omega];exact qh.many now L (k+1) _ (h.step (a g o0) now) (λe b=>a e (lB _ b))
def ck.N'(h:ck s F bk us):(dt s).2.length<=5760:=by
 cases hw:hc s.x with
 | none=>unfold dt;rw[hw];simp
 | some g=>
  obtain⟨g1,d,_⟩:=h.jr.G9 h.aL h.k_.1 hw;have f:=h.k_;have i:=h.ot;have b:qh {s with x:=replay s.x g (s.x.now-g)} 0 ({s with x:=replay s.x g (s.x.now-g)},[]):=⟨rfl,rfl,rfl,h.eV,h.rp,⟨h.nN,h.most.2⟩,aM⟩;have h1:=b.many s.x.now (nT s.x g (s.x.now-g)) 0 _ (λe c=>by
   obtain⟨j,a,rfl⟩:=gO.1 c;have a:=p1.1 a;rw[FL h.jr g1 I j I];exact tR _ h.aN _)
  have k:(nT s.x g (s.x.now-g)).length=s.x.now-g:=by unfold nT;simp
  unfold dt;rw[hw]
  have:=h1.len
  show((nT s.x g (s.x.now-g)).foldl (lv s.x.now) ({s with x:=replay s.x g (s.x.now-g)},[])).2.length<=5760;omega
def Pq{q:c9}(v:aR)(h:ck q.1 F bk us)(ao:hj q.1=true->fk q.1.x.now (jk (ff q.1 v).x q.1.x.now)):(fH v q).2.length<=q.2.length+320:=by
 unfold fH;split
 .rename_i an;have h1:=Pw (s:=q.1.ld) (fr:=q.1.x.now) (now:=q.1.x.now) (by have:=h.nN;have:=h.most;omega) (ao an).2.1;show(q.2++l1 q.1.ld q.1.x.now (jk (ff q.1 v).x q.1.x.now) q.1.x.now).length<=_;rw[cG];omega
 omega
theorem iz.EG:∀ (n:J) {p:c9},iz x p->(gp n p).2.length<=p.2.length+320*n
 | 0,_,_=>dm _
 | n+1,p,h=>by
  unfold gp;split
  .omega
  obtain⟨h1,h2,_⟩:=h.step
  have:=iz.EG n h1
  omega
structure xY(l:cj)(lead:U):ae where
 aW:0<=l.cA/\l.cA<=1000000
 aT:0<=l.heard/\l.heard<=1000000
 mn:∀ m∈l.out,m.bm=[]
 hm:∀ m∈(dG l lead).1,m.wf/\dR m
 aw:(dG l lead).1.length<=100
structure D7(s:ch)(v:aR)(F:J)(bk us:J->J->U):ae where
 c4:ck s F bk us
 ng:s.cn=false
 E:s.x.now<=F+s.x.eg+1
 e':(F:U)<=s.ld.aO+1
 top:s.x.now<=90000
 ev:v.toNat<=63
 cC:-1000<=s.cC/\s.cC<=1000
 pT:0<=s.aJ.cA/\s.aJ.cA<=1000000
 ee:0<=s.aJ.du/\s.aJ.du<=1000000
 aJ:xY (dS v s).1.aJ (jg {(dS v s).1 with x:=eJ (dS v s).1.x})
def ck.ahD(h:ck s F bk us)(n:j4 s bk us)(aT:s.cn=false)(i:s.x.now<=90000)(b:-1000<=s.cC/\s.cC<=1000)(d:0<=s.aJ.cA/\s.aJ.cA<=1000000)(a:0<=s.aJ.du/\s.aJ.du<=1000000):Kf s:=by
 have e:=h.k_;have f:=h.ot;have c:=h.db;have g:=h.jr.first h.aL;unfold dp at c;exact⟨b,d,a,h.hd.trans aT,h.aO.2.1,(h.pM n).1,h.rp,h.qy,I,I,I,I⟩
def ajg(s:ch)(v:aR)(h:s.x.aL<2):hc (ff s v).x=hc s.x:=by
 unfold hc gK;show kl (fy s.x.f s.x.aL _ (1-s.x.aL)).K (fy s.x.f s.x.aL _ (1-s.x.aL)).de=_;rw[sZ _ _ I]
def Nu(s:ch)(v:aR):((ff s v).x.f s.x.aL).next=(s.x.f s.x.aL).next+1:=by
 show(fy s.x.f s.x.aL _ s.x.aL).next=_;rw[s0]
def Nt(s:ch)(v:aR)(i:J):(s.x.f i).next<=((ff s v).x.f i).next:=by
 by_cases e:i=s.x.aL
 .rw[e,Nu];omega
 show _<=(fy s.x.f s.x.aL _ i).next;rw[sZ _ _ e];exact dm _
def aad(s:ch)(v:aR)(h:kO s.x=false):kO (ff s v).x=false:=by
 have h1:=Nt s v 0;have h2:=Nt s v 1;have a:=CL h;refine cN ?_;unfold mi at a⊢;show ¬ (s.x.eg:U)<=(s.x.now:U)-_;omega
def ck.Pp(h:ck s F bk us)(n:j4 s bk us)(i:s.x.now<=90000)(b:s.x.now<=F+s.x.eg+1)(v:aR)(a_:v.toNat<=63)(o:ai cq)(an:hj s=true):Can (ff s v).x s.x.now/\hc (ff s v).x=none/\kO (ff s v).x=false/\s.x.now<((ff s v).x.f s.x.aL).next/\fk s.x.now (jk (ff s v).x s.x.now)/\lf (nv (ff s v,o)).1:=by
 have⟨a,_,_⟩:=Ef an;have⟨dc,d,_,_,e,g⟩:=h.step n a I b v a_ o;have c:=h.db;unfold dp at c;refine⟨g,by rw[ajg s v h.aL];exact(h.pM n).1,aad s v a,by rw[Nu];omega,?_,d.qy⟩;rw[e];exact tR _ h.aN _
def Yr{b:hs}(h:c5 w b s.x)(p:ck s F bk us)(n:j4 s bk us)(l:s.x.now<=90001):aB 90 #[b.c,aa (dx s.x)] w λe w'=>(∃ n:U,e=aa n)/\c5 w' b (eJ s.x)/\ag b.S w w':=by
 have⟨h1,h2⟩:=p.pM n;have i:=p.xV;have a:=p.db;have j:=p.aL
 have d:∀ k,k<2->(s.x.f k).first=F/\min (b1 s) s.x.now<=(s.x.f k).next:=λk hk=>⟨p.jr.first hk,by
  have:k=s.x.aL\/k=1-s.x.aL:=I
  rcases this with rfl|rfl
  .unfold dp at a;omega
  .unfold b1 gK;omega⟩
 unfold eJ;by_cases aA:dx s.x<0
 .rw[aD aA];refine Ys h h1 _ I I (λk hk=>?_);have g:=d k hk
  have:F<=(s.x.f k).next:=by
   have:k=s.x.aL\/k=1-s.x.aL:=I
   rcases this with rfl|rfl
   .unfold dp at a;omega
   have:=p.k_.2.2.1;unfold b1 gK at this;omega
  omega
 rw[az aA];refine Yq h h1 (dx s.x).toNat _ I I I (λk hk=>?_) ?_ I
 .have g:=d k hk;omega
 rw[p.jr.fG];omega
end
section
open Go.Maps
variable{w w':aj}{b:hg}{s:ch}{R:ai aC}{d:hQ}{o:J}{sd:ay}{m:aY}{F:J}{bk us:J->J->U}
def aC.cz(A:cr Addr)(n cap:J)(xs:ai ay):aC where
 S j:=0<n/\∃ x,A=some x/\x.block=j
 P w:=ey w 1 A n cap xs
 lt h a:=by obtain⟨aw,x,ak,rfl⟩:=a;exact h.lt I aw ak
 frame h hk aA:=h.keeps hk λaw x ak=>aA _ ⟨aw,x,ak,rfl⟩
def mX{w:aj}{b:J}{u z:ay}(h:w.heap[b]?=some (ab #[u,v,z] t (0,0)))(x y q:ay):(((w.setCell (ah b 0) x).setCell (ah b 1) y).setCell (ah b 2) q).heap[b]?=some (ab #[x,y,q] t (0,0)):=by
 have:=bX (bX (bX h 0 x) 1 y) 2 q
 exact mO
theorem ln(w:aj)(b:J)(x y z:ay):ag (λj=>j=b) w (((w.setCell (ah b 0) x).setCell (ah b 1) y).setCell (ah b 2) z):=
 (((ag.refl (λj=>j=b) w).setCell (p:=ah b 0) rfl x).setCell (p:=ah b 1) rfl y).setCell (p:=ah b 2) rfl z
def Sep.drop1{A B:ai aC}(h:Sep w (A++aC.bh dq z :: B))(hk:ag (λj=>j=dq) w w'):Sep w' (A++B):=by
 have ao:=h.perm qR;exact ao.tail.keeps hk λr b j a e=>(k4.1 ao.apart).1 r b j e a
def EW{Q:aC}(h:Sep w (bO b p.1 d++aC.out o v sd m p.2 :: Q :: aC.bh dq z :: R))(hk:ag (λj=>j=dq) w w'):Sep w' (bO b p.1 d++aC.dn v p.2 :: Q :: R):=by
 have h1:=Sep.drop1 (A:=bO b p.1 d++[aC.out o v sd m p.2,Q]) h hk;exact TD
theorem EV(h:Sep w (bO b s d++R)):Sep w (bO b s d++aC.dn (au none 0 0) [] :: R):=
 (h.cons (r:=aC.dn (au none 0 0) []) (bd w) (λ_ _ _ _=>id) (il w 0 _ _) (λj a=>by cases a)).jS
theorem L4(h:Sep w (bO b s d++R)){l:cj}{A:cr Addr}{cap:J}{xs:ai ay}(g:cW w' b.L l)(hk:ag b.L.S w w')(c:ey w' 1 A n cap xs)(e:∀ y,A=some y->w.heap.size<=y.block):Sep w' (aC.cz A n cap xs :: (bO b {s with aJ:=l} d++R)):=
 h.BU 2 (r':=aC.link b.L l) (q:=aC.cz A n cap xs) rfl hk (λ_ _ h=>h) g (λ_ h=>.inl h) c (λj a=>by obtain⟨_,x,ak,rfl⟩:=a;exact e x ak) (λj a f=>by
  refine UT;omega)
def Am(b:hg)(s':ch)(cs:ai cq)(a:ai ba)(f:aY)(R:ai aC)(e:Ending)(w':aj):ae:=
 ∃ c A cap,e=aV #[aG #[c,au A a.length cap,.bool f],aa 0]/\∃ d,Sep w' (bO b s' d++aC.dn c cs :: aC.cz A a.length cap (nw a) :: R)
def aaY(h:Sep w (bO b s d++R))(aT:s.cn=true)(v:aR)(a_:v.toNat<=63)(a:xY s.aJ 0):aB 60 #[b.p,bf v.toNat] w (Am b (c2 v s).1 (c2 v s).2 (f' v s) (eF s) R):=by
 have g:c2 v s=({s with aJ:=(dG s.aJ 0).2},[]):=by unfold c2;rw[aD aT]
 have i:f' v s=(dG s.aJ 0).1:=by unfold f';rw[aD aT]
 have k:eF s=false:=by unfold eF;rw[aT];rfl
 rw[g,i,k];have c:=(h.cons (r:=aC.bh w (ct,35)) ((bd w).alloc (ab ct 35)) (λ_ _ _ _=>id) (aP w (ab ct 35)) (λj n=>hO (k0 n))).jS;have fY:=rh c;rw[aT]at fY;have bP:=qp c
 go_in
 go_wp2_with fail;generalize w.alloc (ab ct 35)=bo at *;refine((M7 (pv c) 0 a.aW a.aT a.mn a.hm a.aw)).mono ?_;rintro e aq ⟨⟨A,cap,rfl,m,l⟩,a,q⟩;have h1:=(L4 c a q m l).jS;have f:=h1.at' 10 rfl;have g0:=bV f;have z0:=aX f;go_wp2_with fail;have o:=fN _ _ _ _ ((mX f (au none 0 0) (.slice A (dG s.aJ 0).1.length cap) (.bool false))) 3 rfl;refine dj (v:=aV #[aG #[au none 0 0,.slice A (dG s.aJ 0).1.length cap,false],aa 0]) o ?_;exact⟨_,A,cap,rfl,d,by have:=((EV (Sep.drop1 (A:=bO b {s with aJ:=(dG s.aJ 0).2} d++[aC.cz A (dG s.aJ 0).1.length cap (nw (dG s.aJ 0).1)]) h1 (ln aq w (au none 0 0) (.slice A (dG s.aJ 0).1.length cap) (.bool false)))));simpa using this⟩
end
section
open Go.Maps
variable{fu:Old}{w w':aj}{b:hg}{s:ch}{R:ai aC}{d:hQ}{o:J}{sd:ay}{m:aY}{F:J}{bk us:J->J->U}
def aaV(g:aC.kinds fu∈R)(h:Sep w (bO b s d++R))(v:aR)(hk:D7 s v F bk us):aB 60 #[b.p,bf v.toNat] w (Am b (c2 v s).1 (c2 v s).2 (f' v s) (eF s) R):=by
 have vs:c2 v s=ou (dS v s):=by unfold c2;rw[hk.ng];rfl
 have v':f' v s=(dG (dS v s).1.aJ (jg {(dS v s).1 with x:=eJ (dS v s).1.x})).1:=by unfold f';rw[hk.ng];rfl
 have aj1:eF s=hj (dt s).1:=by unfold eF;rw[hk.ng];rfl
 have⟨ak0,r',akB,_,gD,ajY,_,_,_,akD,ajZ,akY,akE,akC,_⟩:=ug hk.c4;have akr:b1 (dt s).1=b1 s:=by unfold b1 gK;rw[akD,ajY]
 have cf:j4 (dt s).1 bk ak0:=λj k akc=>by rw[ajY];rw[gD]at k;rw[akr]at akc;exact akB j k akc
 have akm:=akE.trans hk.ng;have aka:=r'.ahD cf akm (by rw[gD];exact hk.top) (by rw[akC];exact hk.cC) (by rw[ajZ];exact hk.pT) (by rw[ajZ];exact hk.ee);have TS:=r'.Pp cf (by rw[gD];exact hk.top) Q1 v hk.ev (dt s).2;have aj9:=hk.c4.N';obtain⟨ak4,m1,_,_,akh⟩:=yG hk.c4 hk.ng hk.E (cu hk.top bs) v hk.ev;have y:=m1.c4;have ajW:=m1.fq;have akj:=Pq v r' (λan=>(TS an).2.2.2.2.1);have ajV:=m1.now;obtain⟨l,Z⟩:=c8 (fH v (dt s));rw[<-Z]at y ajW akj akh ajV;have hE:=y.pM ajW;have akS:=y.aO;have akq:∀ n,(gp n l).2.length<=l.2.length+320*n:=λn=>iz.EG n y.B3;obtain⟨V,_⟩:=m1.settle;rw[<-Z]at V;have em:kU l=dS v s:=by rw[Z];rfl
 have akR:=y.k_;have akW:=y.ot;have ako:dx l.1.x<=l.1.ld.aO+100:=by
  have:=hk.e'
  have:=hk.top
  omega
 have akU:l.1.x.now<=90001:=by
  have:=hk.top
  split at ajV<;>omega
 have akp:=y.B3;have akb:∀ f:J,l.1.ld.aO+2<=f->(f:U)<=dx l.1.x+1->x5 l.1.x f:=λf h1 h2=>y.ahM I f (by have:=hk.e';omega) I;have V':(dS v s).2.length<=60000:=by
  rw[<-em]
  have:=akq (dx l.1.x-l.1.ld.aO).toNat
  unfold kU;omega
 rw[em]at V;have fo:=V.c4;have a':=V.fq;have⟨a,ajU⟩:=c8 (dS v s);have akn:a.1.x.now<=90001:=by
  have Y:=V.now
  have:=hk.top
  rw[ajU];split at Y<;>omega
 have ajR:=hk.aJ;rw[<-ajU]at fo a' V' em ajR vs v';have f5:=(fo.free a').1;have akA:=(fo.pM a').1;rw[vs,v',aj1]
 -- the memory
 have akv:=(bd w).alloc (ab ct 35);have w':=(h.cons (r:=aC.bh w (ct,35)) akv (λ_ _ _ _=>id) (aP w (ab ct 35)) (λj k=>hO (k0 k))).jS;have akw:=(bd (w.alloc (ab ct 35))).alloc (ab ct 35);have aku:(w.alloc (ab ct 35)).heap.size=w.heap.size+1:=aM;have⟨z,ar⟩:=c8 (w.heap.size+1);have fY:=rh w';rw[hk.ng]at fY;have h1:=(w'.cons (r:=aC.out z (au none 0 0) (au none 0 0) false []) akw (λ_ _ _ _=>id) ⟨by rw[ar,<-aku];exact aP _ _,il _ 0 _ _⟩ (λj k=>HX)).jS;have ak3:decide (((63:U))<(v.toNat:U))=false:=cN (by have:=hk.ev;omega);have l':=ad (lB (aC.bh w (ct,35)) g);have aj_:=ad (aa2 l'.o ⟨d,_,h1⟩ hk.c4 (cu hk.top bs) (hk.c4.hd.trans hk.ng));have se:=bN aka (bx TS aj9);have akM:=ad Z;have M:=bN akp (bx y.qy (bx hE.1 (bx (show l.2.length<=10000 by omega) (bx (bx (show l.1.ld.aO<=900000 by omega) ako) akb))));have akK:=ad em;have m:=bN fo (bx a' (bx akA (bx akn (bx f5 (bx V' ajR)))));have akO:=ad hk.ev;have akL:=ad ar;clear g h hk vs v' aj1 r' akB gD ajY akD ajZ akY akE akC akr cf akm aka TS aj9 m1 y ajW akj akh ajV Z hE akS akq V em akR akW ako akU akp akb V' fo a' ajU akn ajR f5 akA akv w' akw aku h1
 go_in
 go_wp2_with fail;rw[<-akL.o];refine aS aj_.o ?_;rintro aq ⟨d1,v1,h1⟩;have hA:=L0 h1;have u:=ad (Y6 b.e6 (L2 h1));have H1:=ad h1;clear h1 aj_ fY ar;go_wp2_with fail;refine u.o.mono ?_;rintro e aF ⟨⟨bB,rfl⟩,akf,bK⟩;have h2:=L3 H1.o akf bK;have ax:=ad (aa5 l'.out ⟨d1,v1,h2⟩ v akO.o se.o.1 (cu se.o.2.2 bs) se.o.2.1);clear h2 akf bK u H1 hA;go_wp2_with fail;refine aS ax.o λbr ys=>?_;rw[<-akM.o]at ys;have aj':=ad (aa4 l'.out ys M.o.1 M.o.2.1 M.o.2.2.1 M.o.2.2.2.1 M.o.2.2.2.2.1 M.o.2.2.2.2.2);clear ys ax;go_wp2_with fail;refine aS aj'.o λak1 Q=>?_;rw[akK.o]at Q;obtain⟨X,C,Q⟩:=Q;obtain⟨mv,ajS⟩:=c8 (hj (dt s).1);rw[<-ajS]at Q;have b5:=ad ajS;clear aj' ajS;obtain⟨N,zd⟩:=c8 (bO b a.1 X++aC.out z C (au none 0 0) mv a.2 :: aC.bh w (ct,35) :: R);have i:∀ W,Sep W N->Sep W (bO b a.1 X++aC.out z C (au none 0 0) mv a.2 :: aC.bh w (ct,35) :: R):=λW h=>zd▸h;have fr:Sep ak1.drew N:=by rw[zd];exact Q.drew 1
 have bR:∀ x:bA (λW=>Sep W N),x.to.cell? (ah b.p 0)=some (bM b.c.c):=λx=>nb (i _ x.held);have aU:=ad (λ(W:aj) (t:Sep W N)=>AB (iE (i _ t)) m.o.2.2.1);have aj7:=ad (λ(W:aj) (t:Sep W N)=>Yr (iE (i _ t)) m.o.1 m.o.2.1 m.o.2.2.2.1);have B:=ad i;clear Q zd i;go_wp2_with fail;refine cS 12 ?_;refine cJ (λW=>Sep W N) (.range 11) 1 11 ?_;refine dN (fr) (.range 10) 1 ?_;refine jh 10 λK g=>?_;go_simp;refine aS (aU.o _ fr) λak5 akx=>?_;have gf:=fr.keep akx;refine g _ _ (gf) ?_;clear g K;refine cJ (qb) [11] 0 1 ?_;refine mz 11 λK g=>?_;go_simp;refine(aj7.o _ gf).mono ?_;rintro e ak2 ⟨⟨n7,rfl⟩,akt,aky⟩;refine g _ _ (nD _) ?_;clear g K;have aj2:=AZ (B.o _ gf) akt aky;clear fr akx gf akt aky aU aj7 bR B;obtain⟨D,zp⟩:=c8 (bO b {a.1 with x:=eJ a.1.x} X++aC.out z C (au none 0 0) mv a.2 :: aC.bh w (ct,35) :: R);have i:∀ W,Sep W D->Sep W (bO b {a.1 with x:=eJ a.1.x} X++aC.out z C (au none 0 0) mv a.2 :: aC.bh w (ct,35) :: R):=λW h=>zp▸h;have S:Sep ak2.drew D:=by rw[zp];exact aj2.drew 1
 have bR:∀ x:bA (λW=>Sep W D),x.to.cell? (ah b.p 0)=some (bM b.c.c):=λx=>nb (i _ x.held);have bI:∀ x:bA (λW=>Sep W D),x.to.cell? (ah b.p 4)=some (bM b.e7):=λx=>LZ (i _ x.held);have aj4:=ad (λ(W:aj) (t:Sep W D)=>x' (iE (i _ t)));have aj5:=ad (λ(W:aj) (t:Sep W D)=>by
  obtain⟨ps,akV⟩:=ET (i _ t);exact ZI akV ((eJ a.1.x).now:U))
 have B:=ad i;clear aj2 zp i;go_wp2_with fail;refine cS 12 ?_;refine cJ (λW=>Sep W D) (.range 11) 1 11 ?_;refine dN (S) (.range 10) 1 ?_;refine jh 10 λK g=>?_;go_simp;refine bJ (aj4.o _ S) ?_;refine g _ _ (S) ?_;clear g K;refine cJ (qb) [11] 0 1 ?_;refine mz 11 λK g=>?_;go_simp;refine(aj5.o _ S).mono ?_;rintro e akF ⟨⟨fY,rfl⟩,akd⟩;refine g _ _ (nD _) ?_;clear g K;obtain⟨akZ,Y⟩:=aap (B.o _ S) akd;clear S akd aj4 aj5 bR bI B;obtain⟨P,aki⟩:∃ P:hQ,P={X with dQ:=akZ}:=⟨_,rfl⟩;rw[<-aki]at Y;clear aki;obtain⟨O,Q'⟩:=c8 (bO b {a.1 with x:=eJ a.1.x} P++aC.out z C (au none 0 0) mv a.2 :: aC.bh w (ct,35) :: R);have i:∀ W,Sep W O->Sep W (bO b {a.1 with x:=eJ a.1.x} P++aC.out z C (au none 0 0) mv a.2 :: aC.bh w (ct,35) :: R):=λW h=>Q'▸h;have g':Sep akF.drew O:=by rw[Q'];exact Y.drew 1
 have akX:∀ x:bA (λW=>Sep W O),x.to.cell? (ah b.p 1)=some (bM b.L.p):=λx=>qp (i _ x.held);have Tq:=ad (λ(W:aj) (t:Sep W O)=>Mm (i _ t));have T':=ad (λ(W:aj) (t:Sep W O)=>M7 (pv (i _ t)) (jg {a.1 with x:=eJ a.1.x}) m.o.2.2.2.2.2.2.aW m.o.2.2.2.2.2.2.aT m.o.2.2.2.2.2.2.mn m.o.2.2.2.2.2.2.hm m.o.2.2.2.2.2.2.aw);have B:=ad i;obtain⟨ld,W'⟩:=c8 (jg {a.1 with x:=eJ a.1.x});rw[<-W']at Tq T';have aj0:=ad W';clear Y Q' i W';go_wp2_with fail;refine cS 10 ?_;refine cJ (λW=>Sep W O) (.range 7) 3 7 ?_;refine dN (g') (.range 6) 1 ?_;refine jh 6 λK g=>?_;go_simp;refine aS (Tq.o _ g') ?_;rintro _ ⟨q,rfl⟩;have lb:=g'.drew q;refine g _ _ (lb) ?_;clear g K;clear g' Tq;generalize akF.drew.drewN q=ak6 at *;refine cJ (qb) [7,8,9] 0 3 ?_;refine eK 7 λK g=>?_;go_simp;refine(T'.out _ lb).mono ?_;rintro e akG ⟨⟨A,cap,rfl,ake,aj3⟩,akk,akz⟩;refine g _ _ (nD _) ?_;clear g K;refine hG 8 (nD _) ?_;have T:=(L4 (B.o _ lb) akk akz ake aj3).sS;have kk:=aX ((lM (p:=({a.1 with x:=eJ a.1.x,aJ:=(dG a.1.aJ ld).2},a.2)) T).1);have f1:=bV ((lM (p:=({a.1 with x:=eJ a.1.x,aJ:=(dG a.1.aJ ld).2},a.2)) T).1);refine iV 9 (nD _) ?_;obtain⟨H,G⟩:∃ H:c9,H=({a.1 with x:=eJ a.1.x,aJ:=(dG a.1.aJ ld).2},a.2):=⟨_,rfl⟩;have T:Sep akG (bO b H.1 P++aC.out z C (au none 0 0) mv H.2 :: aC.cz A (dG a.1.aJ ld).1.length cap (nw (dG a.1.aJ ld).1) :: aC.bh w (ct,35) :: R):=by rw[G];exact T
 have aj6:=aao T (.slice A (dG a.1.aJ ld).1.length cap);have ajT:=ck.same (s':=H.1) m.o.2.2.2.2.1 (by rw[G]) (by rw[G]) (by rw[G]);have aj8:=ad (E8 (lB _ l'.out) ⟨P,C,aj6⟩ ajT.qy ajT.rp (by rw[G];exact cu m.o.2.2.2.2.2.1 bs));have akN:=ad G;clear T aj6 ajT kk f1 akk akz aj3 ake T' lb akX B G;generalize akG.setCell (ah z 1) (.slice A (dG a.1.aJ ld).1.length cap)=ak7 at *;go_wp2_with fail;refine aS aj8.o ?_;rintro akH ⟨akP,uK,u⟩;obtain⟨sd,vl,aks,_,_⟩:=dA (lM u).2;rw[aks]at u;obtain⟨ajX,akl⟩:=c8 (gy H).2.length;rw[<-akl]at u;clear aks akl;have akg:=(lM u).1;have m':akH.heap[w.heap.size]?=some (ab ct 35 (0,0)):=u.at' 11 rfl;have d0:=aX akg;have g0:=bV m';have z0:=aX m';have akJ:=ad (mX m' (au sd ajX vl) (.slice A (dG a.1.aJ ld).1.length cap) (.bool mv));have akI:=ad (EW u (ln akH w (au sd ajX vl) (.slice A (dG a.1.aJ ld).1.length cap) (.bool mv)));clear aj8 u akg m';go_wp2_with fail;have akT:=fN _ _ _ _ akJ.o 3 rfl;refine dj (v:=aV #[aG #[(au sd ajX vl),.slice A (dG a.1.aJ ld).1.length cap,.bool mv],aa 0]) akT ?_;have akQ:ou a=gy H:=by rw[akN.o,aj0.o];rfl
 rw[akQ,<-aj0.o,<-b5.o];exact⟨_,A,cap,rfl,akP,akI.o⟩
end
theorem ck.Bc{F:J}{bk us:J->J->U}:∀ (l:ai aR) {s:ch},ck s F bk us->b1 s+l.length<=F+64->(∀ i x,l[i]?=some x->bk (1-s.x.aL) (b1 s+i)=(x.toNat:U))->(∀ x∈l,x.toNat<=63)->ck {s with x:=gz s.x l} F bk us/\b1 {s with x:=gz s.x l}=b1 s+l.length/\dp {s with x:=gz s.x l}=dp s/\(gz s.x l).now=s.x.now/\(gz s.x l).aL=s.x.aL/\(gz s.x l).e_=s.x.e_/\(gz s.x l).eg=s.x.eg/\(gz s.x l).aN=s.x.aN
 | [],s,h,_,_,_=>⟨h,rfl,rfl,rfl,rfl,rfl,rfl,rfl⟩
 | v :: r,s,h,b,hk,al=>by
  simp only[eA]at b;obtain⟨N,a,c⟩:=h.abb I v (al v o0);have D:(λi=>if i=1-s.x.aL then b' (bk (1-s.x.aL)) (b1 s) v.toNat else bk i)=bk:=by
   funext i
   split
   .subst i
    funext j
    unfold b';split
    .rename_i e;rw[e,<-(hk 0 v rfl)];rfl
    rfl
   rfl
  refine ed;obtain⟨bI,d,f,g,k,m,n,o⟩:=ck.Bc r N (by rw[a];omega) (λi x ak=>by
   rw[a]
   have:=hk (i+1) x (by rw[kB];exact ak)
   rw[show b1 s+1+i=b1 s+(i+1)by omega];exact this) (λx ak=>al x (lB _ ak))
  have e:gz s.x (v :: r)=gz (hI s.x (1-s.x.aL) v.toNat) r:=rfl;rw[e];exact⟨bI,by rw[d,a,eA];omega,f.trans c,g,k,m,n,o⟩
def Mq(r:bY)(s:ch):(hD r s).1.x=s.x/\(hD r s).1.aJ=s.aJ/\(hD r s).1.ld.aO=s.ld.aO/\(hD r s).1.ld.most=s.ld.most:=by
 unfold hD;split
 .have⟨a,b,c,_,_,d⟩:=Fh r.frame r.sum (s,[]);exact⟨a,b,c,d⟩
 split<;>exact⟨rfl,rfl,rfl,rfl⟩
theorem ck.hD{s:ch}{F:J}{bk us:J->J->U}(h:ck s F bk us)(r:bY):ck (hD r s).1 F bk us:=by
 refine zV;split
 .exact h.hold _ _ _
 split
 .exact h.same rfl rfl rfl
 exact h
def abF(Q:bY->ae)(a:∀ k f i,Q ⟨k,f,i,0,0,0⟩)(l:cj)(m:ba):Q (kb l m).1:=by
 unfold kb;simp only[];split
 .exact o_
 exact o_
def adw(Q:bY->ae)(a:∀ k f i,Q ⟨k,f,i,0,0,0⟩)(m:ba)(b:∀ x,Q ⟨4,0,[],(e8 x m.en).1,m.sum,0⟩)(c:Q ⟨6,0,[],0,0,m.lead⟩)(l:cj):Q (iW l m).1:=by
 unfold iW;split
 .exact abF Q a _ _
 split
 .exact b _
 split
 .exact o_
 split
 .exact c
 exact o_
def ahY(Q:bY->ae)(a:∀ k f i,Q ⟨k,f,i,0,0,0⟩)(m:ba)(b:∀ x,Q ⟨4,0,[],(e8 x m.en).1,m.sum,0⟩)(c:Q ⟨6,0,[],0,0,m.lead⟩)(l:cj):Q (c_ l m).1:=by
 unfold c_;split
 .exact o_
 split
 .split
  .exact o_
  exact o_
 split
 .exact o_
 split
 .exact adw Q a m b c l
 exact o_
def Ms(Q:bY->ae)(a:∀ k f i,Q ⟨k,f,i,0,0,0⟩)(l:cj)(t:ai aR)(b:∀ x,Q ⟨4,0,[],(e8 x (gG t).1.en).1,(gG t).1.sum,0⟩)(c:(gG t).2=0->Q ⟨6,0,[],0,0,(gG t).1.lead⟩):Q (cX l t).1:=by
 unfold cX;split
 .exact o_
 split
 .exact o_
 rename_i h;split
 .exact ahY Q a _ b (c I) _
 exact o_
theorem abg(l:cj)(t:ai aR):0<=(cX l t).1.frame/\(cX l t).1.frame<=1073741824:=
 Ms (λr=>0<=r.frame/\r.frame<=1073741824) (λ_ _ _=>QX) l t (λx=>LU x _) (λ_=>QX)
theorem abh(l:cj)(t:ai aR)(h:(∃ m,t=ec m/\m.wf/\dR m)\/(gG t).2≠0):-1000<=(cX l t).1.lead/\(cX l t).1.lead<=1000:=
 Ms (λr=>-1000<=r.lead/\r.lead<=1000) (λ_ _ _=>HU) l t (λx=>HU) (λb=>by
  rcases h with⟨m,rfl,c,a⟩|h
  .rw[GL m a c];exact a.2.2.1
  .exact absurd b h)
theorem Fe:∀ (l:ai aR) (x:cO),(gz x l).aL=x.aL/\((gz x l).f (1-x.aL)).next=(x.f (1-x.aL)).next+l.length/\((gz x l).f (1-x.aL)).first=(x.f (1-x.aL)).first
 | [],_=>⟨rfl,rfl,rfl⟩
 | v :: r,x=>by
  obtain⟨h1,h2,b⟩:=Fe r (hI x (1-x.aL) v.toNat);have e:gz x (v :: r)=gz (hI x (1-x.aL) v.toNat) r:=rfl;have c:(hI x (1-x.aL) v.toNat).aL=x.aL:=rfl;have a:((hI x (1-x.aL) v.toNat).f (1-x.aL)).next=(x.f (1-x.aL)).next+1/\((hI x (1-x.aL) v.toNat).f (1-x.aL)).first=(x.f (1-x.aL)).first:=by
   show(fy x.f (1-x.aL) _ (1-x.aL)).next=_/\(fy x.f (1-x.aL) _ (1-x.aL)).first=_;rw[s0];exact o9
  rw[c]at h1 h2 b;rw[e,eA];exact⟨h1,by rw[h2,a.1];omega,b.trans a.2⟩
def abd(x:cO)(l:ai aR)(v:aR):gz x (l++[v])=hI (gz x l) (1-x.aL) v.toNat:=by
 have h:=(Fe l x).1;unfold gz at *;rw[te];show hI _ (1-(l.foldl _ x).aL) _=_;rw[h]
def abc{s:ch}(h:iz s.x (s,[]))(r:bY):(hD r s).2.length<=256:=by
 unfold hD;split
 .have:=(h.hold r.frame r.sum).2
  exact mO
 split<;>simp
section
open Go.Maps
variable{w w':aj}{b:hg}{s:ch}{R:ai aC}{d:hQ}{o:J}{sd:ay}{m:aY}{F:J}{bk us:J->J->U}
def aC.q5(a:cr Addr)(c:J)(l:ai aR):aC where
 S j:=l≠[]/\∃ x,a=some x/\x.block=j
 P w:=dy w a c l
 lt h b:=by obtain⟨aw,x,ak,rfl⟩:=b;exact h.lt aw x ak
 frame h hk aA:=h.keeps hk λaw x ak=>aA _ ⟨aw,x,ak,rfl⟩
structure Aj(l:cj)(t:cl):ae where
 aA:t.size<=100000
 aw:0<=l.next/\l.next<=1073741824
 bg:0<=l.du/\l.du<=1073741824
 a7:0<=l.fE/\l.fE<=1000000
 al:0<=l.bad/\l.bad<=1000000
 aW:0<=l.fT/\l.fT<=1000000
def x0(b:hg)(s':ch)(cs:ai cq)(ca:U)(R:ai aC)(e:Ending)(w':aj):ae:=
 ∃ a,e=aV #[aG #[a,(au none 0 0),false],aa ca]/\∃ d,Sep w' (bO b s' d++aC.dn a cs :: R)
def aaS(h:Sep w (bO b s d++R))(aT:s.cn=true)(t:cl):aB 65 #[b.p,.string t] w (x0 b (ek t.data.toList s).1 (ek t.data.toList s).2 (j_ t.data.toList s) R):=by
 have a:ek t.data.toList s=(s,[]):=by unfold ek;rw[aD aT]
 have c:j_ t.data.toList s=12:=by unfold j_;rw[aD aT]
 rw[a,c];have h1:=h.keep ((bd w).alloc (ab ct 35));have fY:=rh h1;rw[aT]at fY;refine cg;have e:=fN _ _ _ _ (aP w (ab ct 35)) 3 rfl;refine dj (v:=aV #[aG ct,aa 12]) e ?_;exact⟨_,rfl,d,(EV h1)⟩
def aaR(h:Sep w (bO b s d++R))(aT:s.cn=false)(t:cl)(hk:Aj s.aJ t)(ca:U)(i:(cX s.aJ t.data.toList).2.1=ca)(hne:ca≠0):aB 65 #[b.p,.string t] w (x0 b (ek t.data.toList s).1 (ek t.data.toList s).2 (j_ t.data.toList s) R):=by
 have m:ek t.data.toList s=({s with aJ:=(cX s.aJ t.data.toList).2.2},[]):=by unfold ek;rw[aT,az aM,i,aD hne]
 have n:j_ t.data.toList s=ca:=by unfold j_;rw[aT,az aM,i]
 rw[m,n];have f:=(h.cons (r:=aC.bh w (ct,35)) ((bd w).alloc (ab ct 35)) (λ_ _ _ _=>id) (aP w (ab ct 35)) (λj q=>hO (k0 q))).jS;have fY:=rh f;rw[aT]at fY;have bP:=qp f;have l:=ad (M4 (pv f) t hk.aA hk.aw hk.bg hk.a7 hk.al hk.aW);rw[i]at l
 go_in
 go_wp2_with fail;generalize w.alloc (ab ct 35)=bo at *;refine l.o.mono ?_;rintro e k ⟨⟨a,c,rfl,al,z⟩,u,y⟩;have h1:=(A0 f u y).alloc (ab (aU (cX s.aJ t.data.toList).1 a c) 199);have g:(k.alloc (ab (aU (cX s.aJ t.data.toList).1 a c) 199)).heap[w.heap.size]?=some (ab ct 35 (0,0)):=h1.at' 9 rfl;unfold aU at *;go_upto_region 7 with fail
 generalize World.alloc k _=aq at *;have g0:=bV g;have z0:=aX g;go_wp2_with fail;have x:=fN _ _ _ _ ((mX g (au none 0 0) (au none 0 0) (.bool false))) 3 rfl;refine dj (v:=aV #[aG ct,aa ca]) x ?_;exact⟨_,rfl,d,((EV (Sep.drop1 (A:=bO b {s with aJ:=(cX s.aJ t.data.toList).2.2} d) h1 (ln aq w (au none 0 0) (au none 0 0) (.bool false)))))⟩
end
section
open Go.Maps
variable{fu:Old}{w w':aj}{b:hg}{s:ch}{R:ai aC}{d:hQ}{o:J}{sd:ay}{m:aY}{F:J}{bk us:J->J->U}
theorem aaq(h:Sep w (bO b s d++R)){l:cj}{A:cr Addr}{xs:ai aR}{bt:J}(k:bt=w.heap.size)(i:cW w' b.L l)(hk:ag b.L.S w w')(g:dy w' A c xs)(e:∀ y,A=some y->bt<=y.block):Sep w' (aC.q5 A c xs :: (bO b {s with aJ:=l} d++R)):=
 h.BU 2 (r':=aC.link b.L l) (q:=aC.q5 A c xs) rfl hk (λ_ _ h=>h) i (λ_ h=>.inl h) g (λj a=>by obtain⟨_,x,ak,rfl⟩:=a;rw[<-k];exact e x ak) (λj a f=>by
  refine UT;omega)
structure J2(s:ch)(t:cl)(F:J)(bk us:J->J->U):ae where
 c4:ck s F bk us
 ng:s.cn=false
 aJ:Aj s.aJ t
 ca:(cX s.aJ t.data.toList).2.1=0
 yo:∀ x∈(cX s.aJ t.data.toList).1.bm,x.toNat<=63
 bk:∀ i x,(cX s.aJ t.data.toList).1.bm[i]?=some x->bk (1-s.x.aL) (b1 s+i)=(x.toNat:U)
 e8:(cX s.aJ t.data.toList).1.bm≠[]->(cX s.aJ t.data.toList).1.e8=(b1 s:U)
 w:b1 s+(cX s.aJ t.data.toList).1.bm.length<=F+64
 top:s.x.now<=90000
def ax(s:ch)(r:bY)(l:cj)(j:J):ch:={s with x:=gz s.x (r.bm.take j),aJ:=l}
def aaT(E:aC.kinds fu∈R)(h:Sep w (bO b s d++R))(t:cl)(hk:J2 s t F bk us):aB 65 #[b.p,.string t] w (x0 b (ek t.data.toList s).1 (ek t.data.toList s).2 (j_ t.data.toList s) R):=by
 have ajX:ek t.data.toList s=gy (hD (cX s.aJ t.data.toList).1 {s with x:=gz s.x (cX s.aJ t.data.toList).1.bm,aJ:=(cX s.aJ t.data.toList).2.2}):=by unfold ek;rw[hk.ng,az aM,hk.ca,az aM]
 have ajY:j_ t.data.toList s=0:=by unfold j_;rw[hk.ng,az aM,hk.ca]
 have aj3:=abg s.aJ t.data.toList;have aj':=(bd w).alloc (ab ct 35);have M:=(h.cons (r:=aC.bh w (ct,35)) aj' (λ_ _ _ _=>id) (aP w (ab ct 35)) (λj k=>hO (k0 k))).jS;have fY:=rh M;rw[hk.ng]at fY;have bP:=qp M;have hH:=ad (M4 (pv M) t hk.aJ.aA hk.aJ.aw hk.aJ.bg hk.aJ.a7 hk.aJ.al hk.aJ.aW);rw[hk.ca]at hH;obtain⟨c4,ako,_,akm,H,ajT,g',hw,akp⟩:=hk;obtain⟨aks,_⟩:=ck.Bc _ c4 hw ajT H;have akj:=c4.k_;have akl:=c4.ot;have aj7:∀ j,ck (ax s (cX s.aJ t.data.toList).1 (cX s.aJ t.data.toList).2.2 j) F bk us:=λj=>(ck.Bc ((cX s.aJ t.data.toList).1.bm.take j) c4 (by rw[h3];omega) (λi x ak=>ajT i x (by rw[xf]at ak;split at ak;exact ak;cases ak)) (λx ak=>H x (CD ak))).1.same rfl rfl rfl;have aj4:=c4.jr.first (show 1-s.x.aL<2 by have:=c4.aL;omega);have N:(j_ t.data.toList s,ek t.data.toList s)=(0,gy (hD (cX s.aJ t.data.toList).1 (ax s (cX s.aJ t.data.toList).1 (cX s.aJ t.data.toList).2.2 (cX s.aJ t.data.toList).1.bm.length))):=by
  rw[ajX,ajY];unfold ax;rw[qS]
 have gf:=bN aj7 (bx H (bx g' (bx (show b1 s+(cX s.aJ t.data.toList).1.bm.length<=1000000 by omega) (bx (show(s.x.f (1-s.x.aL)).first<=b1 s/\b1 s+(cX s.aJ t.data.toList).1.bm.length<=(s.x.f (1-s.x.aL)).first+64 by rw[aj4];omega) aj3))));refine zS;clear h E M aj' ajX ajY aj3 c4 ako akm H ajT g' hw akp aks akj akl aj7 aj4 N;generalize ek t.data.toList s=ao at *;generalize j_ t.data.toList s=he at *;generalize cX s.aJ t.data.toList=r at *;have⟨r,ca,Y⟩:=r;simp only at *;refine cg;generalize aj_:w.alloc (ab ct 35)=bo at *;have akr:bo.heap.size=w.heap.size+1:=by rw[<-aj_];simp
 refine hH.o.mono ?_;rintro e aq ⟨⟨a,c,rfl,al,aj6⟩,aj5,ajW⟩;have h1:=(aaq se.o rfl aj5 ajW al aj6).jS;have akb:=(bd aq).alloc (ab (aU r a c) 199);have h2:=(h1.cons (r:=aC.bh aq (aU r a c,199)) akb (λ_ _ _ _=>id) (aP aq (ab (aU r a c) 199)) (λj k=>hO (k0 k))).jS;have akc:=(bd (aq.alloc (ab (aU r a c) 199))).alloc (ab ct 35);have aka:(aq.alloc (ab (aU r a c) 199)).heap.size=aq.heap.size+1:=aM;obtain⟨Z,ar⟩:=c8 (aq.heap.size+1);have C:=(h2.cons (r:=aC.out Z (au none 0 0) (au none 0 0) false []) akc (λ_ _ _ _=>id) ⟨by rw[ar,<-aka];exact aP _ _,il _ 0 _ _⟩ (λj k=>HX)).jS;refine dU;have akf:=ad ar;clear ar h1 h2 C akb akc aka akr aj_ al aj6 aj5 ajW se hH;unfold aU at *;go_upto_region 9 with fail
 rw[<-akf.o];generalize World.alloc (World.alloc aq _) _=aF at *;have d2:=aX (m'.o.at' 10 rfl);generalize aq.heap.size=q at *;refine aK;go_loopg [9,10,38] r.bm.length (λg _ _ i wr=>∃ j:J,g=r.bm.length-j/\j<=r.bm.length/\i=aa j/\Sep wr (bO b (ax s r Y j) d++aC.out Z (au none 0 0) (au none 0 0) false [] :: aC.bh q (aU r a c,199) :: aC.q5 a c r.bm :: aC.bh w (ct,35) :: R))
 case atStart=>exact⟨0,rfl,c3 _,rfl,m'.o⟩
 obtain⟨j,a7,k,rfl,B⟩:=hrel;clear m' d2;by_cases hd:j<r.bm.length
 .have hne:r.bm≠[]:=λe=>by rw[e]at hd;simp at hd
  have aj2:dy wr a c r.bm:=B.at' 11 rfl;obtain⟨b6,di,rfl,an⟩:=aj2.at' hne;have ake:=an j hd;unfold eW at ake;obtain⟨ajV,TS⟩:=c8 r.bm[j];rw[<-TS]at ake;obtain⟨zd,l',akd⟩:=Fe (r.bm.take j) s.x;rw[h3,o3 (Nat.le_of_lt hd)]at l';have aj9:(s.x.f (1-s.x.aL)).next=b1 s:=rfl;rw[aj9]at l';have g':=gf.o.2.2.1 hne;have akt:=gf.o.2.2.2.1;have akq:=gf.o.2.2.2.2.1;have H:=gf.o.2.1 _ (oY hd);rw[<-TS]at H;have akv:IntKind.i64.wrap (r.e8+(j:U))=r.e8+(j:U):=e0 _ (by rw[g'];omega);have aj8:gz s.x (r.bm.take (j+1))=hI (gz s.x (r.bm.take j)) (1-s.x.aL) (ajV.toNat:U):=by rw[l7 hd,abd,TS]
  have⟨Tq,ajS⟩:=c8 (bO b (ax s r Y j) d++aC.out Z (au none 0 0) (au none 0 0) false [] :: aC.bh q (aU r (dk b6 di) c,199) :: aC.q5 (dk b6 di) c r.bm :: aC.bh w (ct,35) :: R);have vl:∀ W,Sep W Tq->Sep W (bO b (ax s r Y j) d++aC.out Z (au none 0 0) (au none 0 0) false [] :: aC.bh q (aU r (dk b6 di) c,199) :: aC.q5 (dk b6 di) c r.bm :: aC.bh w (ct,35) :: R):=λW h=>ajS▸h;have bK:Hid (∀ W,Sep W Tq->aB 103 #[b.c.c,aa (r.e8+(j:U)),bf (ajV.toNat:U)] W λe w'=>e=aa 0/\c5 w' b.c (gz s.x (r.bm.take (j+1)))/\ag b.c.S W w'):=ad (λW akk=>by
   have ajZ:=Yt (x:=gz s.x (r.bm.take j)) (iE (vl _ akk)) (ajV.toNat:U) I (r.e8+(j:U)) (by rw[zd,l',g'];omega) (by rw[zd,l'];omega) (by rw[zd,l',akd];omega);rw[zd,<-aj8]at ajZ;exact ajZ)
  have aj0:Sep wr.drew Tq:=by rw[ajS];exact B.drew 1
  obtain⟨G,D⟩:=gg (F:=λW=>Sep W Tq);have V:∀ x:bA G,x.to.cell? (ah b.p 0)=some (bM b.c.c):=λx=>nb (vl _ ((D _).1 x.held));have Q':=λx:bA G=>aX ((vl _ ((D _).1 x.held)).at' 10 rfl);have l:=(D _).2 aj0;have Q:=ad vl;have T:=ad (λW (h:G W)=>(D W).1 h);clear B aj2 an ajS vl aj0 D zd l' akd aj9 g' akq H aj8 hne TS;refine aK;refine cS 11 ?_;refine cJ (G) (.range 10) 1 10 ?_;refine dN (l) (.range 10) 0 ?_;refine nf ?_;refine cJ (qb) [10] 0 1 ?_;refine mz 10 λK E=>?_;go_simp;refine aS (bK.o _ (T.o _ l)) ?_;rintro ajU ⟨mv,fo⟩;refine E _ _ (nD _) ?_;clear E K;have aki:Sep ajU (bO b (ax s r Y (j+1)) d++aC.out Z (au none 0 0) (au none 0 0) false [] :: aC.bh q (aU r (dk b6 di) c,199) :: aC.q5 (dk b6 di) c r.bm :: aC.bh w (ct,35) :: R):=AZ (Q.o _ (T.o _ l)) mv fo;have aku:r.bm.length<=1000000:=I;refine IV;go_roundg (r.bm.length-(j+1))
  case rel=>exact⟨j+1,rfl,I,cT,aki⟩
  omega
 obtain rfl:j=r.bm.length:=I;have X:=gf.o.1 r.bm.length;obtain⟨lb,A⟩:=c8 (hD r (ax s r Y r.bm.length));rw[<-A]at fr;have sd:=bN (c6 Prod.snd fr.o) (c6 Prod.fst fr.o);simp only at sd;have E:=ad (lB (aC.bh q (aU r a c,199)) (lB (aC.q5 a c r.bm) (lB (aC.bh w (ct,35)) r'.o)));have a':=bN (show ck lb.1 F bk us by rw[A];exact X.hD r) (show lb.2.length<=90000 by rw[A];exact cu (abc (X.B3 (p:=(_,[]))) r) bs);have d0:=aX (B.at' 10 rfl);unfold hD at A;by_cases bI:r.kind=4
 .rw[aD bI]at A;have akg:(r.kind == 4)=true:=by rw[bI];rfl
  have akn:=gf.o.2.2.2.2.2;have W':=ad (Ml (q:=(ax s r Y r.bm.length,[])) E.o ⟨d,_,B⟩ X.qy X.rp aM r.frame r.sum I);rw[<-A]at W';clear B A X akn;go_wp2_with refine aS W'.o λajU aj1=>?_
  have T:=ad aj1;clear aj1 W';have D:=ad (E8 E.o T.o a'.o.1.qy a'.o.1.rp a'.o.2);clear T;go_wp2_with refine aS D.o ?_
  rintro zp ⟨ajR,uK,m⟩;obtain⟨u,y,ys,_,_⟩:=dA (lM m).2;rw[ys]at m;obtain⟨z,v'⟩:=c8 (gy lb).2.length;rw[<-v']at m;clear ys v' D;have vs:=(lM m).1;have L:zp.heap[w.heap.size]?=some (ab ct 35 (0,0)):=m.at' 12 rfl;have d0:=aX vs;refine Tl;have V':=ad ((EW m.rR (ln zp w (au u z y) (au none 0 0) (.bool false))).rR);clear m vs L;refine SX;rw[sd.o.1,sd.o.2];exact⟨_,rfl,ajR,V'.o⟩
 have akg:(r.kind == 4)=false:=by simpa using bI
 rw[az bI]at A;by_cases T':r.kind=6
 focus
  have akh:(r.kind == 6)=true:=by rw[T'];rfl
  rw[aD T']at A;have gQ:=L1 B;have g8:=AY B 8;have T:=ad (show gr (wr.setCell (ah b.p 8) (aa r.lead)) b lb Z (au none 0 0) false (aC.bh q (aU r a c,199) :: aC.q5 a c r.bm :: aC.bh w (ct,35) :: R)by rw[A];exact⟨_,_,AX (s':={ax s r Y r.bm.length with cC:=r.lead}) (n:=d.nU) B 8 (aa r.lead) rfl rfl rfl rfl rfl rfl⟩);clear B A X;go_wp2_with fail;generalize wr.setCell (ah b.p 8) (aa r.lead)=ajU at *
 rotate_left
 focus
  have akh:(r.kind == 6)=false:=by simpa using T'
  rw[az T']at A;have T:=ad (show gr wr b lb Z (au none 0 0) false (aC.bh q (aU r a c,199) :: aC.q5 a c r.bm :: aC.bh w (ct,35) :: R)by rw[A];exact⟨_,_,B⟩);clear B A X;go_wp2_with fail
 rotate_left
 all_goals
  have D:=ad (E8 E.out T.o a'.o.1.qy a'.o.1.rp a'.o.2);clear T;go_wp2_with refine aS D.o ?_
  rintro zp ⟨ajR,uK,m⟩;obtain⟨u,y,ys,_,_⟩:=dA (lM m).2;rw[ys]at m;obtain⟨z,v'⟩:=c8 (gy lb).2.length;rw[<-v']at m;clear ys v' D;have vs:=(lM m).1;have L:zp.heap[w.heap.size]?=some (ab ct 35 (0,0)):=m.at' 12 rfl;have d0:=aX vs;have g0:=bV L;have z0:=aX L;have ps:=ad (mX L (au u z y) (au none 0 0) (.bool false));have V':=ad ((EW m.rR (ln zp w (au u z y) (au none 0 0) (.bool false))).rR);clear m vs L;go_wp2_with fail;have P:=fN _ _ _ _ ps.o 3 rfl;refine dj (v:=aV #[aG #[au u z y,(au none 0 0),false],aa 0]) P ?_;rw[sd.o.1,sd.o.2];exact⟨_,rfl,ajR,V'.o⟩
end
section
open Go.Maps
variable{fu:Old}{w w':aj}{b:hg}{s:ch}{R:ai aC}{d:hQ}{o:J}{sd:ay}{m:aY}{F:J}{bk us:J->J->U}
def J7(b:hg)(s':ch)(cs:ai cq)(R:ai aC)(e:Ending)(w':aj):ae:=
 ∃ a,e=.returned (aG #[a,(au none 0 0),false])/\∃ d,Sep w' (bO b s' d++aC.dn a cs :: R)
def aan(h:Sep w (bO b p.1 d++aC.out o v sd m p.2 :: aC.bh dq z :: R))(hk:ag (λj=>j=dq) w w'):Sep w' (bO b p.1 d++aC.dn v p.2 :: R):=by
 have h1:=Sep.drop1 (A:=bO b p.1 d++[aC.out o v sd m p.2]) h hk;exact TD
def aaU(v:aC.kinds fu∈R)(h:Sep w (bO b s d++R))(gf:ck s F bk us):aB 38 #[b.p] w (J7 b (hF s).1 (hF s).2 R):=by
 have m:=(h.cons (r:=aC.bh w (ct,35)) ((bd w).alloc (ab ct 35)) (λ_ _ _ _=>id) (aP w (ab ct 35)) (λj k=>hO (k0 k))).jS;have A:(w.alloc (ab ct 35)).heap.size=w.heap.size+1:=aM;have⟨D,hk⟩:=c8 (w.heap.size+1);have h1:=(m.cons (r:=aC.out D (au none 0 0) (au none 0 0) false []) ((bd (w.alloc (ab ct 35))).alloc (ab ct 35)) (λ_ _ _ _=>id) ⟨by rw[hk,<-A];exact aP _ _,il _ 0 _ _⟩ (λj k=>HX)).jS;have e:=ad h1;have M:=ad (lB (aC.bh w (ct,35)) v);refine ob;clear h m h1 A v gf hk;have⟨i,c⟩:=c8 (hF s);have S:=ad c.symm;unfold hF at c
 go_in
 go_upto_region 2 with fail
 rw[<-lb.o];generalize World.alloc (World.alloc w _) _=l at *;have fY:=rh e.o;cases C:s.cn with
 | true=>
  rw[C]at fY;rw[aD C]at c;obtain⟨f,uK,a⟩:∃ f uK,Sep l (bO b i.1 f++aC.out D uK (au none 0 0) false i.2 :: aC.bh w (ct,35) :: R):=⟨d,_,by rw[c];exact e.o⟩;exact SC
 | false=>
  rw[C]at fY;rw[az (show ¬ s.cn=true by rw[C];simp)]at c;have bP:=qp e.o;have t:=ad (acq (pv e.o));refine qW;refine aS t.o ?_;rintro br ⟨x,B⟩;have n:=A0 e.o x B;have g:=ck.same (s':={s with aJ:=oo s.aJ}) g'.o rfl rfl rfl;have H:=ad (E9 M.o ⟨d,_,n⟩ (q:=({s with aJ:=oo s.aJ},[])) g.qy g.rp aM 12);rw[<-c]at H;clear n x B e t g' g c;refine xF;rintro N ⟨f,uK,a⟩;clear H;generalize N=l at *;exact SC
def A6(h:Sep w (bO b s d++R)):aB 21 #[b.p] w λe w'=>e=.returned b.c.c/\w=w':=by
 have c:=nb h
 go_in
 exact tA
def Mj(h:Sep w (bO b s d++R)):aB 16 #[b.p] w λe w'=>e=.returned b.lb/\w=w':=by
 have c:=wi h
 go_in
 exact tA
def aaP(h:Sep w (bO b s d++R)):aB 27 #[b.p] w λe w'=>e=aV #[.bool s.cn,aa s.reason]/\∃ q,w'=w.drewN q:=by
 have fY:=rh h;have sC:=LY h
 go_in
 refine sm;exact Jg
end
variable{w w':aj}
def sR(d n:U):aY:=decide (0<=d/\d<=8/\1<=n/\n<=16)
def K1(aN d n aL:U)(b:aL=0\/aL=1)(w:aj):aB 189 #[aG #[bz aN,aa d,aa n,aa aL]] w λe w'=>e=.returned (.bool (sR d n))/\Below w w w':=by
 rcases b with rfl|rfl
 .have a:=(b9 w w).alloc bu (ab #[bz aN,aa d,aa n,aa 0] 24);exact Vf
 have a:=(b9 w w).alloc bu (ab #[bz aN,aa d,aa n,aa 1] 24);exact Vf
def ab2(most:U)(hm:¬ (1<=most/\most<=256))(w:aj):aB 130 #[aa most] w λe w'=>e=aV #[.pointer none,aa 1]/\w=w':=by
 by_cases h1:most<1
 .exact qV
 have h2:256<most:=I;exact qV
def acs(cw fg first:U)(ao:¬ (1<=fg/\fg<=10000)\/¬ (0<=first/\first<=1073741824))(w:aj):aB 129 #[bz cw,aa fg,aa first] w λe w'=>e=aV #[.pointer none,aa 1]/\w=w':=by
 by_cases h1:fg<1
 .clear ao;exact qV
 by_cases h2:10000<fg
 .clear ao;exact qV
 have b:¬ (0<=first/\first<=1073741824):=I;have a:=Fp first w
 rw[cN b]at a;refine cg;refine bJ a ?_;go_wp2;exact qX
def Yv(aN d n aL:U)(b:aL=0\/aL=1)(hm:sR d n=false)(w:aj):aB 128 #[aG #[bz aN,aa d,aa n,aa aL]] w λe w'=>e=aV #[.pointer none,aa 1]/\Below w w w':=by
 have a:=(b9 w w).alloc bu (ab #[bz aN,aa d,aa n,aa aL] 24);have c:=ad (K1 aN d n aL b);rw[hm]at c
 go_in
 refine Dv;go_wp2;go_ret2;exact⟨rfl,(a.trans (al.mono (by have:=a.size;omega)))⟩
def ju(j:J):Fd:=⟨0,j,0,gZ 0 j,[]⟩
def mg(aN:U)(d n aL j i:J):cO:=⟨aN,d,n,aL,λk=>if k<i then ju (j+1)else ju j,0,[],0⟩
def XJ(aN:U)(d n aL j:J):∀ k,k<2->((mg aN d n aL j 2).f k)=((mg aN d n aL (j+1) 0).f k):=by
 intro k hk;simp[mg,hk]
def XI(aN:U)(d n aL j i:J):{mg aN d n aL j i with f:=fy (mg aN d n aL j i).f i (ju (j+1))}=mg aN d n aL j (i+1):=by
 simp only[mg,cO.mk.injEq,and_true,true_and]
 funext k
 unfold fy;by_cases e:k=i
 .rw[aD e,aD I]
 rw[az e];by_cases a:k<i
 .simp only[aD a];rw[aD I]
 simp only[az a];rw[az I]
theorem c5.M0{b:hs}(h:c5 w b x)(h1:y.aN=x.aN)(h2:y.e_=x.e_)(a:y.eg=x.eg)(c:y.aL=x.aL)(d:∀ k,k<2->y.f k=x.f k)(g:y.fG=x.fG)(i:y.L=x.L)(e:y.now=x.now):c5 w b y:=
 ⟨by rw[h1,h2,a,c,e];exact h.head,λk hk=>by rw[d k hk];exact h.fd k hk,by rw[g,i];exact h.st,h.ok,by rw[c];exact h.aL,by rw[e];exact h.fq,λk hk=>by rw[d k hk];exact h.eZ k hk,by rw[a];exact h.wn⟩
theorem agw{w:aj}{B:J}(h:fL w r B 81 0 (replicate 81 (bW,false))):lg w r B 81 0 []:=
 ⟨_,h,aM,I,.nil,(λp ao=>by cases ao),(λf x h=>o6),λf h1 h2 a _=>⟨bW,by rw[Cx,aD (gb _ I)]⟩⟩
def YG{a b B:J}(h1:a+4<b)(h2:b+4<c)(d:B<r)(e:r<a):hs.ok ⟨c,λk=>if k=0 then a else b,r,B⟩:=by
 constructor<;>simp<;>omega
structure vx(w:aj)(b:hs)(x:cO)(aN:U)(d n aL:J)(W:aj):ae where
 co:c5 W b x
 po:W.heap[w.heap.size]?=some (ab #[bz aN,aa d,aa n,aa aL] 24 (0,0))
 kI:Below w w W
theorem vx.pU{b:hs}{aN:U}{d aL:J}{W W':aj}(h:vx w b x aN d n aL W)(al:∀ j,b.S j->w.heap.size<j)(an:c5 W' b y)(hk:ag T W W')(a:∀ j,T j->b.S j):vx w b y aN d n aL W':=
 ⟨an,hk.heap h.po (λe=>by have:=al _ (a _ e);omega),h.kI.trans (hk.below (h.kI.size) (λk c e=>by have:=al _ (a _ e);omega))⟩
def KZ(aN:U)(d n aL:J)(hd:d<=8)(aw:1<=n/\n<=16)(V':aL<2)(w:aj):aB 128 #[aG #[bz aN,aa d,aa n,aa aL]] w λe w'=>
  ∃ b:hs,e=aV #[b.c,aa 0]/\c5 w' b ⟨aN,d,n,aL,λ_=>ju d,0,[(0,ki aN 0)],0⟩/\(∀ j,b.S j->w.heap.size<=j)/\Below w w w':=by
 have aj1:(w.alloc (ab #[bz aN,aa d,aa n,aa aL] 24)).heap.size=w.heap.size+1:=aM;have hm:=K1 aN d n aL I;rw[show sR d n=true from dh I]at hm
 go_in
 go_wp2_with fail;refine aS (hm _) λaq Y=>?_;have aj2:=Y.size;have ajU:=((b9 w w).alloc bu (ab #[bz aN,aa d,aa n,aa aL] 24)).trans (Y.mono I);have zp:=(ag.bU (S:=aH) Y a1).heap (aP w (ab #[bz aN,aa d,aa n,aa aL] 24)) id;generalize w.alloc (ab #[bz aN,aa d,aa n,aa aL] 24)=bo at *;have M:=ad (show w.heap.size+1<=aq.heap.size by omega);go_wp2_with fail;refine aS (ags 81 I I aq) ?_;rintro aF ⟨Tq,se,ajR⟩;have bK:=ajU.trans (se.mono (by have:=M.o;omega));have L:=ad ((ag.bU (S:=aH) se a1).heap zp id);have N:=ad bK;have h2:=ad (agw Tq);generalize aq.heap.size=B at *;have R:aF.drew.heap[w.heap.size]?=some (ab #[bz aN,aa d,aa n,aa aL] 24 (0,0)):=L.o;have bR:=λx:bA (λW=>W.heap[w.heap.size]?=some (ab #[bz aN,aa d,aa n,aa aL] 24 (0,0)))=>aX x.held;go_upto_region 6 with fail
 refine cS 8 ?_;refine cJ (λW=>W.heap[w.heap.size]?=some (ab #[bz aN,aa d,aa n,aa aL] 24 (0,0))) (.range 6) 2 6 ?_;refine dN (R) [0,4] 4 ?_;have bH:ag aH aF aF.drew:=(ag.refl _ aF).drew;have ys:aF.drew.heap.size=B+2:=ajR;generalize aF.drew=br at *;refine eK 1 λK X=>?_;go_simp;refine aS (LC br) ?_;rintro a ⟨A,Z⟩;have u:ag aH br a:=ag.bU Z a1;have T:=u.heap R id;refine X _ _ (T) ?_;refine eK 2 λK X=>?_;go_simp;refine aS (LC a) ?_;rintro h ⟨Q,a'⟩;have p:ag aH a h:=ag.bU a' a1;have V:=p.heap T id;refine X _ _ (V) ?_;refine dN (V) [3,5] 0 ?_;refine nf ?_;refine cJ (λ_=>True) [6,7] 0 2 ?_;refine hG 6 trivial ?_;refine iV 7 trivial ?_;have s:=(bd h).alloc (ab #[bz aN,aa d,aa n,aa aL,bM (B+2+4),bM (a+4),bM (B+1),aa 0] 129);have l':=aP h (ab #[bz aN,aa d,aa n,aa aL,bM (B+2+4),bM (a+4),bM (B+1),aa 0] 129);have ajT:=Z.size;have ajS:=a'.size;have TS:=A.lt;have T':=Q.lt;rw[ys]at A;have mv:qZ (h.alloc (ab #[bz aN,aa d,aa n,aa aL,bM (B+2+4),bM (a+4),bM (B+1),aa 0] 129)) (B+2) (ju 0):=e1.keep (e1.keep A p) s;have ps:qZ (h.alloc (ab #[bz aN,aa d,aa n,aa aL,bM (B+2+4),bM (a+4),bM (B+1),aa 0] 129)) a (ju 0):=e1.keep Q s;have r':=h2.o.keeps (bH.trans (u.trans (p.trans s))) id id;have v':=(bH.trans (u.trans (p.trans s))).heap L.o id;have E:=N.out.trans ((bH.trans (u.trans (p.trans s))).below N.out.size (λ_ _ e=>e));obtain⟨b,al⟩:∃ b:hs,b=⟨h,λk=>if k=0 then B+2 else a.heap.size,B+1,B⟩:=⟨_,rfl⟩;have P:vx w b (mg aN d n aL 0 0) aN d n aL (h.alloc (ab #[bz aN,aa d,aa n,aa aL,bM (B+2+4),bM (a+4),bM (B+1),aa 0] 129)):=by
  subst al;refine⟨⟨l',λk hk=>?_,r',YG I I I I,V',c3 _,λk _=>?_,?_⟩,v',E⟩
  .refine oc;rcases this with rfl|rfl
   .exact mv
   exact ps
  .simp[mg,ju]
  have:=aw
  simp only[mg];omega
 have vl:∀ j,b.S j->w.heap.size<j:=by
  subst al;intro j t
  have:=M.o
  unfold hs.S at t;simp only[aD,az (show ¬ (1=0)by omega)]at t;omega
 have vs:h.heap.size=b.c:=by rw[al]
 have fo:B+1=b.r:=by rw[al]
 rw[vs,fo];rw[fo]at P;have H:=ad P;have z:=ad vl;clear P vl vs fo al E v' r' mv ps TS T' ajT ajS l' s V p a' Q T u Z A R ys bH bR h2 N L M;generalize World.alloc h _=ajY at *;have d1:=aX H.o.po;go_wp2_with fail;clear d1;go_loopg [7,9,29,35,36] d (λg _ _ i _ _ wr=>∃ j:J,g=d-j/\j<=d/\i=aa j/\vx w b (mg aN d n aL j 0) aN d n aL wr)
 case atStart=>exact⟨0,rfl,c3 _,rfl,H.o⟩
 obtain⟨j,a7,t,rfl,aU⟩:=hrel;have f:=ad aU;have ajX:=hd;clear H aU;by_cases ajZ:j<d
 .have z4:wr.cell? (ah b.c 4)=some (bM (b.D 0+4)):=f.o.co.mY (k:=0) I;have z5:wr.cell? (ah b.c 5)=some (bM (b.D 1+4)):=f.o.co.mY (k:=1) I;have aj3:=AP;have aj4:=AQ;have E:=bZ f.o.co.head;refine aK;clear z4 z5 E;go_loopg [9,36] 2 (λg _ i ajV=>∃ q:J,g=2-q/\q<=2/\i=aa q/\vx w b (mg aN d n aL j q) aN d n aL ajV)
  case atStart=>exact⟨0,rfl,I,rfl,f.o⟩
  obtain⟨q,a7,aj0,rfl,m⟩:=hrel;clear f;have W':q=0\/q=1\/q=2:=I;rcases W' with rfl|rfl|rfl
  .have v:=m.co.fd 0 I;change e1 _ (b.D 0) 0 j 0 (gZ 0 j) []at v;refine SQ;have a8:qZ G (b.D 0) (ju (j+1)):=by
    exact TI
   have hfin:=F.o.co.feed (k:=0) I a8 l (by show j+1<=1000000;omega);refine UQ;exact TV
  .have v:=m.co.fd 1 I;change e1 _ (b.D 1) 0 j 0 (gZ 0 j) []at v;refine SQ;have a8:qZ G (b.D 1) (ju (j+1)):=by
    exact TI
   have hfin:=F.o.co.feed (k:=1) I a8 l (by show j+1<=1000000;omega);refine UQ;exact TW
  have Q':=m.pU z.o (m.co.M0 (y:=mg aN d n aL (j+1) 0) rfl rfl rfl rfl (λk hk=>(XJ aN d n aL j k hk).symm) rfl rfl rfl) (bd _) (λ_ e=>e.elim);clear m;refine aK;go_roundg (d-(j+1))
  case rel=>exact⟨j+1,rfl,I,cT,Q'⟩
  omega
 obtain rfl:j=d:=I;have hJ:=aX f.o.po;refine aK;refine aS (aaJ aN wr) λG s'=>?_;have l:ag aH wr G:=ag.bU s' a1;have C:=f.o.pU z.o (f.o.co.keep l) l (λ_ e=>e.elim);refine dU;clear C l s' f hJ;refine aK;refine aS ((OI m'.o.co.st 0 (0:U) rfl (by unfold gB;simp[mg]) (ki aN 0))) ?_;rintro aj5 ⟨sd,fr⟩;have hfin:=m'.o.co.w7 sd (fr.mono λ_ _ e=>.inr e);have lb:=m'.o.pU z.o hfin fr (λj e=>.inr (.inr (.inr (.inr e))));clear sd fr hfin m';refine aK;go_ret2;exact⟨b,rfl,lb.co.M0 rfl rfl rfl rfl (λk _=>by simp[mg]) rfl rfl rfl,λj t=>Nat.le_of_lt (z.o j t),lb.kI⟩
def Yu(aN d n:U)(aL:J)(c:aL<2)(w:aj):aB 128 #[aG #[bz aN,aa d,aa n,aa aL]] w λe w'=>∃ p ca,e=aV #[.pointer p,aa ca]/\(ca=0->sR d n=true)/\Below w w w':=by
 cases hm:sR d n with
 | false=>exact(Yv aN d n aL b4 hm w).mono λe w' h=>⟨none,1,h.1,λe=>b4,h.2⟩
 | true=>
  have a:0<=d/\d<=8/\1<=n/\n<=16:=r8 hm;obtain⟨d,rfl⟩:=mJ a.1;obtain⟨n,rfl⟩:=mJ (show 0<=n by omega);exact(KZ aN d n aL I I c w).mono λe w' ⟨b,h1,_,_,h2⟩=>⟨_,0,h1,λ_=>rfl,h2⟩
def acr(cw fg first:U)(w:aj):aB 129 #[bz cw,aa fg,aa first] w λe w'=>∃ p ca,e=aV #[.pointer p,aa ca]/\(ca=0->1<=fg/\fg<=10000)/\Below w w w':=by
 by_cases ao:(1<=fg/\fg<=10000)/\(0<=first/\first<=1073741824)
 .exact(M5 cw fg first ao.1 ao.2 w).mono λe w' h=>⟨_,0,h.1,λ_=>ao.1,h.2.2⟩
 exact(acs cw fg first I w).mono λe w' h=>⟨none,1,h.1,λe=>I,h.2▸b9 _ w⟩
def ab1(most:U)(w:aj):aB 130 #[aa most] w λe w'=>∃ p ca,e=aV #[.pointer p,aa ca]/\(ca=0->1<=most/\most<=256)/\Below w w w':=by
 by_cases ao:1<=most/\most<=256
 .exact(MY most ao).mono λe w' h=>⟨_,0,h.1,λ_=>ao,h.2.2.1.below bu (λ_ _ e=>e)⟩
 exact(ab2 most ao w).mono λe w' h=>⟨none,1,h.1,λe=>I,h.2▸b9 _ w⟩
def adh(most:U)(w:aj):aB 131 #[aa most] w λe w'=>∃ p ca,e=aV #[.pointer p,aa ca]/\(ca=0->1<=most/\most<=16)/\Below w w w':=by
 by_cases ao:1<=most/\most<=16
 .exact(No most ao w).mono λe w' h=>⟨_,0,h.1,λ_=>ao,by rw[h.2];exact(b9 _ w).alloc bu _⟩
 exact(adi most ao w).mono λe w' h=>⟨none,1,h.1,λe=>I,by rw[h.2];exact b9 _ w⟩
def yl(d n pat b3 cd:U):ae:=sR d n=true/\(1<=pat/\pat<=10000)/\(1<=b3/\b3<=256)/\(1<=cd/\cd<=16)
abbrev vF:=World->cr Addr->U->aj->ae
def J4(m o n p:vF)(w:aj)(e:Ending)(w':aj):ae:=
 ∃ (a:aj) (k:cr Addr) (g:U) (b:aj) (pl:cr Addr) (i:U) (c:aj) (bj:cr Addr) (h:U) (d:aj) (l:cr Addr) (em:U) (f:aj),
  (w.heap.size+2<=a.heap.size/\Below w w a)/\(m a k g b/\Below a a b)/\(o b pl i c/\Below b b c)/\(n c bj h d/\Below c c d)/\(p d l em f/\Below d d f)/\
  e=aV #[aG #[.pointer k,.pointer pl,.pointer bj,.pointer l,f.heap.size,.pointer (some (eo (f+1) 0 db))],(decide (g=0/\i=0/\h=0/\em=0))]/\
  ag (λj=>j=w+1) ((f.alloc (ab #[au none 0 0] 291)).alloc (ab fc 278)) w'
def XX{w:aj}{b:J}{bw bP bB e3 e4 hA:ay}(h:w.heap[b]?=some (ab #[bw,bP,bB,e3,e4,hA] t (0,0)))(v0 v1 v2 a c d:ay):((((((w.setCell (ah b 0) v0).setCell (ah b 1) v1).setCell (ah b 2) v2).setCell (ah b 3) a).setCell (ah b 4) c).setCell (ah b 5) d).heap[b]?=some (ab #[v0,v1,v2,a,c,d] t (0,0)):=by
 rw[bX (bX (bX (bX (bX (bX h 0 v0) 1 v1) 2 v2) 3 a) 4 c) 5 d];rfl
def NH(aN d n cw pat b3 cd:U)(aL:J)(z B A C:vF)(aU:∀ W,aB 128 #[aG #[bz aN,aa d,aa n,aa aL]] W λe w'=>∃ p ca,e=aV #[.pointer p,aa ca]/\z W p ca w'/\Below W W w')(K:∀ W,aB 129 #[bz cw,aa pat,aa d] W λe w'=>∃ p ca,e=aV #[.pointer p,aa ca]/\B W p ca w'/\Below W W w')(H:∀ W,aB 130 #[aa b3] W λe w'=>∃ p ca,e=aV #[.pointer p,aa ca]/\A W p ca w'/\Below W W w')(L:∀ W,aB 131 #[aa cd] W λe w'=>∃ p ca,e=aV #[.pointer p,aa ca]/\C W p ca w'/\Below W W w')(w:aj):aB 84 #[aG (fi aN d n aL cw pat b3 cd)] w (J4 z B A C w):=by
 have ax:=b2 (aP w (ab (fi aN d n aL cw pat b3 cd) 26)) (ab #[.pointer none,.pointer none,.pointer none,.pointer none,.pointer none,.pointer none] 109);have N:(w.alloc (ab (fi aN d n aL cw pat b3 cd) 26)).heap.size=w.heap.size+1:=aM;have O:w.heap.size+2<=((w.alloc (ab (fi aN d n aL cw pat b3 cd) 26)).alloc (ab #[.pointer none,.pointer none,.pointer none,.pointer none,.pointer none,.pointer none] 109)).heap.size:=aM;have g:=aP (w.alloc (ab (fi aN d n aL cw pat b3 cd) 26)) (ab #[.pointer none,.pointer none,.pointer none,.pointer none,.pointer none,.pointer none] 109);rw[N]at g;have Q:=((b9 w w).alloc bu (ab (fi aN d n aL cw pat b3 cd) 26)).alloc aM (ab #[.pointer none,.pointer none,.pointer none,.pointer none,.pointer none,.pointer none] 109);have V:=ad Q;have fr:=ad O;have f:=ad ax;have c:=ad g;have u:=ad aU;have y:=ad K;have x:=ad H;have b5:=ad L;clear N O Q aU K H L ax g
 go_in
 go_wp2_with fail;generalize World.alloc (World.alloc w _) _=q at *;refine(u.o q).mono ?_;rintro e h ⟨l,D,rfl,bI⟩;have a:ag aH q h:=ag.bU bI.2 a1;have f:=ad (a.heap f.o id);have c:=ad (a.heap c.o id);have Y:=ad bI;clear u bI a;have hJ:=aX f.o;go_wp2_with fail;refine(y.o h).mono ?_;rintro e i ⟨pl,F,rfl,r⟩;have a:ag aH h i:=ag.bU r.2 a1;have f:=ad (a.heap f.o id);have c:=ad (a.heap c.o id);have Z:=ad r;clear y r a hJ;have hJ:=aX f.o;go_wp2_with fail;refine(x.o i).mono ?_;rintro e k ⟨bj,E,rfl,s⟩;have a:ag aH i k:=ag.bU s.2 a1;have f:=ad (a.heap f.o id);have c:=ad (a.heap c.o id);have a':=ad s;clear x s a hJ;have hJ:=aX f.o;go_wp2_with fail;refine(b5.o k).mono ?_;rintro e b ⟨m,em,rfl,t⟩;have a:ag aH k b:=ag.bU t.2 a1;have c:=ad (a.heap c.o id);have fo:=ad t;clear b5 t a hJ f;go_wp2_with fail
 all_goals
  refine zw (ZJ b) ?_;go_wp2_with fail;refine zw (Y5 _) ?_;have a:=((bd b).alloc (ab #[au none 0 0] 291)).alloc (ab fc 278);have g:=a.heap c.o id;have P:(b.alloc (ab #[au none 0 0] 291)).heap.size=b.heap.size+1:=aM;have G:=XX g (.pointer l) (.pointer pl) (.pointer bj) (.pointer m) b (b.heap.size+1:J);have g0:=bV g;have hd:=aX g;have R:=((((((ag.refl (λj=>j=w+1) ((b.alloc (ab #[au none 0 0] 291)).alloc (ab fc 278))).setCell (p:=ah (w+1) 0) rfl (.pointer l)).setCell (p:=ah (w+1) 1) rfl (.pointer pl)).setCell (p:=ah (w+1) 2) rfl (.pointer bj)).setCell (p:=ah (w+1) 3) rfl (.pointer m)).setCell (p:=ah (w+1) 4) rfl b).setCell (p:=ah (w+1) 5) rfl (b.heap.size+1:J);have S:=ad G;have X:=ad R;clear G R a g c;rw[P];clear P;generalize M:(b.alloc (ab #[au none 0 0] 291)).alloc (ab fc 278)=gf at *;have T:=ad M;clear M;go_wp2_with fail;have g':=fN _ _ _ _ S.o 6 rfl;refine dH (v:=aV #[aG #[.pointer l,.pointer pl,.pointer bj,.pointer m,b.heap.size,bM (b+1)],(decide (D=0/\F=0/\E=0/\em=0))]) (by simp[results,results84,asAddr,loadVar,loadCells,isAgg109,sizeOf109, *]<;>rfl) rfl ?_;exact⟨q,l,D,h,pl,F,i,bj,E,k,m,em,b,⟨fr.out,V.out⟩,Y.out,Z.out,a'.out,fo.out,rfl,by rw[T.o];exact X.o⟩
def Sep.pick{L:ai aC}(h:Sep w L)(a:ai J)(b:a.Nodup)(al:∀ i∈a,i<L.length):Sep w (a.map λi=>L.getD i aC.none):=by
 have key:∀ i∈a,L[i]?=some (L.getD i aC.none):=λi av=>by
  have:=al i av
  rw[gW this];simp[getD,gW this]
 refine⟨λr d=>?_,xh.2 (Pairwise.imp_of_mem (λ{i j} av c hne=>h.tL (key i av) (key j c) hne) b)⟩;obtain⟨i,av,rfl⟩:=gO.1 d;exact h.at' i (key i av)
structure gX(n:J)(w:aj)(L:ai aC):ae where
 sep:Sep w L
 bt:∀ r∈L,∀ j,r.S j->n<=j
theorem gX.nil(n:J)(w:aj):gX n w []:=⟨Sep.nil w,λ_ h=>o6⟩
theorem gX.cons{L:ai aC}(h:gX n w L){r:aC}(hk:ag aH w w')(c:r.P w')(ax:∀ b,r.S b->w.heap.size<=b)(aw:n<=w.heap.size):gX n w' (r :: L):=
 ⟨h.sep.cons hk (λ_ _ _ _ e=>e) c ax,λs aA j a=>by
  rcases fW.1 aA with rfl|aA
  .exact cu aw (ax j a)
  .exact h.bt s aA j a⟩
theorem gX.keeps{L:ai aC}(h:gX n w L)(hk:ag T w w')(a:∀ j,n<=j->¬ T j):gX n w' L:=
 ⟨h.sep.keeps hk λr c j b=>a j (h.bt r c j b),h.bt⟩
theorem gX.pick{L:ai aC}(h:gX n w L)(a:ai J)(c:a.Nodup)(al:∀ i∈a,i<L.length):gX n w (a.map λi=>L.getD i aC.none):=
 ⟨h.sep.pick a c al,λr e j d=>by
  obtain⟨i,av,rfl⟩:=gO.1 e;have b:=al i av;refine h.bt (L[i]) (oY b) j ?_;simpa[getD,gW b]using d⟩
def yE(x:cO)(l:cj)(b3:U):ch:=⟨x,l,cR.new b3,[],[],0,false,0⟩
def qx(cd:U):hQ:=⟨[],cd,au none 0 0,au none 0 0,0⟩
def J8(x:cO):vF:=λW p ca W'=>ca=0/\∃ b:hs,p=some (eo b.c 0 db)/\c5 W' b x/\∀ j,b.S j->W.heap.size<=j
def J_(l:cj):vF:=λW p ca W'=>ca=0/\p=some (eo (W+4) 0 db)/\cW W' ⟨W+4,W.heap.size+1,W.heap.size,W.heap.size+3,W.heap.size+2⟩ l
def J9(most:U):vF:=λW p ca W'=>ca=0/\p=some (eo (W+2) 0 db)/\da W' ⟨W+2,W.heap.size,W.heap.size+1,[]⟩ (cR.new most)
def J'(cd:U):vF:=λW p ca W'=>ca=0/\p=some (eo W 0 db)/\W'=W.alloc (ab #[aa cd,aa 0,au none 0 0] 177)
def acK{l:cj}{b3 cd:U}{e:Ending}(h:J4 (J8 x) (J_ l) (J9 b3) (J' cd) w e w'):∃ b:hg,e=aV #[aG #[b.c.c,b.L.p,b.lb,b.gT,b.e7,b.e6],true]/\
   gX w w' [aC.e6 b.e6,aC.e7 b.e7 (au none 0 0),aC.gT b.gT cd (au none 0 0),aC.ld ⟨b.lb,b.dM,b.iq,[]⟩ (cR.new b3),aC.link b.L l,aC.core b.c x]/\
   Below w w w':=by
 obtain⟨u,P,H,d,pl,M,g,bj,K,n,Q,em,f,⟨v,t⟩,⟨⟨rfl,nF,rfl,an,A⟩,i⟩,⟨⟨rfl,rfl,B⟩,k⟩,⟨⟨rfl,rfl,a7⟩,m⟩,⟨⟨rfl,rfl,hm⟩,o⟩,rfl,hk⟩:=h;refine⟨⟨0,nF,⟨d+4,d.heap.size+1,d.heap.size,d.heap.size+3,d.heap.size+2⟩,g.heap.size+2,g.heap.size,g.heap.size+1,n.heap.size,f.heap.size,f.heap.size+1,0,0⟩,aM,?_,?_⟩
 .have E:=i.size;have F:=k.size;have G:=m.size;have z4:=o.size;have h1:gX (w.heap.size+2) d [aC.core nF x]:=(gX.nil _ u).cons (ag.bU (S:=aH) i a1) an A v;have y:=(h1.cons (r:=aC.link ⟨d+4,d.heap.size+1,d.heap.size,d.heap.size+3,d.heap.size+2⟩ l) (ag.bU (S:=aH) k a1) B (λj a=>by rcases a with e|e|e|e|e<;>simp only at e<;>omega) I).cons (r:=aC.ld ⟨g+2,g.heap.size,g.heap.size+1,[]⟩ (cR.new b3)) (ag.bU (S:=aH) m a1) a7 (λj a=>by
   rcases a with a|a|a|a
   .simp only at a;omega
   .simp only at a;omega
   .simp only at a;omega
   .have⟨p,ao,_⟩:=a;cases ao) I
  have z:=(y.cons (r:=aC.gT n cd (au none 0 0)) (w':=f) ((hm▸(bd _).alloc _:ag aH n f)) ⟨[],by rw[hm];exact⟨aP _ _,il _ 0 _ _,aM⟩⟩ (λj a=>QS) I).cons (r:=aC.e7 f (au none 0 0)) ((bd f).alloc (ab #[au none 0 0] 291)) ⟨[],⟨aP _ _,il _ 0 _ _,aM⟩⟩ (λj a=>QS) I;have D:(f.alloc (ab #[au none 0 0] 291)).heap.size=f.heap.size+1:=aM;have N:=z.cons (r:=aC.e6 (f.alloc (ab #[au none 0 0] 291)).heap.size) ((bd _).alloc (ab fc 278)) ⟨0,0,0,0,eN,aP _ _⟩ (λj a=>hO a.symm) (by show _<=(f.alloc (ab #[au none 0 0] 291)).heap.size;omega);refine ed;have s:=N.keeps hk a1;exact⟨s.sep,λr C j a=>by have:=s.bt r C j a;omega⟩
 have z0:=t.size;have E:=i.size;have F:=k.size;have G:=m.size;have z4:=o.size;have q:=(((((t.trans (i.mono I)).trans (k.mono I)).trans (m.mono I)).trans (o.mono I)).alloc I (ab #[au none 0 0] 291)).alloc b_ (ab fc 278);exact q.trans (hk.below q.size a1)
def ad0(aN d n cw pat b3 cd:U)(aL:J)(r:aL<2)(s:¬ yl d n pat b3 cd)(w:aj):aB 58 #[aG (fi aN d n aL cw pat b3 cd)] w λe w'=>e=aV #[.pointer none,aa 1]/\Below w w w':=by
 have p:=NH aN d n cw pat b3 cd aL (λ_ _ ca _=>ca=0->sR d n=true) (λ_ _ ca _=>ca=0->1<=pat/\pat<=10000) (λ_ _ ca _=>ca=0->1<=b3/\b3<=256) (λ_ _ ca _=>ca=0->1<=cd/\cd<=16)
  (Yu aN d n aL r) (acr cw pat d) (ab1 b3) (adh cd)
 have f:=ad ((b9 w w).alloc bu (ab (fi aN d n aL cw pat b3 cd) 26));refine sh;refine(p _).mono ?_;rintro e aq ⟨v,t,l,x,pl,o,A,bj,m,B,u,em,g,⟨C,q⟩,bI,a,b,c,rfl,hk⟩;have hd:decide (l=0/\o=0/\m=0/\em=0)=false:=cN λh=>s ⟨bI.1 h.1,a.1 h.2.1,b.1 h.2.2.1,c.1 h.2.2.2⟩;have y:Below w w (aq.alloc (ab #[.pointer t,.pointer pl,.pointer bj,.pointer u,g.heap.size,bM (g+1)] 109)):=by
  have z:=f.out.size;have D:=bI.2.size;have E:=a.2.size;have F:=b.2.size;have z4:=c.2.size;have k:=((((f.out.trans (q.mono z)).trans (bI.2.mono I)).trans (a.2.mono I)).trans (b.2.mono I)).trans (c.2.mono I);have i:=(k.alloc I (ab #[au none 0 0] 291)).alloc b_ (ab fc 278);have j:=i.trans (hk.below i.size a1);exact j.alloc j.size _
 rw[hd];refine aK;go_ret2;exact o8
def E6(b:hg)(p o t:J):hg:={b with p:=p,dZ:=o,wt:=t}
def Mk(aN:U)(d n aL:J)(cw pat b3 cd:U)(D:aL<2)(hd:d<=8)(aw:1<=n/\n<=16)(ao:1<=pat/\pat<=10000)(B:1<=b3/\b3<=256)(a_:1<=cd/\cd<=16)(w:aj):aB 58 #[aG (fi aN d n aL cw pat b3 cd)] w λe w'=>
  ∃ b:hg,e=aV #[b.p,aa 0]/\gX w w' (bO b (yE ⟨aN,d,n,aL,λ_=>ju d,0,[(0,ki aN 0)],0⟩ (cj.new cw pat d) b3) (qx cd))/\Below w w w':=by
 obtain⟨x,ak⟩:∃ x:cO,x=⟨aN,d,n,aL,λ_=>ju d,0,[(0,ki aN 0)],0⟩:=⟨_,rfl⟩;rw[<-ak]
 have y:=NH aN d n cw pat b3 cd aL (J8 x) (J_ (cj.new cw pat d)) (J9 b3) (J' cd)
  (λW=>(KZ aN d n aL hd aw D W).mono λe w' ⟨b,h1,h2,a,g⟩=>⟨_,0,h1,⟨rfl,b,rfl,ak▸h2,a⟩,g⟩)
  (λW=>(M5 cw pat d ao I W).mono λe w' ⟨h1,h2,a⟩=>⟨_,0,h1,⟨rfl,rfl,h2⟩,a⟩)
  (λW=>(MY b3 B).mono λe w' ⟨h1,h2,a,_⟩=>⟨_,0,h1,⟨rfl,rfl,h2⟩,a.below bu (λ_ _ e=>e)⟩)
  (λW=>(No cd a_ W).mono λe w' ⟨h1,h2⟩=>⟨_,0,h1,⟨rfl,rfl,h2⟩,by rw[h2];exact(b9 _ W).alloc bu _⟩)
 have k:=ad ((b9 w w).alloc bu (ab (fi aN d n aL cw pat b3 cd) 26));have F:=@run_makeMap prog;generalize cj.new cw pat d=l at *
 go_in
 go_wp2_with fail;generalize World.alloc w _=bo at *;refine(y _).mono ?_;intro e aq C;obtain⟨b,rfl,ax,t⟩:=acK C;have z0:=k.o.size;have G:=t.size;go_wp2_with fail;go_ret2;have h1:=ax.keeps ((bd aq).alloc (ab #[b.c.c,b.L.p,b.lb,b.gT,b.e7,b.e6] 109)) (λ_ _ e=>e);generalize s:aq.alloc (ab #[b.c.c,b.L.p,b.lb,b.gT,b.e7,b.e6] 109)=A at *;have u:A.heap.size=aq.heap.size+1:=by rw[<-s];simp
 have z:Below w w A:=by rw[<-s];exact((k.o.trans (t.mono k.o.size))).alloc I _
 have m:(A.alloc (.map #[] 0)).heap.size=aq.heap.size+1+1:=by rw[<-u];simp
 have v:((A.alloc (.map #[] 0)).alloc (.map #[] 0)).heap.size=aq.heap.size+1+1+1:=by rw[<-m];simp
 have a:=(h1.cons (r:=aC.jA A.heap.size []) ((bd A).alloc (.map #[] 0)) ⟨gv.made A prog 3 tZ,λ_ h=>nomatch h⟩ (λj f=>hO f.symm) I).cons (r:=aC.jA (A.alloc (.map #[] 0)).heap.size []) ((bd _).alloc (.map #[] 0)) ⟨gv.made _ prog 3 tZ,λ_ h=>nomatch h⟩ (λj f=>hO f.symm) I;have g:=a.cons (r:=aC.bh ((A.alloc (.map #[] 0)).alloc (.map #[] 0)).heap.size (qo (E6 b (aq.heap.size+1+1+1) (aq.heap.size+1) (aq.heap.size+1+1)) (yE x l b3) 0,114)) ((bd _).alloc _) (aP _ _) (λj f=>hO f.symm) I;rw[m,v,u]at g;have q:=g.pick [0,8,7,6,5,4,3,2,1] bs (λi av=>by show i<9;exact(show ∀ i∈[0,8,7,6,5,4,3,2,1],i<9 by decide) i av);exact⟨E6 b (aq.heap.size+1+1+1) (aq.heap.size+1) (aq.heap.size+1+1),rfl,⟨q.sep,λr E j f=>by have:=q.bt r E j f;omega⟩,(((z.alloc I (.map #[] 0)).alloc I (.map #[] 0)).alloc I (ab (qo (E6 b (aq.heap.size+1+1+1) (aq.heap.size+1) (aq.heap.size+1+1)) (yE x l b3) 0) 114))⟩
def aeW(Q:cj->ae)(a:∀ (l:cj) (f:U) (v:J->U),Q l->Q (np l f (jX v)))(f:J)(p:c9)(h:Q p.1.aJ):Q (kv f p).1.aJ:=by
 rw[(F0 f p).2.1];exact a _ _ _ h
theorem O6(Q:cj->ae)(a:∀ (l:cj) (f:U) (v:J->U),Q l->Q (np l f (jX v))):∀ (n:J) (p:c9),Q p.1.aJ->Q (gp n p).1.aJ
 | 0,p,h=>h
 | n+1,p,h=>by
  unfold gp;split
  .exact h
  refine O6 Q a n _ ?_;unfold hr;simp only[];split
  .exact aeW Q a _ _ h
  exact h
structure Xk(n d w:J)(se:U)(M:fj)(k:J)(v:aR):ae where
 inv:∃ F us A,vE (n+1) d w se (hX k v M) k F us A
 uF:b1 (c2 v (M.p k)).1=b1 (M.p k)
 snd:∀ m∈f' v (M.p k),j5 (w+d) ((hX k v M).fo k) (b1 (M.p k)) m
 gR:(f' v (M.p k)).length<=10
 MZ:(M.p k).cn=true->xY (M.p k).aJ 0
 bt:(M.p k).cn=false->xY (dS v (M.p k)).1.aJ (jg {(dS v (M.p k)).1 with x:=eJ (dS v (M.p k)).1.x})
def fC.my{T A:J}{o:ai aR}{l:cj}{lead:U}(h:fC n k o T A l)(aw:n<=400)(a:∀ m∈(dG l lead).1,j5 c o T m)(b:(dG l lead).1.length<=10):xY l lead:=by
 have h1:=h.pT;have h2:=h.hd;exact⟨I,I,λm hm=>(h.adI m hm).2.2.1,λm hm=>⟨(a m hm).1,(a m hm).2.1⟩,I⟩
def y6{d w:J}{M:fj}(h:gi n d w se M)(aw:n<=400)(hk:k<2)(v:aR)(a_:v.toNat<=63):Xk n d w se M k v:=by
 refine T9;have a':=b.ot;have lb:=b.db;have l':=b.ry;rw[j,bS]at a';rw[j,g]at lb;rw[bS]at l';have a:(hX k v M).p k=(c2 v (M.p k)).1:=ky _ _ _;have Q:(hX k v M).p (1-k)=M.p (1-k):=jD _ _ R;by_cases aT:(M.p k).cn=true
 .have E:eF (M.p k)=false:=by unfold eF;rw[aT];rfl
  have e:(hX k v M).fo=M.fo:=by show(if eF (M.p k)then _ else _)=_;rw[E];rfl
  refine UE;have H:f' v (M.p k)=(dG (M.p k).aJ 0).1:=by unfold f';rw[aD aT]
  obtain⟨L,t,B⟩:=o.tick hk (h.oF k) (c:=w+d) I 0;refine⟨⟨F,us,A,?_⟩,by rw[S];rfl,by rw[H,e];exact t,by rw[H];exact B,λ_=>o.my aw t B,λc=>by rw[aT]at c;cases c⟩;rw[S]at a;refine⟨by rw[a,e];exact b.same rfl rfl rfl,by rw[a];exact r,by rw[a,e];exact L,by rw[a,e];exact g,by rw[a,e];exact u,C5,by rw[a];exact z,by rw[a];exact q,by rw[a];exact j,by rw[a];exact bS,by rw[a];exact y,λc=>?_,HY⟩;rw[a]at c;have c:=c;rw[aT]at c;cases c
 refine DH;obtain⟨vs,m1,_,m3,_⟩:=yG b aT (by rw[bS];exact r) I v a_;obtain⟨X,dc,N,m',m,ps,V,G,vl,r',sd⟩:=b.tick aT (by rw[bS];exact r) I v a_;have H:f' v (M.p k)=(dG (dS v (M.p k)).1.aJ (jg {(dS v (M.p k)).1 with x:=eJ (dS v (M.p k)).1.x})).1:=by unfold f';rw[aT];rfl
 have⟨i,e⟩:=c8 (hX k v M).fo;have C:i=if eF (M.p k)then b' M.fo k (M.fo k++[v])else M.fo:=e
 have D:(if eF (M.p k)then kq (M.p k) (gn M.fo) v.toNat else gn M.fo)=gn i:=by
  rw[C];split
  .rw[MT];unfold kq;rw[q,g]
  rfl
 have hd:fC n k (i k) (b1 (M.p k)) A (fH v (dt (M.p k))).1.aJ:=by
  rw[m3,C];split
  .rename_i E;rw[ky,g];have aA:(M.p k).aJ.state=1:=by
    have an:hj (dt (M.p k)).1=true:=by unfold eF at E;rw[aT]at E;simpa using E
    have⟨_,bI,_,_,_,_,_,_,_,_,s',_⟩:=ug b;rw[<-s'];exact(Ef an).2.1
   exact o.own v a_ I aA
  exact o
 have T:fC n k (i k) (b1 (M.p k)) A (dS v (M.p k)).1.aJ:=O6 (fC n k (i k) (b1 (M.p k)) A) (λl f s gf=>gf.rep f _ (ahN s)) _ _ hd;have g':(i k).length=(M.fo k).length+if eF (M.p k)then 1 else 0:=by
  rw[C];split
  .rw[ky,cG,jG]
  rfl
 have mv:∀ x∈i k,x.toNat<=63:=by
  rw[C];intro x ak;split at ak
  .rw[ky]at ak;exact TM
  exact h.oF k x ak
 have Y:=N.db;have Z:=N.ry;rw[m.e_,j,V,g]at Y;rw[G,m.eg,bS]at Z;have⟨L,t,B⟩:=T.tick hk mv (c:=w+d) I (jg {(dS v (M.p k)).1 with x:=eJ (dS v (M.p k)).1.x});have h2:=T.my aw t B;rw[<-H]at t B;rw[<-r']at L;have fr:i (1-k)=M.fo (1-k):=by
  rw[C];split
  .exact jD _ _ R
  rfl
 refine ed;refine⟨⟨X,dc,A,?_⟩,G,by rw[<-e];exact t,B,λc=>absurd c (by rw[aT];simp),λ_=>h2⟩;refine⟨by rw[a,<-e];exact N,by rw[a,<-bS];exact m',by rw[a,<-e,G];exact L,by rw[a,<-e,V,g',g],by rw[a,<-e,fr,G];exact u,C5,by rw[a,G];exact z,by rw[a,m.aL];exact q,by rw[a,m.e_];exact j,by rw[a,m.eg];exact bS,by rw[a,m.aN];exact y,by rw[a];exact sd,by rw[a,ps];split<;>omega⟩
def EL(M:fj)(k:J)(v:aR)(j:J):M.fo j <+: (hX k v M).fo j:=by
 show _ <+: (if eF (M.p k)then b' M.fo k (M.fo k++[v])else M.fo) j;split
 .unfold b';split
  .subst j;exact prefix_append _ _
  exact zq _
 exact zq _
def gi.tick{d w:J}{M:fj}(h:gi n d w se M)(aw:n<=400)(hk:k<2)(v:aR)(a_:v.toNat<=63):gi (n+1) d w se (hX k v M):=by
 have aW:=y6 h aw hk v a_;have⟨f,bK,g,r⟩:=two hk;have c:∀ j x,x∈(hX k v M).fo j->x.toNat<=63:=by
  intro j x ak;have ak:x∈(if eF (M.p k)then b' M.fo k (M.fo k++[v])else M.fo) j:=ak;split at ak
  .unfold b' at ak;split at ak
   .exact TM
   exact h.oF j x ak
  exact h.oF j x ak
 have b:∀ j,b1 ((hX k v M).p j)=b1 (M.p j):=λj=>by
  show b1 (b' M.p k _ j)=_;unfold b';split
  .subst j;exact aW.uF
  rfl
 have o:(hX k v M).p (1-k)=M.p (1-k):=jD _ _ g;have i:(hX k v M).fo (1-k)=M.fo (1-k):=by
  show(if eF (M.p k)then b' M.fo k (M.fo k++[v])else M.fo) (1-k)=_;split
  .exact jD _ _ g
  rfl
 refine⟨λj a=>?_,c,λj a t q=>?_,λj=>?_,?_⟩
 .have:j=k\/j=1-k:=I
  rcases this with rfl|rfl
  .exact aW.inv
  have⟨F,us,A,av⟩:=h.ps (1-k) f;exact⟨F,us,A,av.cC f I o i c (by rw[bK];exact EL M k v k) (by rw[bK,b];exact dm _)⟩
 .rcases (yV (1-(k:U)) j a (f' v (M.p k)) M.cs (h.wy j)).1 t q with ak|⟨ak,m,hm,rfl⟩
  .have⟨m,h1,h2⟩:=h.yf j a t ak;exact⟨m,h1,h2.mono (EL M k v (1-j)) (by rw[b];exact dm _)⟩
  have l:1-j=k:=I;exact⟨m,rfl,by rw[l,b];exact aW.snd m hm⟩
 .by_cases a:j<2
  .exact(yV (1-(k:U)) j a (f' v (M.p k)) M.cs (h.wy j)).2.1
  have e:∀ s:dd,s.get (j:U)=s.get ((1:J):U):=λs=>by
   unfold dd.get;rw[az I,az I]
  rw[e];exact(yV (1-(k:U)) 1 I (f' v (M.p k)) M.cs (h.wy 1)).2.1
 have⟨_,_,bP,bB⟩:=yV (1-(k:U)) 0 I (f' v (M.p k)) M.cs (h.wy 0)
 have:=h.lost
 have:=aW.gR
 show 0<=(hL M.cs (1-(k:U)) (f' v (M.p k))).lost/\(hL M.cs (1-(k:U)) (f' v (M.p k))).lost<=10*((n+1:J):U);omega
end Go.Proofs.YtalagblioepadaaGreatDoor
