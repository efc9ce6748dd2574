/- The proof, part 27. -/
import Derived.Test.YtalagblioepadaaGreatDoorZe26
namespace Go.Proofs.YtalagblioepadaaGreatDoor
set_option linter.all false
open Proofs.Tryz List Go.RowKit Go.Shelf Go.Maps
set_option maxRecDepth 100000
set_option maxHeartbeats 2000000
variable{ww:Prop}
def C2(h:ww:=by have:=h.gR;omega):=h
def H2(h:ww:=by rw[iv];omega):=h
variable{x:cO}{e:aE}{fr most now aN:U}{B:fX}{cs:ai cq}{L pre ys:ai aE}{l:ai ay}{F j:J}{bk us dc:J->J->U}{p:c9}{s:ch}{t:TypeId}{out v cM z:ay}{W W' aq:aj}
variable{w w':aj}
theorem filter_one(a:U):∀ L:ai U,L.Pairwise (·≠·)->L.length<=(L.filter λy=>!decide (y=a)).length+1
 | [],_=>by simp
 | b :: l,h=>by
  obtain⟨h1,h2⟩:=k4.1 h;by_cases e:b=a
  .subst e;rw[oX aM,pZ.2 λy a8=>by simpa using λc=>h1 y a8 c.symm];simp
  rw[r0 (by simpa using e)]
  have:=filter_one a l h2
  simp only[eA];omega
theorem EH:∀ (N:J) (L:ai U),L.Pairwise (·≠·)->(∀ x∈L,0<=x/\x<N)->L.length<=N
 | 0,L,_,b=>by
  cases L with
  | nil=>simp
  | cons a l=>have:=b a o0;omega
 | N+1,L,h,b=>by
  have h1:=filter_one N L h;have h2:=EH N (L.filter λy=>!decide (y=(N:U))) (h.filter _) λx ak=>by
   obtain⟨c,d⟩:=hN.1 ak
   have:=b x c
   simp at d;omega
  omega
section
variable{ei:Type}[DecidableEq ei]
def LH(M:ai (ei×ay))(k x:ei):je (mj M k) x=if x=k then none else je M x:=by
 unfold je mj;rw[find?_filter];split
 .rename_i e;subst e;rw[Cw.2 aM];rfl
 rename_i e;refine c6 (Option.map Prod.snd) (c6 (λq=>find? q M) (funext λp=>?_));by_cases h:p.1=x
 .simp[h,e]
 simp[h]
def ZT(M:ai (ei×ay))(k x:ei)(v:ay):je (nm M k v) x=if x=k then some v else je M x:=by
 have h:=LH M k x;unfold je nm at *;rw[find?_append];split
 .rename_i e;rw[aD e]at h;rw[Option.map_eq_none_iff.1 h,e];simp
 rename_i e;rw[az e]at h;rw[<-h]
 have:([(k,v)]:ai (ei×ay)).find? (λp=>decide (p.1=x))=none:=by simpa using λc:k=x=>e c.symm
 rw[this,Option.or_none]
end
def da.EN{s:cR}(h:da w B s)(a:so w B j):¬ B.S j:=by
 rintro(e|e|e|⟨p,ao,e⟩)
 .exact a.1 e
 .exact a.2.1 e
 .exact a.2.2.1 e
 have⟨b,an⟩:=NA (h.row ao) e;exact a.2.2.2 b an
def da.acY{s:cR}(h:da w B s):B.M.length<=1000001:=by
 have:=EH 1000001 (B.M.map Prod.fst) (xh.2 h.b8.1.q_) λx ak=>by
  obtain⟨p,ao,rfl⟩:=gO.1 ak
  have:=h.b8.2.2 p ao
  omega
 rwa [iP]at this
def da.note{s:cR}(h:da w B s){xs:ai aE}{base:J}(a_:w.ownsRow base 45 9 v xs.length (b0 xs))(ao:fk fr xs)(d:0<=fr/\fr<=1000000):∃ w',(Instr.mapUpdate 116 (.map (some B.iq)) (aa fr) v).run prog w=.ok () w'/\da w' {B with M:=nm B.M fr v} {s with b8:=jl s.b8 fr xs}/\ag (λj=>j=B.iq) w w':=by
 have⟨w',h1,h2,a⟩:=h.b8.1.store wu (x:=fr) (wf_i64 I) underlying116 (by have:=h.acY;unfold maxLen;omega) v;refine⟨w',h1,h.O1 h2 a (λx=>?_) (λp ao=>?_) (λx=>?_),a⟩
 .rw[ZT];have c:∀ {u:ay} {l:ai ay} {n b:J},w.ownsRow b 45 9 u n l->w'.ownsRow b 45 9 u n l:=λar=>b7 ar a λj f e=>nQ ar h.b8.1 f e;unfold jl;by_cases e:x=fr
  .rw[aD e,aD e];exact c (ku a_ (c3 _))
  rw[az e,az e];have ak:=h.b8.2.1 x;cases an:je B.M x with
  | none=>rw[an]at ak;exact ak
  | some u=>rw[an]at ak;exact c ak
 .unfold nm at ao;rcases gd.1 ao with ao|ao
  .exact h.b8.2.2 p (hN.1 ao).1
  rw[kD.1 ao];exact d
 unfold jl;split
 .rename_i e;rw[e];exact ao
 exact h.bj x
structure Ai(w:aj)(B:fX)(w':aj)(kH:fX)(s':cR):ae where
 ld:da w' kH s'
 b:kH.b=B.b
 dM:kH.dM=B.dM
 iq:kH.iq=B.iq
 S:∀ j,kH.S j->B.S j\/w.heap.size<=j
 bF:ag B.S w w'
def Kh(w:aj)(B:fX)(s:cR)(fr:U)(xs:ai aE)(now:U)(e:Ending)(w':aj):ae:=
 ∃ v kH,e=aV #[v,aa 0]/\w'.ownsRow w.heap.size 47 12 v (l1 s fr xs now).length (eY (l1 s fr xs now))/\Ai w B w' kH (qI s fr xs)/\∀ j,v.ownBlock=some j->¬ kH.S j
def Gw(most now:U)(L xs:ai aE):(gF most now L xs).2.length<=xs.length:=by
 refine p8
 induction xs.reverse with
 | nil=>simp[gF]
 | cons e l a=>
  rw[p4,uA,cG,cG,jG]
  have:(mH most now (gF most now L l.reverse).1 e).toList.length<=1:=by cases mH most now (gF most now L l.reverse).1 e<;>simp
  omega
def F9(w:aj):(Instr.alloc 47 true (aV #[])).run prog w=.ok w (w.alloc (ab oR 47)):=bc
def Ec(w:aj)(c:cq):∃ w',(Instr.storeAt 47 w (.agg (dL c))).run prog (w.alloc (ab oR 47))=.ok () w'/\w'.heap[w.heap.size]?=some (ab (dL c) 47 (0,0))/\ag aH w w'/\w'.heap.size=w.heap.size+1:=by
 have a:=aP w (ab oR 47);obtain⟨d,e,b⟩:=dT (w.alloc (ab oR 47)) 47 12 w (dL c) _ sizeOf47 rfl rfl a (sD c);refine⟨_,d,fb (w.alloc (ab oR 47)) w _ (dL c) 47 a,c1 ((bd w).alloc (ab oR 47)) b a1,?_⟩;simp[World.setRow]
theorem M8{b:J}{c:cq}(h:w.heap[b]?=some (ab (dL c) 47 (0,0))):(Instr.loadAt 47 b).run prog w=.ok (.agg (dL c)) w:=
 fS (P:=prog) 47 12 b 0 (dL c) _ _ isAgg47 sizeOf47 rfl h (λj u a=>km)
structure qg(w:aj)(B:fX)(s:cR)(L:ai aE)(cs:ai cq)(xs:ai aE)(fr now:U)(v:ay)(pre:ai aE)(cM:ay)(W:aj):ae where
 out:W.ownsRow (w.heap.size+1) 47 12 cM (cs++(gF s.most now L pre).2).length (eY (cs++(gF s.most now L pre).2))
 ld:da W B {s with bl:=(gF s.most now L pre).1}
 bF:ag (λj=>j=B.dM) w W
 bj:W.heap[w.heap.size]?=some (ab #[aa fr,v] 271 (0,0))
 rx:∃ base,W.ownsRow base 45 9 v xs.length (b0 xs)
 cK:w.heap.size+1<=W.heap.size
def qg.keep{s:cR}{xs:ai aE}(h:qg w B s L cs xs fr now v pre cM W)(hk:ag aH W W'):qg w B s L cs xs fr now v pre cM W':=by
 have⟨base,ak⟩:=h.rx;exact⟨b7 h.out hk (λ_ _=>id),h.ld.lP hk,h.bF.trans (hk.mono λ_ _ x=>x.elim),hk.heap h.bj id,⟨base,b7 ak hk (λ_ _=>id)⟩,cu h.cK hk.size⟩
theorem qg.bl{s:cR}{xs:ai aE}(h:qg w B s L cs xs fr now v pre cM W)(hk:ag (λj=>j=B.dM) W W'):W'.ownsRow (w.heap.size+1) 47 12 cM (cs++(gF s.most now L pre).2).length (eY (cs++(gF s.most now L pre).2))/\ag (λj=>j=B.dM) w W'/\W'.heap[w.heap.size]?=some (ab #[aa fr,v] 271 (0,0))/\(∃ base,W'.ownsRow base 45 9 v xs.length (b0 xs))/\w.heap.size+1<=W'.heap.size:=by
 have⟨base,ak⟩:=h.rx;have hm:=h.ld.bl;exact⟨b7 h.out hk (λj a e=>nQ h.out hm a e),h.bF.trans hk,hk.heap h.bj (λe=>qC hm _ _ _ (e▸h.bj)),⟨base,b7 ak hk (λj a e=>nQ ak hm a e)⟩,cu h.cK hk.size⟩
def acf{s:cR}(h:da w B s)(aT:s.hd=false){xs:ai aE}{base:J}(a_:w.ownsRow base 45 9 v xs.length (b0 xs))(ao:fk fr xs)(aku:0<=fr)(aw:fr<=now/\now<=1000000)(an:s.aO<fr):aB 210 #[B.b,aG #[aa fr,v],aa now] w (Kh w B s fr xs now):=by
 have T':ag aH w (w.alloc (ab #[aa fr,v] 271)):=(ag.refl _ w).alloc _;have aj5:=b7 a_ T' (λ_ _=>id);have ajV:=aP w (ab #[aa fr,v] 271);have h1:=h.lP T';have akv:(w.alloc (ab #[aa fr,v] 271)).heap.size=w.heap.size+1:=aM;have ajU:=ad (aci h1 aT aj5 ao aw an);have aki:∀ e∈xs,hW e.k=true:=λe l=>(wR (ao.2.2 e l).1).1;have akg:∀ e∈s.bl,hW e.k=true:=λe l=>h.bl.ok (e.k,.agg e.bC.toArray) (gO.2 ⟨e,l,rfl⟩);have m:=bN h1 (bx aj5 (bx ajV (bx T' (bx aki (bx akg ao)))));have ako:=ao.2.1;have akb:=ad (show ∀ j,B.S j->j<w.heap.size from λj a=>h.lt a);obtain⟨A,cap,rfl,_,_⟩:=dA a_;have aj8:=aX ajV
 go_in
 go_wp2_with fail;generalize w.alloc _=aq at *;refine aS ajU.o λaF q=>?_;have TS:=b7 m.o.2.1 q (λ_ _=>id);have v':=q.heap m.o.2.2.1 id;have aU:=ad (acg (m.o.1.lP q) (fr:=fr) TS I m.o.2.2.2.2.2.1);have r:=bN TS (bx v' (bx (m.o.2.2.2.1.trans q) (m.o.1.lP q).bl));have aky:=q.size;have aj8:=aX v';clear TS v' q ajU;go_wp2_with fail;refine aU.o.mono ?_;rintro e br ⟨cM,rfl,ps,ys,Z⟩;obtain⟨L,vs⟩:=c8 (jd s.bl (hS xs (hV s.bl fr)));obtain⟨cs,lb⟩:=c8 (jN xs (hV s.bl fr));rw[<-lb]at ps;rw[<-vs]at ys;have vl:qg w B s L cs xs fr now (au A xs.length cap) [] cM br:=by
  have ajT:gF s.most now L []=(L,[]):=rfl;have akh:w.heap.size≠B.dM:=λe=>by have:=akb.o B.dM (.inr (.inl rfl));omega
  refine⟨?_,by rw[ajT];exact ys,(r.o.2.2.1.mono (λ_ _ x=>x.elim)).trans Z,Z.heap r.o.2.1 akh,⟨base,b7 r.o.1 Z (λj a e=>nQ r.o.1 r.o.2.2.2 a e)⟩,by have:=Z.size;omega⟩;rw[ajT,gq];exact ku ps I
 obtain⟨u,akr,rfl,_,_⟩:=dA ps;have N:=ad vl;have s':=bN vs lb
 have aj':=ad (show cs.length<=256 by
  rw[lb];unfold jN hS;rw[iP];exact cu (oZ _ _) (cu (oZ _ _) m.o.1.cf))
 have ajZ:=vl.bj;have akl:=aX ajZ;clear ps ys Z vl aU r vs lb aj8 ajZ;go_wp2_with fail;clear akl;go_loopg [9,29] xs.length (λg cM z wr=>∃ pre rest:ai aE,xs=pre++rest/\g=rest.length/\z=aa pre.length/\(∃ A n cap,cM=au A n cap)/\qg w B s L cs xs fr now (au A xs.length cap) pre cM wr)
 case atStart=>exact⟨[],xs,rfl,rfl,rfl,⟨_,_,_,rfl⟩,N.o⟩
 refine IJ;cases rest with
 | nil=>
  refine Ip;have W:=f.keep (bd wr).drew;have bR:=jP (S:=aH) (w:=wr.drew) W.ld.hT id;have bI:=jP (S:=aH) (w:=wr.drew) W.bj id;obtain⟨bD,F⟩:=W.rx;have V:=ad (Lo F I);have g':=ad W;have Hx:=ad D;clear ak D f W F;refine aK;refine cS 10 ?_;refine hU (λ_=>False) (.range 8) [8] 1 ?_;refine lU λK E=>?_;go_simp;refine UK;obtain⟨G,aj2,l',d⟩:=(g'.o.keep t).ld.note gf m.o.2.2.2.2.2.2 I;refine DP;refine cJ (λ_=>True) [9] 0 1 ?_;refine pE 9 trivial (Qb rfl rfl rfl rfl aj2) ?_;refine p';have X:=g'.o.keep t;have i:=b7 X.out d (λj a e=>nQ X.out X.ld.b8.1 a e);have aj4:Kh w B s fr xs now (aV #[au u no co,aa 0]) G:=by
   have akd:l1 s fr xs now=cs++(gF s.most now L xs).2:=by unfold l1;rw[<-s'.o.1,<-s'.o.2]
   have ake:qI s fr xs={s with bl:=(gF s.most now L pre).1,b8:=jl s.b8 fr xs}:=by
    unfold qI;rw[<-s'.o.1,ahx s.most 0 now,Hx.o]
   rw[<-Hx.o]at i;refine⟨_,{B with M:=nm B.M fr cz},rfl,by rw[akd];exact ku i I,⟨by rw[ake];exact l',rfl,rfl,rfl,λj a=>?_,?_⟩,λj a=>l'.EN (l'.sM i bs bs a)⟩
   .rcases a with a|a|a|⟨p,ao,a⟩
    .exact Ad
    .exact .inl (.inr (.inl a))
    .exact .inl (.inr (.inr (.inl a)))
    unfold nm at ao;rcases gd.1 ao with ao|ao
    .exact Vp
    rw[kD.1 ao]at a;have aks:=(gf.lt j a).1;have akt:=g'.o.cK;exact .inr I
   exact(X.bF.mono (T:=B.S) (λj _ a=>.inr (.inl a))).trans (d.mono (T:=B.S) (λj _ a=>.inr (.inr (.inl a))))
  have aka:=ad aj4;clear bR bI aj2 aj4 i X l' d t ajS gf V g';go_wp2;go_ret2;exact aka.o
 | cons e rest=>
  refine SR;have zp:hW e.k=true:=m.o.2.2.2.2.1 e zJ;have aj7:xs=(pre++[e])++rest:=by rw[ak];simp
  refine xO;have akx:=f.cK;clear a7;obtain⟨bD,F⟩:=f.rx;obtain⟨aj9,rfl⟩:=nR F I;have w':=rJ (P:=prog) (enc:=aE.bC) (λ_=>rfl) isAgg45 sizeOf45 F pre.length ajR;rw[l]at w';have e2:=uk wr;obtain⟨akz,Tq,mv,aj0,akw⟩:=x9 wr e;have fo:=f.keep aj0;have aj1:=lo mv;have W':=ad (aco fo.ld e zp now I);refine p9;have se:=bN aj7 zp;generalize wr.alloc (ab z9 45)=akA at e2 Tq;clear f ak l zp aj7 fo mv aj0 F;go_wp2_with first|((with_reducible refine dg w' rfl rfl ?_ ?_);exact rfl)|(with_reducible refine eL e2 rfl rfl ?_)|((with_reducible refine c' Tq rfl rfl ?_ ?_ ?_);exact rfl;exact rfl)|((with_reducible refine dg aj1 rfl rfl ?_ ?_);exact rfl)
  refine aS W'.o ?_;rintro H ⟨m',t⟩;have⟨t1,t2,t3,t4,t5⟩:=Q.o.1.bl t;have Q':=uA s.most now L pre e;have r':(gF s.most now L (pre++[e])).1=nu s.most (gF s.most now L pre).1 e:=by rw[Q']
  have C:(gF s.most now L (pre++[e])).2=(gF s.most now L pre).2++(mH s.most now (gF s.most now L pre).1 e).toList:=by rw[Q']
  clear w' aj1 W' Q e2 Tq t Q';cases sd:mH s.most now (gF s.most now L pre).1 e with
  | none=>
   obtain⟨G,a',h2,d,akj⟩:=Ec H q7;have R:=F9 H;rw[sd,Option.toList_none,gq]at C;have Y:qg w B s L cs xs fr now (au (bT aj9) xs.length cap) (pre++[e]) (au u no co) G:=qg.keep ⟨by rw[C];exact t1,by rw[r'];exact m',t2,t3,t4,t5⟩ d;have V':=ad Y;generalize H.alloc (ab oR 47)=akm at R a';clear t1 t2 t3 t4 t5 r' C m' Y h2 d sd;go_wp2_with first|(with_reducible refine eL R rfl rfl ?_)|((with_reducible refine c' a' rfl rfl ?_ ?_ ?_);exact rfl;exact rfl)
   exact H_
  | some c=>
   have⟨G,a',h2,d,akj⟩:=Ec H c;have R:=F9 H;rw[sd,Option.toList_some]at C;have i:=b7 t1 d (λ_ _=>id);have ajY:(cs++(gF s.most now L pre).2).length<=10000:=by
    have:=Gw s.most now L pre
    have:=aj'.o
    rw[cG];omega
   obtain⟨akq,akn,ajW,aj3,y,aj_,n7,dv,rfl⟩:=Ax 32 i ajY I c;have akf:=M8 h2;have ajX:=BO c G;have zd:=m'.lP d;have Y:qg w B s L cs xs fr now (au (bT aj9) xs.length cap) (pre++[e]) (au aj_ n7 dv) akn:=by
    have⟨akc,akk⟩:=t4;have aj6:=b7 akk d (λ_ _=>id);refine⟨by rw[C,<-eh];exact aj3,by rw[r'];exact zd.keep y λj a=>zd.sM i bs bs a,?_,y.heap (d.heap t3 id) (λe=>by have:=(i.lt _ e).1;omega),⟨akc,b7 aj6 y (λj a e=>sV i aj6 bs e a)⟩,by have:=d.size;have:=y.size;omega⟩;exact c1 (t2.trans (d.mono λ_ _ x=>x.elim)) y (λj a e=>by have:=(i.lt _ e).1;omega)
   have V':=ad Y;generalize H.alloc (ab oR 47)=akm at R a';generalize G.alloc (ab (dL c) 47)=akB at ajW ajX;clear t1 t2 t3 t4 t5 r' C m' Y h2 d sd i ajY aj3 y zd;go_wp2_with first|(with_reducible refine eL R rfl rfl ?_)|((with_reducible refine c' a' rfl rfl ?_ ?_ ?_);exact rfl;exact rfl)|((with_reducible refine dg akf rfl rfl ?_ ?_);exact rfl)|((with_reducible refine s_ ajX rfl rfl ?_ ?_);exact rfl)|((with_reducible refine rU ajW rfl rfl ?_ ?_ ?_);exact rfl;exact rfl)
   exact H_
structure ma(w:aj)(b:J)(n:U)(dC:ay)(vs:ai fD):ae where
 hd:w.heap[b]?=some (ab #[aa n,aa 0,dC] 177 (0,0))
 row:w.ownsRow 0 175 12 dC vs.length (vcs vs)
 gR:vs.length<=64
def ma.keep{b:J}{n:U}{dC:ay}{vs:ai fD}(h:ma w b n dC vs)(hk:ag aH w w'):ma w' b n dC vs:=⟨hk.heap h.hd id,b7 h.row hk (λ_ _=>id),h.gR⟩
def Fg(k:dD)(x:fD):aY:=decide (x.v.cL.k=k)&&(decide (x.v.cut=-1)&&!oG x.v)
theorem PS(v:lI)(h:v.wf)(w:aj):aB 234 #[aG v,aa 0] w λr w'=>r=.returned (.bool (oG v))/\Below w w w':=
 (aiE v h w).mono λ_ _ aT=>⟨aT.1,aT.2.below bu (λ_ _ h2=>h2.elim)⟩
def adl(v:lI)(h:v.wf)(k:dD)(fO f b:J)(n:U)(dC:ay)(hk:w.heap[fO]?=some (ab k 43 (0,0)))(hm:w.cell? (ah f 0)=some (bM b))(al:w.heap[b]?=some (ab #[aa n,aa 0,dC] 177 (0,0))):aB 296 #[aG v,fO,f] w λr w'=>r=.returned (.bool (Fg k ⟨v,h⟩))/\Below w w w':=by
 have hcut:=h.cut;have i:=λW=>PS v h W;have a_:Fg k ⟨v,h⟩=(decide (v.cL.k=k)&&(decide (v.cut=-1)&&!oG v)):=rfl;rw[a_];clear a_ h;generalize oG v=z at *;obtain⟨e,eC,c⟩:=v;dsimp only at *;have cp:=(b9 w w).alloc bu (ab (kZ e 0 eC c) 175);have a:=aP w (ab (kZ e 0 eC c) 175);have d:=b2 hk (ab (kZ e 0 eC c) 175);have g:=b2 al (ab (kZ e 0 eC c) 175);have j:f<w.heap.size:=oT w (ah f 0) hm;have m:=ej ((cp.cell (p:=ah f 0) j).trans hm);have l:=ad (λx:k7 (w.alloc (ab (kZ e 0 eC c) 175))=>i x.to);have cx:=ej (bb (k:=0) a rfl);have cm:=ej (bb (k:=1) a rfl);have cB:=ej (bb (k:=2) a rfl);have eS:=ej (bb (k:=3) a rfl);have hZ:=ej (bb (k:=4) a rfl);have iX:=ej (bb (k:=5) a rfl);have ib:=ej (bb (k:=6) a rfl);have A:=ej (bb (k:=7) a rfl);have B:=ej (bb (k:=8) a rfl);have C:=ej (bb (k:=9) a rfl);have E:=ej (bb (k:=10) a rfl);have F:=ej (bb (k:=11) a rfl);have o:=ej (bb (k:=0) d rfl);have s:=ej (bb (k:=1) d rfl);have bK:=ej (bb (k:=2) d rfl);have u:=ej (bb (k:=3) d rfl);have y:=ej (bb (k:=1) g rfl);have N:=Ex e.k k;clear a d g hk hm al;cases D:decide (e.k=k)with
 | false=>
  refine ed;rw[Cg];clear D hcut;refine RM;go_wp2_with fail
  all_goals
   go_ret;exact⟨rfl,cp.trans (x.below.mono cp.size)⟩
 | true=>
  refine ed;rw[r_];clear D;rcases hcut with rfl|rfl
  .exact V7
  exact V7
def gv.acH{P:Program}{k:TypeId}{ei:Type}{C:mS P k ei}{b:J}{M:ai (ei×ay)}[DecidableEq ei](K:Keyed P k)(h:gv w C b M){x:ei}(ak:C.ok x){e:TypeId}(aW:P.underlying t=some (.map k e))(c:∀ w,(zeroValue e).run P w=.ok z w):(Instr.lookup t (.map (some b)) (C.enc x) false).run P w=.ok ((je M x).getD z) w:=by
 obtain⟨es,h1,h2⟩:=h.own;obtain⟨v,ps,gD,a_⟩:=h1.look_ok K aW (c w) (zd:=.held z) (zp:=[]) rfl (C.law x ak);obtain⟨v2,i,g,f⟩:=h1.lookup K aW (c w) (zd:=.held z) (zp:=[]) rfl (C.law x ak);have a:=h.look K ak aW c;rw[gD]at a;simp only[Result.ok.injEq,Value.tuple.injEq,Array.mk.injEq,Cs,and_true]at a;simp only[pH,jn,mM]at a_ f;have d:=a_.1.trans f.1.symm;simp only[He]at d;rw[g,<-d,a.1]
def da.toldRow{s:cR}(h:da w B s)(fr:U)(a:0<=fr/\fr<=1000000):∃ v,(Instr.lookup 116 (.map (some B.iq)) (aa fr) false).run prog w=.ok v w/\w.ownsRow 0 45 9 v (s.b8 fr).length (b0 (s.b8 fr)):=by
 refine⟨_,(h.b8.1.acH wu (x:=fr) (wf_i64 I) underlying116 (z:=au none 0 0) (λw=>bc)),?_⟩;have N:=h.b8.2.1 fr;cases D:je B.M fr with
 | none=>
  refine ed;rw[N];exact il _ _ _ _
 | some u=>rw[D]at N;exact N
def da.forget{s:cR}(h:da w B s)(fr:U)(c:0<=fr/\fr<=1000000)(ty:TypeId):∃ w',(Builtin.delete_ #[116,3] ty #[.map (some B.iq),aa fr]).run prog w=.ok (aV #[]) w'/\da w' {B with M:=mj B.M fr} {s with b8:=jl s.b8 fr []}/\ag (λj=>j=B.iq) w w':=by
 have⟨w',h1,h2,a⟩:=h.b8.1.drop wu (x:=fr) (wf_i64 I) underlying116 ty;refine⟨w',h1,h.O1 h2 a (λx=>?_) (λp ao=>h.b8.2.2 p (hN.1 ao).1) (λx=>?_),a⟩
 .rw[LH];unfold jl;by_cases e:x=fr
  .rw[aD e,aD e]
  rw[az e,az e];have ak:=h.b8.2.1 x;cases an:je B.M x with
  | none=>rw[an]at ak;exact ak
  | some u=>rw[an]at ak;exact b7 ak a λj b e=>nQ ak h.b8.1 b e
 unfold jl;split
 .exact⟨Pairwise.nil,aM,aM⟩
 exact h.bj x
def nP{base n k:J}{T T':TypeId}{b:a6 ay}{z:J×J}(h:w.ownsRow base T k v n l)(a:w.heap[j]?=some (ab b T' z))(d:T≠T'):¬ v.ownBlock=some j:=λe=>by
 rcases h.2 with⟨rfl,_⟩|⟨g,cap,c,rfl,_,aT,_⟩
 .cases e
 cases e;rw[aT]at a;exact ID
def Yl(L xs:ai aE):(iC L xs).2.length<=xs.length:=by
 refine p8
 induction xs.reverse with
 | nil=>simp[iC]
 | cons e l a=>
  rw[p4,tN,cG,cG,jG,jG];omega
def JJ(w:aj)(B:fX)(s:cR)(fr:U)(e:Ending)(w':aj):ae:=
 ∃ v kH,e=aV #[v,aa 0]/\w'.ownsRow w.heap.size 47 12 v (jc s fr).length (eY (jc s fr))/\Ai w B w' kH (lh s fr)/\∀ j,v.ownBlock=some j->¬ kH.S j
structure tG(w:aj)(B:fX)(s:cR)(xs:ai aE)(v:ay)(pre:ai aE)(cM:ay)(W:aj):ae where
 out:W.ownsRow w.heap.size 47 12 cM (iC s.bl pre).2.length (eY (iC s.bl pre).2)
 ld:da W B {s with bl:=(iC s.bl pre).1}
 bF:ag (λj=>j=B.dM) w W
 rx:W.ownsRow 0 45 9 v xs.length (b0 xs)
theorem tG.keep{s:cR}{xs:ai aE}(h:tG w B s xs v pre cM W)(hk:ag aH W W'):tG w B s xs v pre cM W':=
 ⟨b7 h.out hk (λ_ _=>id),h.ld.lP hk,h.bF.trans (hk.mono λ_ _ x=>x.elim),b7 h.rx hk (λ_ _=>id)⟩
structure vz(w:aj)(B:fX)(s:cR)(xs:ai aE)(v:ay)(pre:ai aE)(cM:ay)(b:J)(e:aE)(W:aj):ae where
 i:tG w B s xs v pre cM W
 bD:W.heap[b]?=some (ab (cU e) 45 (0,0))
theorem vz.keep{s:cR}{xs:ai aE}{b:J}(h:vz w B s xs v pre cM b e W)(hk:ag aH W W'):vz w B s xs v pre cM b e W':=⟨h.i.keep hk,hk.heap h.bD id⟩
def acb{s:cR}(h:da w B s)(aT:s.hd=false)(fr:U)(aj8:fr=s.aO+1)(akd:-1<=s.aO/\s.aO<=999999):aB 147 #[B.b,aa fr] w (JJ w B s fr):=by
 refine IL;have⟨v,G,ar⟩:=h.toldRow fr I;have⟨xs,mv⟩:=c8 (s.b8 fr);rw[<-mv]at ar;have a':=h.bj fr;rw[<-mv]at a';have akc:=a'.2.1;have fo:∀ e∈xs,hW e.k=true:=λe l=>(wR (a'.2.2 e l).1).1;have ys:tG w B s xs v [] (au none 0 0) w:=⟨il _ _ _ _,h,ag.refl _ _,ar⟩;refine o7;have N:=ad ys;refine p9;have akb:=ad (show ∀ j,B.S j->j<w.heap.size from λj a=>h.lt a);clear h aT P ar a' fo ys mv;subst aj8
 go_in
 go_wp2_with ((with_reducible refine y9 G rfl rfl ?_ ?_ ?_);exact rfl;exact rfl);clear d4 G;go_loopg [6,34] xs.length (λg cM z wr=>∃ pre rest:ai aE,xs=pre++rest/\g=rest.length/\z=aa pre.length/\(∃ A n cap,cM=au A n cap)/\tG w B s xs (au A xs.length cap) pre cM wr)
 case atStart=>exact⟨[],xs,rfl,rfl,rfl,⟨_,_,_,rfl⟩,N.o⟩
 refine IJ;cases rest with
 | nil=>
  refine Ip;have d4:=aX f.ld.hT;obtain⟨r,aj9,C,y⟩:=f.ld.forget (s.aO+1) I 0;have d3:=aX C.hT;have f3:=bV C.hT;have fP:=(ag.refl (λj=>j=B.b) r).setCell (p:=ah B.b 3) rfl (aa (s.aO+1));have Y:da (r.setCell (ah B.b 3) (aa (s.aO+1))) {B with M:=mj B.M (s.aO+1)} (lh s (s.aO+1)):=by
   have aj3:lh s (s.aO+1)={s with bl:=(iC s.bl pre).1,b8:=jl s.b8 (s.aO+1) [],aO:=s.aO+1}:=by unfold lh;rw[<-Q.o.2,<-D]
   rw[aj3];exact C.OZ (by simpa[qs]using bX C.hT 3 (aa (s.aO+1))) fP rfl rfl rfl (by show -1<=s.aO+1/\s.aO+1<=1000000;omega)
  have m:=b7 f.out y (λj a e=>nQ f.out f.ld.b8.1 a e);have s':=b7 m fP (λj a e=>(C.sM m bs bs a).1 e);have ajW:JJ w B s (s.aO+1) (aV #[au u no co,aa 0]) (r.setCell (ah B.b 3) (aa (s.aO+1))):=by
   have aj4:jc s (s.aO+1)=(iC s.bl pre).2:=by unfold jc;rw[<-Q.o.2,<-D]
   refine⟨_,{B with M:=mj B.M (s.aO+1)},rfl,by rw[aj4];exact s',⟨Y,rfl,rfl,rfl,λj a=>?_,?_⟩,λj a=>Y.EN (Y.sM s' bs bs a)⟩
   .rcases a with a|a|a|⟨p,ao,a⟩
    .exact Ad
    .exact .inl (.inr (.inl a))
    .exact .inl (.inr (.inr (.inl a)))
    exact Vp
   exact((f.bF.mono (T:=B.S) (λj _ a=>.inr (.inl a))).trans (y.mono (T:=B.S) (λj _ a=>.inr (.inr (.inl a))))).trans (fP.mono (T:=B.S) (λj _ a=>.inl a))
  have aj2:=ad ajW;clear ak f C y fP Y m s' ajW D;go_wp2_with ((with_reducible refine G5 aj9 rfl rfl ?_ ?_ ?_);exact rfl;exact rfl);go_ret2;exact aj2.o
 | cons e rest=>
  refine SR;have ajX:=Q.o.1 e zJ;have aj0:xs=(pre++[e])++rest:=by rw[ak];simp
  refine WT;have se:=bN aj0 ajX;generalize wr.alloc (ab z9 45)=akf at R V;obtain⟨F,L⟩:∃ F:aj->ae,F=λW=>vz w B s xs (au (bT ps) xs.length cap) pre (au u no co) wr e W:=⟨_,rfl⟩;have q:F t.drew:=by rw[L];exact vz.keep ⟨f.keep l',lb⟩ (bd t).drew
  have K:∀ {W},F W->vz w B s xs (au (bT ps) xs.length cap) pre (au u no co) wr e W:=λE=>by rw[L]at E;exact E
  have sd:∀ {W W'},F W->ag aH W W'->F W':=λE hk=>by rw[L]at E⊢;exact E.keep hk
  clear L;have bR:=λx:bA F=>aX ((K x.held).i.ld.hT);have bI:=λx:bA F=>aX ((K x.held).bD);have⟨o,ajY⟩:=c8 ((j9 (iC s.bl pre).1 e.k).getD yc);have⟨p,ao⟩:=c8 (j9 (iC s.bl pre).1 e.k).isSome;have G:∀ W,(∃ x:bA F,W=x.to)->(Instr.lookup 115 (.map (some B.dM)) (aG e.k) true).run prog W=.ok (aV #[.agg (cU o),.bool p]) W:=λW ⟨x,ak⟩=>by
   rw[ak,ajY,ao];exact(K x.held).i.ld.find e.k se.o.2
  have e2:=uk t.drew;obtain⟨r,g',aj5,y,ake⟩:=x9 t.drew o;have gf:=sd q ((bd t.drew).alloc (ab z9 45));have c:=sd q y;have d:=ad (K c);have ajV:=ad ao;clear f ak l ajX aj0 lb l' y aj5 ajY ao;go_wp2_with first|((with_reducible refine dg m' rfl rfl ?_ ?_);exact rfl)|(with_reducible refine eL R rfl rfl ?_)|((with_reducible refine c' V rfl rfl ?_ ?_ ?_);exact rfl;exact rfl)
  refine cS 13 ?_;refine cJ (F) (.range 13) 0 13 ?_;refine Wu;clear bR bI G gf c q K sd R e2 V g' m';have m:=d.o.i.out;have TS:(iC s.bl pre).2.length<=10000:=by
   have:=Yl s.bl pre
   omega
  obtain⟨aka,w',Q',ajU,H,aj1,n7,dv,rfl⟩:=Ax 32 m TS d.o.i.bF.size ⟨4,e,0,p⟩;have ajZ:=b7 d.o.i.rx H (λj a e=>sV m d.o.i.rx bs e a);have ajS:=d.o.i.ld.keep H λj a=>d.o.i.ld.sM m bs bs a;have h2:=H.heap d.o.bD (nP m d.o.bD bs);have T':=c1 d.o.i.bF H (λj a e=>by have:=(m.lt j e).1;omega);have bH:=(bd w').drew;have Z:=ajS.lP bH;have aj6:=h2;have bR:=jP (S:=aH) (w:=w'.drew) Z.hT id;have bI:=jP (S:=aH) (w:=w'.drew) h2 id;obtain⟨aj',zd,ajT,X⟩:=Z.Pr e se.o.2 0;have r':=Z.bl;have vl:=b7 ajU bH (λ_ _=>id);have v':=b7 ajZ bH (λ_ _=>id);have zp:tG w B s xs (au (bT ps) xs.length cap) (pre++[e]) (au aj1 n7 dv) aj':=by
   have vs:=tN s.bl pre e;rw[<-ajV.o]at vs;refine⟨?_,?_,(T'.trans (bH.mono λ_ _ x=>x.elim)).trans X,b7 v' X (λj a e=>nQ v' r' a e)⟩
   .rw[vs];exact b7 vl X (λj a e=>nQ vl r' a e)
   rw[vs];exact ajT
  have V':=ad zp;have aj_:=lo d.o.bD;have aj7:=afQ e p r;have Tq:=BO ⟨4,e,0,p⟩ r;generalize r.alloc (ab (dL ⟨4,e,0,p⟩) 47)=akg at Q' Tq;clear zp ajZ ajS h2 T' bH Z aj6 ajT X r' vl v' m TS ajU H ajV d;go_wp2_with first|((with_reducible refine dg aj_ rfl rfl ?_ ?_);exact rfl)|((with_reducible refine G3 aj7 rfl rfl ?_ ?_ ?_ ?_);exact rfl;exact rfl;exact rfl)|((with_reducible refine s_ Tq rfl rfl ?_ ?_);exact rfl)|((with_reducible refine rU Q' rfl rfl ?_ ?_ ?_);exact rfl;exact rfl)
  refine Sh;clear bR bI zd;refine aK;exact H_
variable{b:J}{n:U}{dC:ay}{vs:ai fD}
def FA(h:ma w b n dC vs)(k:dD):aB 231 #[b,aG k] w λe w'=>ag aH w w'/\(e=.returned (aa (-1))\/∃ i:J,i<vs.length/\e=aa i):=by
 have a:=((bd w).alloc (ab #[b] 105)).alloc (ab k 43);have D:(w.alloc (ab #[b] 105)).heap.size=w.heap.size+1:=aM;have N:=aP (w.alloc (ab #[b] 105)) (ab k 43);refine ed;have h1:=h.keep a;have d:=bb (k:=0) (b2 (aP w (ab #[b] 105)) (ab k 43)) rfl;have g:=aX h1.hd;have c:=ad (PR h1.row C2 (Fg k) 296 #[bM (w+1),w.heap.size] (enters_of func296 bc rfl) (λW x al=>by
  have hk:=ag.bU (S:=aH) al a1;exact(adl x.v x.ok k (w.heap.size+1) w b n dC (hk.heap N id) (hk.cell d id) (hk.heap h1.hd id)).mono λ_ _ aT=>⟨aT.1,al.trans (aT.2.mono al.size)⟩))
 obtain⟨A,cap,rfl,_,_⟩:=dA h.row;refine xz;exact WC
def ja(w:aj)(b:J)(n:U)(dC:ay)(w':aj):ae:=∃ a c,ma w' b n a c/\ag (λj=>j=b\/dC.ownBlock=some j) w w'/\∀ j,a.ownBlock=some j->dC.ownBlock=some j\/w.heap.size<=j
def ja.same(h:ma w b n dC vs)(hk:ag aH w w'):ja w b n dC w':=⟨dC,vs,h.keep hk,hk.mono λ_ _ x=>x.elim,λ_ a=>.inl a⟩
def ja.lY(hk:ag aH w aq)(h:ja aq b n dC w'):ja w b n dC w':=by
 exact R9
def ma.ne(h:ma w b n dC vs):∀ j,dC.ownBlock=some j->j≠b:=λj a e=>nP h.row (e▸h.hd) bs a
def La{x:fD}:({x.v with cut:=0}:lI).wf:=⟨x.ok.cL,x.ok.df,x.ok.late,.inr rfl⟩
def adg(h:ma w b n dC vs)(k:dD):aB 162 #[b,aG k] w λe w'=>(∃ c,e=aa c)/\ja w b n dC w':=by
 refine Up;refine DG;refine(FA h1 k).mono ?_;rintro e aF ⟨m,C⟩;have h2:=f.o.1.keep m;have hk:=f.o.2.trans m;rcases C with rfl|⟨i,av,rfl⟩
 .have a:=ad (ja.lY hk (ja.same h2 (ag.refl _ _)));exact I5
 obtain⟨A,cap,rfl,_,_⟩:=dA h2.row;obtain⟨g,rfl⟩:=nR h2.row I;have hd:=h2.keep (bd aF).drew;have E:=jP (S:=aH) (w:=aF.drew) hd.hd id;obtain⟨y,a8⟩:=c8 vs[i];have M:∀ W,(∃ x:ie aH aF.drew,W=x.to)->(Instr.loadAt 175 (.pointer (dk g (i*12)))).run prog W=.ok (.agg (n2 y)) W:=λW ⟨x,ak⟩=>by
  rw[ak,a8];exact rJ (P:=prog) (enc:=fD.bC) (λ_=>rfl) isAgg175 sizeOf175 (b7 hd.row x.keeps (λ_ _=>id)) i av
 have q:=ad hd;clear hd a8 h2;refine aK;refine cS 19 ?_;refine rq (λ_=>False) (.range 16) [16] 2 ?_;refine Db;refine lU λK t=>?_;go_simp;refine aS ((λW=>aiB y.v y.ok W) _) λbr l=>?_;refine t _ _ (dB (l)) ?_;have d:=q.o.keep l;obtain⟨F,D,B,p⟩:=BL (P:=prog) (enc:=fD.bC) (λ_=>rfl) B6 sizeOf175 d.row i av ⟨_,La (x:=y)⟩;have z:=(hk.trans (bd aF).drew).trans l;have r:=d.ne g rfl;have b5:=ad (ja.lY z ⟨_,vs.set i ⟨_,La (x:=y)⟩,⟨p.heap d.hd (λe=>r e.symm),by rw[r3];exact B,by rw[r3];exact h.gR⟩,p.mono λj _ e=>.inr (by rw[e];rfl),λj s=>.inl s⟩);refine hU (λ_=>False) [17] [] 1 (mx ?_);refine cJ (λ_=>True) [18] 0 1 ?_;refine pE 18 trivial (l3 rfl rfl rfl D) ?_;refine p';exact tz
section
variable{P:Program}{α:Type}{enc:α->ai ay}{k base n cap g:J}{T T':TypeId}{cb:List α}
def afy{m:J}{c:ai ay}(hk:∀ x,(enc x).length=k)(h1:∀ v∈c,v.oneCell'=true)(q:∀ w,(Go.sizeOf T').run P w=.ok m w)(h:w.ownsRow base T k (au (bT g) n cap) n (cb.flatMap enc))(i:J)(av:i<cb.length)(x:α)(ak:enc x=c++(enc cb[i]).drop m)(an:c.length=m)(hm:m<=k):∃ w',(Instr.storeAt T' (.pointer (dk g (i*k))) (.agg c.toArray)).run P w=.ok () w'/\w'.ownsRow base T k (au (bT g) n cap) n ((cb.set i x).flatMap enc)/\ag (λj=>j=g) w w':=by
 have⟨a,rest,a7,b,al,aw,l,aA⟩:=rI h;have⟨s1,s2⟩:=we (enc:=enc) hk i av;have r:a.size=i*k+k+((cb.drop (i+1)).flatMap enc).length+rest.length:=by
  exact Wi
 have o:=rK (P:=P) T' m g (i*k) c.toArray a T q (by simpa using an) a7 I (by simpa using h1);refine⟨_,o,?_,jw w g _⟩;have p:=y1 a (i*k) c.toArray (by simp only[iw,an];omega);have f:n*k=i*k+m+((enc cb[i]).drop m++(cb.drop (i+1)).flatMap enc).length:=by rw[<-h.1,s1];simp only[cG,iv,s2,hk];omega
 refine⟨by rw[AU i av];simp only[cG,s2,hk];rw[<-h.1,s1];simp only[cG,s2,hk],.inr ⟨g,cap,_,rfl,al,fb w g a _ T a7,aw,l,by rw[p];exact aA,?_⟩⟩;unfold fz;rw[AU i av,b,s1,f,ak];simp only[iw,an];have d:enc cb[i]=(enc cb[i]).take m++(enc cb[i]).drop m:=(n_ _ _).symm;have e:=Pg ((cb.take i).flatMap enc) ((enc cb[i]).take m) ((enc cb[i]).drop m++(cb.drop (i+1)).flatMap enc) rest c s2 (by rw[h3,hk];omega) an
 rw[show(cb.take i).flatMap enc++enc cb[i]++(cb.drop (i+1)).flatMap enc++rest=(cb.take i).flatMap enc++(enc cb[i]).take m++((enc cb[i]).drop m++(cb.drop (i+1)).flatMap enc)++rest by
  conv=>lhs;rw[d]
  simp only[eh]]
 rw[e];simp only[eh]
def Oq(hk:∀ x,(enc x).length=k)(h:w.ownsRow base T k (au (bT g) n cap) n (cb.flatMap enc))(i:J)(av:i<cb.length)(j:J)(b:j<k)(D:(enc cb[i])[j]?=some v):w.cell? (ah g (i*k+j))=some v:=by
 have⟨c,rest,a7,a,_⟩:=rI h;refine bb a7 ?_;have N:=AT hk cb i av j b;refine ed;rw[<-ny,a,jF (ir.1 N).1,N]
end
def PC(x:fD)(e:aE)(a:fx e=true)(bg:x.v.cL.df=e.df):fD:=⟨{x.v with cL:=e},⟨a,by show 1<=e.df/\e.df<=9;rw[<-bg];exact x.ok.df,x.ok.late,x.ok.cut⟩⟩
def adk(h:ma w b n dC vs)(e:aE)(C:fx e=true):aB 161 #[b,aG e] w λr w'=>(∃ c,r=aa c)/\ja w b n dC w':=by
 have N:=(bd w).alloc (ab e 45);have D:=aP w (ab e 45);have h1:=h.keep N;have Y:=ad (C▸yd e (w.alloc (ab e 45)));have s:=ad (bx h1 (bx D N));have l':=h.gR;have V:=lo (e:=e) D;refine dU;clear h D h1 N C;refine IK;generalize w.alloc _=aq at *;refine aS Y.o λaF al=>?_;refine sj;have h2:=s.o.1.keep R;have L:=R.heap s.o.2.1 id;have hk:=s.o.2.2.trans R;have l:=ad (FA h2 e.k);refine j1;have t:=ad (bx h2 (bx L hk));clear al R h2 L hk Y s V;refine aK;clear dq;refine Ja;have a:=t.o.1.keep q;have L:=q.heap t.o.2.1 id;have hk:=t.o.2.2.trans q;clear l t q;rcases V' with rfl|⟨i,av,rfl⟩
 .have lb:=ad (ja.lY (hk.trans (bd br).drew) (ja.same (a.keep (bd br).drew) (ag.refl _ _)));clear a hk L;refine Ir;refine aK;go_ret;exact⟨⟨_,rfl⟩,lb.o⟩
 obtain⟨A,cap,rfl,_,_⟩:=dA a.row;obtain⟨g,rfl⟩:=nR a.row I;have hd:=a.keep (bd br).drew;have E:=(bd br).drew.heap L id;obtain⟨y,a8⟩:∃ y,y=vs[i]:=⟨_,rfl⟩;have B:=jP (S:=aH) (w:=br.drew) hd.hd id;have Q:∀ x:ie aH br.drew,x.to.cell? (ah g (i*12+4))=some (aa y.v.cL.df):=λx=>Oq (enc:=fD.bC) (λ_=>rfl) (b7 hd.row x.keeps (λ_ _=>id)) i av 4 I (by rw[a8];rfl);have T:∀ x:ie aH br.drew,x.to.cell? (ah g (i*12+8))=some (aa y.v.cL.le):=λx=>Oq (enc:=fD.bC) (λ_=>rfl) (b7 hd.row x.keeps (λ_ _=>id)) i av 8 I (by rw[a8];rfl);have g':=jP (S:=aH) (w:=br.drew) E id;have sd:(i:U)<(vs.length:U):=I;have r':decide ((i:U)<0)=false:=cN I;have f:=ad (bx hd (bx E (bx hk a8)));obtain⟨d,H⟩:∃ d,d=y.v.cL.df:=⟨_,rfl⟩;obtain⟨u,gf⟩:∃ u,u=y.v.cL.le:=⟨_,rfl⟩;rw[<-H]at Q;rw[<-gf]at T;have X:=ad H;clear hd E hk a8 a L H gf;by_cases bg:d=e.df
 .subst bg;by_cases G:u=e.le
  .subst G;refine Ir;clear B Q T g';have p:=f.o.1.keep (bd br.drew).drew;have Z:=f.o.2.1;have B:=jP (S:=aH) (w:=br.drew.drew) p.hd id;have M:∀ W,(∃ x:ie aH br.drew.drew,W=x.to)->(Instr.loadAt 45 w).run prog W=.ok (aG e) W:=λW ⟨x,ak⟩=>by rw[ak];exact lo (e:=e) (x.keeps.heap Z id)
   obtain⟨vl,fr,fo,F⟩:=afy (P:=prog) (enc:=fD.bC) (T':=45) (m:=9) (c:=(cU e).toList) (λ_=>rfl) (fJ.1 (vV e)) sizeOf45 p.row i av (PC y e m'.o X.o.symm) (by rw[<-f.o.2.2.2];rfl) rfl I;have a':=(f.o.2.2.1.trans (bd br).drew).trans (bd br.drew).drew;have mv:g≠b:=p.ne g rfl;have b5:=ad (ja.lY a' ⟨_,vs.set i (PC y e m'.o X.o.symm),⟨F.heap p.hd (λe=>mv e.symm),by rw[r3];exact fo,by rw[r3];exact l'⟩,F.mono λj _ e=>.inr (by rw[e];rfl),λj ps=>.inl ps⟩);clear p Z fo a';refine aK;refine cS 9 ?_;refine rq (λ_=>False) (.range 8) [] 1 ?_;refine S4;refine cJ (λ_=>True) [8] 0 1 ?_;refine mz 8 λK z=>?_;refine l3 rfl rfl rfl fr ?_;refine DT;refine p';clear fr F B M;exact tz
  have hne:(u == e.le)=false:=ep.2 G;clear G;exact WB
 have hne:(d == e.df)=false:=ep.2 bg;have se:(d != e.df)=true:=HS.2 bg;have s':decide (d=e.df)=false:=cN bg;clear bg;exact WB
def XU(n:U)(h:¬ (1<=n/\n<=9))(w:aj):aB 230 #[aa n] w λe w'=>e=aV #[aa 0,aa 14]/\w=w':=by
 have al:gA n 1 9=false:=by unfold gA;rw[<-Hd];simpa using h
 exact TZ
def adm(v:lI)(h:v.wf)(c b:J)(n:U)(dC:ay)(hm:w.cell? (ah c 0)=some (bM b))(al:w.heap[b]?=some (ab #[aa n,aa 0,dC] 177 (0,0))):aB 233 #[aG v,c] w λr w'=>r=.returned (.bool (oG v))/\Below w w w':=by
 have cp:=(b9 w w).alloc bu (ab v 175);have a:=aP w (ab v 175);have g:=ej ((cp.cell (p:=ah c 0) (oT w (ah c 0) hm)).trans hm);have d:=ad (λx:k7 (w.alloc (ab v 175))=>PS v h x.to);have cx:=ej (bb (k:=0) a rfl);have cm:=ej (bb (k:=1) a rfl);have cB:=ej (bb (k:=2) a rfl);have eS:=ej (bb (k:=3) a rfl);have hZ:=ej (bb (k:=4) a rfl);have iX:=ej (bb (k:=5) a rfl);have ib:=ej (bb (k:=6) a rfl);have l:=ej (bb (k:=7) a rfl);have m:=ej (bb (k:=8) a rfl);have q:=ej (bb (k:=9) a rfl);have s:=ej (bb (k:=10) a rfl);have t:=ej (bb (k:=11) a rfl);have i:=ej (bb (k:=1) (b2 al (ab v 175)) rfl);generalize oG v=j at *
 go_in
 go_wp2_with fail;refine rW bc bc ?_
 repeat (go_big_quiet_step (first|(go_at_call 234;exact Calls.kn (d.o _))))
 refine wpQuiet_nil ?_;intro _ e;obtain⟨x,f⟩:=e;subst f;go_wp2_with fail;go_ret;exact⟨rfl,cp.trans (x.below.mono cp.size)⟩
def MB:∃ i z,prog.info? 175=some i/\i.zero=some z/\i.size=12/\i.bytes=96/\z.cells.size=12:=by
 have h:(prog.info? 175).map (λi=>(i.zero.map λz=>z.cells.size,i.size,i.bytes))=some (some 12,12,96):=bc;cases aT:prog.info? 175 with
 | none=>rw[aT]at h;cases h
 | some i=>
  refine II;cases a:i.zero with
  | none=>rw[a]at h;cases h.1
  | some z=>rw[a]at h;exact⟨i,z,rfl,a,h.2.1,h.2.2,C6⟩
def aiF{base:J}{cs:ai fD}(ty:TypeId)(g:w.ownsRow base 175 12 v cs.length (vcs cs))(aw:cs.length<=10000)(al:base<=w.heap.size)(c:fD):∃ v' aq,(Builtin.append_ #[71,71] ty #[v,au (bT w) 1 1]).run prog (w.alloc (ab (n2 c) 175))=.ok v' aq/\aq.ownsRow base 175 12 v' (cs++[c]).length (vcs (cs++[c]))/\ag (λj=>v.ownBlock=some j) w aq/\∀ j,v'.ownBlock=some j->v.ownBlock=some j\/w.heap.size<=j:=by
 have⟨i,z,av,k,h1,h2,b⟩:=MB
 obtain⟨v',aq,h,ar,a7,_,f⟩:=uU (P:=prog) (w.alloc (ab (n2 c) 175)) base 71 ty 175 i z 12 96 underlying71 av k h1 h2 b bs v cs.length (vcs cs) (g.alloc _) (ah w 0) 1 1 (n2 c).toList rfl
  (λj u d=>by
   rw[iB,gM];exact bb (aP w (ab (n2 c) 175)) xr) (B6 c) k6 I b_
 refine⟨v',aq,h,?_,((ag.refl _ w).alloc _).grown a7 (λj e=>.inl e),λj a=>?_⟩
 .rw[show vcs (cs++[c])=vcs cs++(n2 c).toList by simp[vcs,fD.bC],cG,jG];exact ar
 exact Iy
def yF(e:aE)(late:U)(a:fx e=true)(bg:1<=e.df/\e.df<=9)(b:0<=late/\late<=1000000):fD:=⟨⟨e,late*32,-1⟩,⟨a,bg,by show 0<=late*32/\late*32<=1000000000;omega,.inl rfl⟩⟩
def qA{base k m:J}{T:TypeId}(h:w.ownsRow base T k v m l)(e:v.ownBlock=some j):j<w.heap.size:=by
 rcases h.2 with⟨rfl,_⟩|⟨g,cap,a,rfl,_,aT,_⟩
 .cases e
 obtain rfl:g=j:=by simpa[Value.ownBlock]using e
 exact bZ aT
def adj(h:ma w b n dC vs)(e:aE)(he:fx e=true)(late:U)(ajX:0<=late/\late<=1000000):aB 158 #[b,aG e,aa late] w λr w'=>(∃ c,r=aa c)/\ja w b n dC w':=by
 have TS:=((bd w).alloc (ab #[b] 105)).alloc (ab e 45);have D:(w.alloc (ab #[b] 105)).heap.size=w.heap.size+1:=aM;have L:=b2 (aP w (ab #[b] 105)) (ab e 45);have N:=aP (w.alloc (ab #[b] 105)) (ab e 45);refine ed;have h1:=h.keep TS;have s:∀ j,dC.ownBlock=some j->j<w.heap.size:=λj g=>qA h.row g;refine j1;have T':=ad (he▸yd e ((w.alloc (ab #[b] 105)).alloc (ab e 45)));have V:=lo (e:=e) N;have B:=bN h1 (bx L (bx N (bx TS s)));have X:=ad he;have Q:=ad ajX;have s':=ad (bZ h.hd);have aj4:decide (late<0)=false:=cN I;have aj5:decide (1073741824<late)=false:=cN I;have aj6:decide (late>1073741824)=false:=cN I;clear h L N h1 TS he D ajX s;refine RE;have L:=R.heap B.o.2.1 id;have N:=R.heap B.o.2.2.1 id;have hk:=B.o.2.2.2.1.trans R;have s:=B.o.2.2.2.2;refine j1;have hZ:=aX N;have y:=bN h2 (bx L (bx N (bx hk s)));clear al R h2 L N hk s T' B V;by_cases C:1<=e.df/\e.df<=9;rotate_left
 .have u:=ad (XU e.df C aF);have b5:=ad (ja.lY y.o.2.2.2.1 (ja.same y.o.1 (bd aF)));refine qW;refine bJ u.o ?_;exact tz
 have u:=ad (Ea e.df C aF);refine dU;have l:=ad (FA y.o.1 e.k);clear C;refine Dy;refine Ja;clear dq hZ aj4 aj5 aj6 u l;have fo:=y.o.1.keep q;have L:=q.heap y.o.2.1 id;have N:=q.heap y.o.2.2.1 id;have hk:=y.o.2.2.2.1.trans q;have s:=y.o.2.2.2.2;clear y q;rcases V' with rfl|⟨i,av,rfl⟩
 rotate_left
 .have b5:=ad (ja.lY hk (ja.same fo (bd br)));refine UX;clear fo L N hk s av;exact tz
 have hd:=(bd br).drew;have H:=fo.keep hd;have M:=hd.heap L id;have a':=hd.heap N id;have r':=H.ne;have ajS:=ad (aiC H.row (by have:=H.gR;omega) (λx=>oG x.v) 233 #[w.heap.size] (enters_of func233 bc rfl) (λW ajT x=>adm x.v x.ok w b n dC (bb (k:=0) (ajT.heap M (λe=>p5 _ (s _ e))) rfl) (ajT.heap H.hd (λe=>r' _ e rfl))));have bR:=jP (S:=(λj=>dC.ownBlock=some j)) (w:=br.drew) M (λe=>p5 _ (s _ e));have aj8:=jP (S:=(λj=>dC.ownBlock=some j)) (w:=br.drew) H.hd (λe=>r' _ e rfl);have d:=bN H (bx M (bx a' (bx (hk.trans hd) (bx s r'))));clear fo L N hk s hd H M a' r';refine aK;refine cS 10 ?_;refine hU (λj=>dC.ownBlock=some j) (.range 5) [5,6] 3 ?_;refine kr (dB (ag.refl _ _)) ?_;refine lU λK E=>?_;go_simp;refine ajS.o.mono ?_;rintro r G ⟨v',rfl,ar,t,g'⟩;refine DP;clear bR aj8 ajS;have ajR:=d.o.2.2.2.1.mono (T:=λj=>dC.ownBlock=some j) (λ_ _ x=>x.elim) |>.trans t
 have zd:=t.heap d.o.1.hd (λe=>d.o.2.2.2.2.2 _ e rfl);have M:=t.heap d.o.2.1 (λe=>p5 _ (d.o.2.2.2.2.1 _ e));have a':=t.heap d.o.2.2.1 (λe=>by have:=d.o.2.2.2.2.1 _ e;omega);have Tq:=bV zd;have F:∀ j,v'.ownBlock=some j->j≠b/\j<w.heap.size:=λj g=>⟨d.o.2.2.2.2.2 j (g'▸g),d.o.2.2.2.2.1 j (g'▸g)⟩;have P:(vs.filter λx=>!oG x.v).length<=64:=cu (oZ _ _) d.o.1.gR;obtain⟨us,aj3⟩:=c8 (vs.filter λx=>!oG x.v);rw[<-aj3]at ar P;refine o7;have m:=bN ar (bx ajR (bx zd (bx M (bx a' (bx F (bx P (bx g' (bx d.o.2.2.2.2.1 d.o.2.2.2.2.2))))))));clear ar ajR zd M a' F P g' d t aj3;have bB:=aX m.o.2.2.1;refine hU (λ_=>False) [7,8] [] 1 (mx ?_);refine cJ (λ_=>True) [9] 0 1 ?_;refine iV 9 trivial ?_;clear bB Tq;have zp:=bX m.o.2.2.1 2 (au A us.length cap);simp only[dV]at zp;have fP:ag (λj=>j=b\/dC.ownBlock=some j) G (G.setCell (ah b 2) (au A us.length cap)):=(ag.refl _ G).setCell (.inl rfl) (au A us.length cap);have fO:ag (λj=>j=b) G (G.setCell (ah b 2) (au A us.length cap)):=(ag.refl (λj=>j=b) G).setCell (p:=ah b 2) rfl (au A us.length cap);have ajZ:=b7 m.o.1 fO (λj g e=>(m.o.2.2.2.2.2.1 j g).1 e);have fr:=fO.heap m.o.2.2.2.1 (λe=>by have:=s'.o;omega);have ys:=fO.heap m.o.2.2.2.2.1 (λe=>by have:=s'.o;omega);have Y:ma (G.setCell (ah b 2) (au A us.length cap)) b n (au A us.length cap) us:=⟨zp,ajZ,m.o.2.2.2.2.2.2.1⟩;have ps:=(m.o.2.1.mono (T:=λj=>j=b\/dC.ownBlock=some j) (λ_ _ x=>.inr x)).trans fP;have F:=m.o.2.2.2.2.2.1;have lb:=m.o.2.2.2.2.2.2.2.1;clear zp fP fO ajZ m;generalize G.setCell (ah b 2) (au A us.length cap)=f at *;have dq:=aX fr;have aj7:=aX Y.hd;by_cases P:64<=us.length
 .have b5:=ad (show ja w b n dC f from⟨_,us,Y,ps,λj g=>.inl (lb▸g)⟩);have a7:decide ((64:U)<=(us.length:U))=true:=dh I;have W':decide ((us.length:U) >= (64:U))=true:=dh I;clear Y fr ys ps F lb P;exact tz
 have a7:decide ((64:U)<=(us.length:U))=false:=cN I;have W':decide ((us.length:U) >= (64:U))=false:=cN I;have mv:=(bd f).drew;have Z:=Y.keep mv;have⟨v2,sd,gf,aj0,ajV,ajU⟩:=aiF 71 Z.row I (c3 _) (yF e late X.o m'.o Q.o);have ajY:=Z.ne;have ds:∀ W,(∃ x:ie (λj=>(au A us.length cap).ownBlock=some j) f.drew,W=x.to)->(Instr.loadAt 45 (w.heap.size+1:J)).run prog W=.ok (aG e) W:=λW ⟨x,ak⟩=>by
  rw[ak];exact lo (e:=e) (x.keeps.heap (mv.heap ys id) (λe=>by have:=(F _ e).2;omega))
 have bR:=jP (S:=(λj=>(au A us.length cap).ownBlock=some j)) (w:=f.drew) (mv.heap fr id) (λe=>p5 _ (F _ e).2);have bI:=jP (S:=(λj=>(au A us.length cap).ownBlock=some j)) (w:=f.drew) Z.hd (λe=>ajY _ e rfl);have ajW:ag (λj=>(au A us.length cap).ownBlock=some j) f.drew (f.alloc (ab (kZ e 0 (late*32) (-1)) 175)).drew:=(ag.refl (λj=>(au A us.length cap).ownBlock=some j) f.drew).alloc (ab (kZ e 0 (late*32) (-1)) 175);have gf:(Builtin.append_ #[71,71] 71 #[au A us.length cap,au (bT f) 1 1]).run prog (f.alloc (ab (kZ e 0 (late*32) (-1)) 175)).drew=.ok v2 sd:=gf;have a:=bN Z (bx aj0 (bx ajV (bx ajU (bx ps (bx F (bx lb P))))));clear Y fr ys ps F lb P Z aj0 ajV ajU ajY mv;refine aK;clear dq aj7 a7 W';refine cS 18 ?_;refine rq (λj=>(au A us.length cap).ownBlock=some j) (.range 13) [13,14] 3 ?_;refine SG;have hw:wrap64 (late*32)=late*32:=by have:=Q.o;unfold wrap64;omega
 rw[hw];refine E _ _ (dB (ajW)) ?_;clear E K;refine lU λK E=>?_;refine Lib.wp_append_run _ (.tmp 55) (.tmp 64) 71 71 rfl _ _ rfl rfl _ _ gf ?_;refine E _ _ (dB (a.o.2.2.1)) ?_;clear E K;clear bR bI ds ajW hw gf;obtain⟨se,vl,rfl,_,_⟩:=dA a.o.2.1;have l':=a.o.2.2.1.heap a.o.1.hd (λe=>a.o.1.ne _ e rfl);have Tq:=bV l';have bB:=aX l';refine SV;clear bB Tq;have fP:ag (λj=>j=b\/(au A us.length cap).ownBlock=some j) f.drew (sd.setCell (ah b 2) (.slice se (us++[yF e late X.o m'.o Q.o]).length vl)):=(a.o.2.2.1.mono (λ_ _ x=>.inr x)).trans ((ag.refl _ sd).setCell (.inl rfl) _);have Q':=bX l' 2 (.slice se (us++[yF e late X.o m'.o Q.o]).length vl);simp only[dV]at Q';have aj2:w.heap.size<=f.heap.size:=a.o.2.2.2.2.1.size;have aj1:=b7 (S:=λj=>j=b) a.o.2.1 ((ag.refl (λj=>j=b) sd).setCell (p:=ah b 2) rfl (.slice se (us++[yF e late X.o m'.o Q.o]).length vl)) (λj g e=>by
  subst e;rcases a.o.2.2.2.1 _ g with z|z
  .exact a.o.1.ne _ z rfl
  .have:=s'.o
   simp at z;omega)
 have b5:=ad (show ja w b n dC _ from⟨_,us++[yF e late X.o m'.o Q.o],⟨Q',aj1,by have:=a.o.2.2.2.2.2.2.2;simp;omega⟩,(a.o.2.2.2.2.1.trans (mr (bd f).drew)).trans (fP.mono λj _ x=>x.imp id λz=>a.o.2.2.2.2.2.2.1▸z),λj g=>by
  rcases a.o.2.2.2.1 _ g with z|z
  .exact .inl (a.o.2.2.2.2.2.2.1▸z)
  .exact .inr (cu aj2 z)⟩)
 clear l' fP Q' aj2 aj1 a;exact TF
structure mQ(w:aj)(b:J)(dQ:ay)(ps:ai ew):ae where
 hd:w.heap[b]?=some (ab #[dQ] 291 (0,0))
 row:w.ownsRow 0 296 10 dQ ps.length (eQ ps)
 gR:ps.length<=32
def mQ.keep{b:J}{dQ:ay}{ps:ai ew}(h:mQ w b dQ ps)(hk:ag aH w w'):mQ w' b dQ ps:=⟨hk.heap h.hd id,b7 h.row hk (λ_ _=>id),h.gR⟩
def mQ.ne{b:J}{dQ:ay}{ps:ai ew}(h:mQ w b dQ ps):∀ j,dQ.ownBlock=some j->j≠b:=λj a e=>nP h.row (e▸h.hd) bs a
def jJ(w:aj)(b:J)(dQ:ay)(w':aj):ae:=∃ a c,mQ w' b a c/\ag (λj=>j=b\/dQ.ownBlock=some j) w w'/\∀ j,a.ownBlock=some j->dQ.ownBlock=some j\/w.heap.size<=j
def jJ.same{b:J}{dQ:ay}{ps:ai ew}(h:mQ w b dQ ps)(hk:ag aH w w'):jJ w b dQ w':=⟨dQ,ps,h.keep hk,hk.mono λ_ _ x=>x.elim,λ_ a=>.inl a⟩
def jJ.lY{b:J}{dQ:ay}(hk:ag aH w aq)(h:jJ aq b dQ w'):jJ w b dQ w':=by
 exact R9
def ZM(p:ew)(k:dD)(fO:J)(hk:w.heap[fO]?=some (ab k 43 (0,0))):aB 299 #[aG p,fO] w λr w'=>r=.returned (.bool (decide (p.k=k)))/\Below w w w':=by
 have a:=aP w (ab p 296);have c:=aX (b2 hk (ab p 296));have b:=Ex p.k k;refine kF;exact⟨rfl,((b9 w w).alloc bu (ab p 296))⟩
def ub(f:U)(p:ew):aY:=decide (p.wh<=wrap64 (f-p.k.fr))&&(p.Pf == 0 || decide (15<=wrap64 (f-p.k.fr)))
def ZN(p:ew)(f:U)(w:aj):aB 155 #[aG p,aa f] w λr w'=>r=.returned (.bool (ub f p))/\Below w w w':=by
 have cB:=aX (aP w (ab p 296));have iQ:=ad ((b9 w w).alloc bu (ab p 296))
 go_in
 go_upto_region 1 with fail
 generalize World.alloc w _=aq at *;go_wp2
 all_goals
  go_ret;refine⟨?_,iQ.o⟩;unfold ub;simp[*]<;>omega
def mc(w:aj):ae:=∀ j,j<40->∃ v,w.cell? (ah 0 j)=some (aa v)
def mc.keep{T:J->ae}(h:mc w)(hk:ag T w w')(a:¬ T 0):mc w':=λj b=>by
 obtain⟨v,a_⟩:=h j b;exact⟨v,hk.cell a_ a⟩
def acG(h:mc w)(k:J)(hk:k<10):∃ a b c d:U,∀ o,o=k*4->(Instr.loadAt 294 (.pointer (dk 0 o))).run prog w=.ok (aG #[aa a,aa b,aa c,aa d]) w:=by
 have⟨a,bg⟩:=h (k*4) I;have⟨b,al⟩:=h (k*4+1) I;have⟨c,an⟩:=h (k*4+2) I;have⟨d,hd⟩:=h (k*4+3) I;refine⟨a,b,c,d,λo ar=>?_⟩;subst ar;have h:=zh (P:=prog) w (ah 0 (k*4)) [aa a,aa b,aa c,aa d] (λj v e=>by
  rw[iB]
  match j,e with
  | 0,e=>cases e;exact bg
  | 1,e=>cases e;exact al
  | 2,e=>cases e;exact an
  | 3,e=>cases e;exact hd)
 simp only[eA,gN]at h;simp only[Instr.loadAt,Instr.sureAddr,loadVar,iO,jm,iu,isAgg294,sizeOf294,if_true];simp only[gM,Nat.reduceAdd]at h;rw[h];rfl
def LA(h:mc w)(k:U):aB 235 #[aa k] w λr w'=>(∃ a b c d:U,r=aG #[aa a,aa b,aa c,aa d])/\Below w w w':=by
 have P:(Instr.alloc 294 true (aV #[])).run prog w=.ok w (w.alloc (ab z4 294)):=bc;have l:=aP w (ab z4 294);have hne:w.heap.size≠0:=λe=>by
  obtain⟨v,a_⟩:=h 0 I
  have:=oT _ _ a_
  omega
 have fin:∀ a b c d:U,∃ W,(Instr.storeAt 294 w (aG #[aa a,aa b,aa c,aa d])).run prog (w.alloc (ab z4 294))=.ok () W/\W.heap[w.heap.size]?=some (ab #[aa a,aa b,aa c,aa d] 294 (0,0))/\Below w w W:=λa b c d=>by
  obtain⟨h1,h2,m⟩:=dT (w.alloc (ab z4 294)) 294 4 w #[aa a,aa b,aa c,aa d] _ sizeOf294 rfl rfl l rfl;exact⟨_,h1,fb _ _ _ _ _ l,(c1 ((bd w).alloc (ab z4 294)) m a1).below bu (λ_ _ e=>e)⟩
 by_cases hk:0<=k/\k<10
 .obtain⟨n,rfl⟩:∃ n:J,k=n:=⟨k.toNat,I⟩;have aw:n<10:=I;obtain⟨a,b,c,d,p⟩:=acG (h.keep ((bd w).alloc (ab z4 294)) id) n aw;obtain⟨W,F,g,i⟩:=fin a b c d;have d1:=cN I;have d2:=cN I;have q:=cN I;have f:=bN g i;generalize w.alloc (ab z4 294)=aq at *
  go_in
  go_wp2_with first|refine eL P rfl rfl ?_|((with_reducible refine dg (p _ rfl) rfl rfl ?_ ?_);exact rfl)|refine c' F rfl rfl rfl rfl ?_
  have j:=fN _ _ _ _ f.o.1 4 rfl;refine dj (v:=aG #[aa a,aa b,aa c,aa d]) j ?_;exact Jf
 have⟨W,F,g,i⟩:=fin 0 0 0 0;have f:=bN g i;generalize w.alloc (ab z4 294)=aq at *;by_cases hk:k<0
 .have d1:=dh hk
  go_in
  refine IF;have j:=fN _ _ _ _ f.o.1 4 rfl;refine dj (v:=aG z4) j ?_;exact Jf
 have d1:=cN hk
 go_in
 refine IF;refine dj (v:=aG z4) (fN _ _ _ _ f.o.1 4 rfl) ?_;exact Jf
variable{dQ:ay}{ps:ai ew}
def Ly(h:mQ w b dQ ps)(k:dD):aB 236 #[b,aG k] w λe w'=>ag aH w w'/\(e=.returned (aa (-1))\/∃ i:J,i<ps.length/\e=aa i):=by
 have a:=(bd w).alloc (ab k 43);have h1:=h.keep a;have ds:=aX h1.hd;have c:=ad (NP h1.row C2 (λp=>decide (p.k=k)) 299 #[w.heap.size] (enters_of func299 bc rfl) (λW x al=>by
  have hk:=ag.bU (S:=aH) al a1;exact(ZM x k w (hk.heap (aP w (ab k 43)) id)).mono λ_ _ aT=>⟨aT.1,al.trans (aT.2.mono al.size)⟩))
 obtain⟨A,cap,rfl,_,_⟩:=dA h.row;refine sh;exact WC
def ZJ(w:aj):aB 132 #[] w λe w'=>e=.returned w.heap.size/\w'=w.alloc (ab #[au none 0 0] 291):=by
 exact er
def Za(a b c d:U)(w:aj):∃ r,(binOp .eql 294 (aG #[aa a,aa b,aa c,aa d]) (aG z4)).run prog w=.ok (.bool r) w:=by
 refine⟨a == 0&&(b == 0&&(c == 0&&d == 0)),?_⟩;simp[go_sem]
 repeat' split
 all_goals simp_all
def aaH:prog.eqGuardType prog.depth 294=false:=bc
def Mz:∃ i z,prog.info? 296=some i/\i.zero=some z/\i.size=10/\i.bytes=72/\z.cells.size=10:=by
 have h:(prog.info? 296).map (λi=>(i.zero.map λz=>z.cells.size,i.size,i.bytes))=some (some 10,10,72):=bc;cases aT:prog.info? 296 with
 | none=>rw[aT]at h;cases h
 | some i=>
  refine II;cases a:i.zero with
  | none=>rw[a]at h;cases h.1
  | some z=>rw[a]at h;exact⟨i,z,rfl,a,h.2.1,h.2.2,C6⟩
def aee{base:J}{cs:ai ew}(ty:TypeId)(g:w.ownsRow base 296 10 v cs.length (eQ cs))(aw:cs.length<=10000)(al:base<=w.heap.size)(c:ew):∃ v' aq,(Builtin.append_ #[289,289] ty #[v,au (bT w) 1 1]).run prog (w.alloc (ab (nj c) 296))=.ok v' aq/\aq.ownsRow base 296 10 v' (cs++[c]).length (eQ (cs++[c]))/\ag (λj=>v.ownBlock=some j) w aq/\∀ j,v'.ownBlock=some j->v.ownBlock=some j\/w.heap.size<=j:=by
 have⟨i,z,av,k,h1,h2,b⟩:=Mz
 obtain⟨v',aq,h,ar,a7,_,f⟩:=uU (P:=prog) (w.alloc (ab (nj c) 296)) base 289 ty 296 i z 10 72 underlying289 av k h1 h2 b bs v cs.length (eQ cs) (g.alloc _) (ah w 0) 1 1 (nj c).toList rfl
  (λj u d=>by
   rw[iB,gM];exact bb (aP w (ab (nj c) 296)) xr) (FP c) k6 I b_
 refine⟨v',aq,h,?_,((ag.refl _ w).alloc _).grown a7 (λj e=>.inl e),λj a=>?_⟩
 .rw[show eQ (cs++[c])=eQ cs++(nj c).toList by simp[eQ,ew.bC],cG,jG];exact ar
 exact Iy
structure xW(b:J)(dQ:ay)(ps:ai ew)(lL:J)(e:aE)(x y:U)(W:aj):ae where
 e7:mQ W b dQ ps
 cL:W.heap[lL]?=some (ab e 45 (0,0))
 ev:W.heap[lL+1]?=some (ab #[af x,af y] 91 (0,0))
 yu:mc W
theorem xW.keep{lL:J}{x y:U}(h:xW b dQ ps lL e x y w)(hk:ag aH w w'):xW b dQ ps lL e x y w':=⟨h.e7.keep hk,hk.heap h.cL id,hk.heap h.ev id,h.yu.keep hk id⟩
def ZK(h:mQ w b dQ ps)(ajY:mc w)(ajT:dQ.ownBlock≠some 0)(e:aE)(he:fx e=true)(x y:U):aB 159 #[b,aG e,aG #[af x,af y]] w λr w'=>(∃ c,r=aa c)/\jJ w b dQ w':=by
 have gf:=((bd w).alloc (ab e 45)).alloc (ab #[af x,af y] 91);refine Dt;have vl:=b2 (aP w (ab e 45)) (ab #[af x,af y] 91);have N:=aP (w.alloc (ab e 45)) (ab #[af x,af y] 91);refine ed;have ajZ:=(wR he).1;have ajU:xW b dQ ps w e x y _:=⟨h.keep gf,vl,N,ajY.keep gf id⟩;have T':=ad (he▸yd e ((w.alloc (ab e 45)).alloc (ab #[af x,af y] 91)));have V:=lo (e:=e) vl;have aj0:∀ j,dQ.ownBlock=some j->j<w.heap.size:=λj M=>qA h.row M;have mv:=bN (bZ h.hd) ajT;have B:=bN ajU (bx gf (bx aj0 ajZ));refine RE;have cB:=aX h2.cL;have Z:=ad (LA h2.yu e.k.bq);have Q:=bN h2 (B.o.2.1.trans R);have ajR:=ad B.o.2.2;refine si;rintro r TS ⟨⟨sd,se,e',fd,rfl⟩,al⟩;have a':=ag.bU (S:=aH) al a1;have s':=Q.o.1.keep a';have ajW:∀ W,(Instr.build 294 #[]).run prog W=.ok (aG z4) W:=λW=>bc;obtain⟨aj2,g'⟩:=Za sd se e' fd TS;have f:=bN s' (Q.o.2.trans a');obtain⟨F,l⟩:∃ F:a6 ay,F=#[aa sd,aa se,aa e',aa fd]:=⟨_,rfl⟩;rw[<-l]at g'⊢;clear cB Z al a' s' Q l;cases aj2 with
 | true=>
  have b5:=ad (jJ.lY f.o.2 (jJ.same f.o.1.e7 (bd TS)));refine UI;go_ret;exact⟨⟨_,rfl⟩,b5.o⟩
 | false=>
 have cx:=aX f.o.1.cL;have l:=ad (Ly f.o.1.e7 e.k);refine UI;clear g' ajW;refine Ja;have g:=f.o.1.keep q;have s:=bN g (f.o.2.trans q);clear cx l f q;rcases V' with rfl|⟨i,av,rfl⟩
 rotate_left
 .have b5:=ad (jJ.lY s.o.2 (jJ.same s.o.1.e7 (bd br)));refine UX;clear g av;exact tz
 have ds:=aX g.e7.hd;obtain⟨A,cap,rfl,_,_⟩:=dA g.e7.row;by_cases zp:32<=ps.length
 .have b5:=ad (jJ.lY s.o.2 (jJ.same s.o.1.e7 (bd br)));have a7:decide ((32:U)<=(ps.length:U))=true:=dh I;have lb:decide ((ps.length:U) >= (32:U))=true:=dh I;clear g zp;exact tz
 have a7:decide ((32:U)<=(ps.length:U))=false:=cN I;have lb:decide ((ps.length:U) >= (32:U))=false:=cN I;have l:=g.keep (bd br).drew;have m':=ad (s.o.2.trans (bd br).drew);clear g s;refine aK;clear ds a7 lb;obtain⟨G,m⟩:=gg (F:=λW=>(W.heap[b]?=some (ab #[au A ps.length cap] 291 (0,0))/\W.heap[w.heap.size]?=some (ab e 45 (0,0))/\W.heap[w.heap.size+1]?=some (ab #[af x,af y] 91 (0,0))/\mc W));have bR:=λx:bA G=>aX (((m _).1 x.held).1);have bI:=λx:bA G=>aX (((m _).1 x.held).2.1);have aj1:=λx:bA G=>aX (((m _).1 x.held).2.2.1);have P:∀ W,xW b (au A ps.length cap) ps w e x y W->G W:=λW h=>(m W).2 ⟨h.e7.hd,h.cL,h.ev,h.yu⟩;have Y:=P _ l;have v':=ad (λW (ajV:G W)=>LA ((m _).1 ajV).2.2.2 e.k.bq);have ajS:=ad (show ps.length<32 by omega);refine cS 18 ?_;refine cJ (G) (.range 15) 3 15 ?_;refine dN (Y) [0,1,2,3,4,5,6,7,9,10,11] 4 ?_;refine eK 8 λK E=>?_;go_simp;refine(v'.o _ Y).mono ?_;rintro r aj3 ⟨⟨eb,v,C,H,rfl⟩,al⟩;have fo:=ag.bU (S:=aH) al a1;have d:=l.keep fo;have z:=P _ d;refine vq;refine dN (z) [12] 2 ?_;obtain⟨v2,W',ys,Q',u,zd⟩:=aee 289 d.e7.row I (c3 _) (ew.mk eb v C H e.k x y);have n:=u.heap d.e7.hd (λe=>d.e7.ne _ e rfl);have fr:=ajR.o.1;have X:=(m W').2 ⟨n,u.heap d.cL (λe=>p5 _ (fr _ e)),u.heap d.ev (λe=>by have:=fr _ e;omega),d.yu.keep u mv.o.2⟩;have vs:=P _ (d.keep ((bd aj3).alloc (ab (nj (ew.mk eb v C H e.k x y)) 296)));have a:=bN d (bx Q' (bx u (bx zd (bx (m'.o.trans fo) n))));clear bR bI aj1 Y z v' l d al fo Q' u zd zp m m' n fr P;refine hG 13 vs ?_;refine jh 14 λK E=>?_;refine Lib.wp_append_run _ (.tmp 38) (.tmp 47) 289 289 rfl _ _ rfl rfl _ _ ys ?_;refine C9;clear vs X;clear ys;obtain⟨l',r',rfl,_,_⟩:=dA a.o.2.1;have n:=a.o.2.2.2.2.2;have ajX:=bV n;have bw:=aX n;clear n;refine SV;clear bw ajX;have L:=bX a.o.2.2.2.2.2 0 (.slice l' (ps++[ew.mk eb v C H e.k x y]).length r');refine Dr;have Tq:=b7 (S:=λj=>j=b) a.o.2.1 ((ag.refl (λj=>j=b) W').setCell (p:=ah b 0) rfl (.slice l' (ps++[ew.mk eb v C H e.k x y]).length r')) (λj M e=>by
  subst e;rcases a.o.2.2.2.1 _ M with t|t
  .exact a.o.1.e7.ne _ t rfl
  .have:=mv.o.1
   have:=a.o.2.2.2.2.1.size
   omega)
 have b5:=ad (show jJ w b (au A ps.length cap) _ from⟨_,ps++[ew.mk eb v C H e.k x y],⟨L,Tq,by have:=ajS.o;simp;omega⟩,((a.o.2.2.2.2.1.mono (λ_ _ x=>x.elim)).trans (a.o.2.2.1.mono (T:=λj=>j=b\/(au A ps.length cap).ownBlock=some j) λ_ _ x=>.inr x)).setCell (.inl rfl) _,λj M=>by
  rcases a.o.2.2.2.1 _ M with t|t
  .exact .inl t
  .exact .inr (cu a.o.2.2.2.2.1.size t)⟩)
 clear L Tq a;exact TF
def F7{ρ:Go.Shelf.Ren}(L:SlLaysE0.n41 prog ρ){a:TypeInfo}{k bytes:J}(av:prog.info? (ρ.t 23)=some a)(m:a.zero=some z)(h1:a.size=k)(h2:a.bytes=bytes)(i:z.cells.size=k)(hk:0<k)(x:∀ w,(Go.sizeOf (ρ.t 23)).run prog w=.ok k w){base n:J}{xs:ai ay}(h:w.ownsRow base (ρ.t 23) k v n xs)(aw:n*bytes<=140737488355328)(l:∀ u∈xs,u.oneCell'=true):Calls prog (ρ.f 41) #[v] w λe w'=>∃ cz,e=.returned cz/\w'.ownsRow w (ρ.t 23) k cz n xs/\Below w w w':=by
 rcases h.2 with⟨rfl,s⟩|⟨g,cap,p,rfl,a7,aT,an,hm,aA,aW⟩
 .subst s;refine zw (AnyE.slices_Clone_nil (P:=prog) (ρ:=ρ) L 0 0 w) ?_;exact⟨_,rfl,(p0.1 (by rw[h.1,zu]))▸il _ _ _ _,b9 _ _⟩
 refine xD;refine(AnyE.slices_Clone (P:=prog) (ρ:=ρ) L a z k bytes av m h1 h2 i hk x g 0 n cap xs w h.1 (cu an hm) aw (λj u c=>?_) l).mono ?_
 .have d:0<n:=by
   rcases tk n with e|e
   .have:=(ir.1 c).1
    rw[h.1,e,zu]at this;omega
   exact e
  exact VL
 exact VI
def aiJ:Go.Shelf.Ren:=⟨fun|41=>80|n=>n,fun|4=>4|22=>71|23=>175|n=>n,fun|n=>n⟩
def aiI:SlLaysE0.n41 prog aiJ:={
 mixed:=bc
 f41:=⟨f80.name,bs,func80.trans (c6 some bc)⟩
 t4:=underlying4
 a4:=isAgg4
 z4:=sizeOf4
 v4:=zeroValue4
 t22:=underlying71
 a22:=isAgg71
 z22:=sizeOf71
 v22:=zeroValue71}
def ajK(h:ma w b n dC vs):aB 53 #[b] w λe w'=>(∃ A c k,e=au A k c/\k<=64)/\ag aH w w':=by
 have bB:=aX h.hd;have⟨i,z,av,g,h1,h2,d⟩:=MB;have aU:=ad (F7 aiI av g h1 h2 d bs sizeOf175 h.row C2 λu f=>by
  obtain⟨x,_,ak⟩:=xg.1 f;exact B6 x u ak)
 go_in
 refine jI;refine aU.o.mono ?_;rintro e aq ⟨cz,rfl,ar,al⟩;obtain⟨A,c,rfl,_,_⟩:=dA ar;have a:=ad (ag.bU (S:=aH) al a1);go_wp2;go_ret;exact⟨⟨_,_,_,rfl,h.gR⟩,a.o⟩
def No(n:U)(aw:1<=n/\n<=16)(w:aj):aB 131 #[aa n] w λe w'=>e=aV #[w.heap.size,aa 0]/\w'=w.alloc (ab #[aa n,aa 0,au none 0 0] 177):=by
 exact qV
def adi(n:U)(aw:¬ (1<=n/\n<=16))(w:aj):aB 131 #[aa n] w λe w'=>e=aV #[.pointer none,aa 1]/\w'=w:=by
 by_cases h1:n<1
 .have d1:=dh h1;exact qV
 have d1:=cN h1;exact qV
def gv.clear{P:Program}{k:TypeId}{ei:Type}{C:mS P k ei}{b:J}{M:ai (ei×ay)}(h:gv w C b M){e:TypeId}(aW:P.underlying t=some (.map k e))(ty:TypeId):∃ w',(Builtin.clear_ #[t] ty #[.map (some b)]).run P w=.ok (aV #[]) w'/\gv w' C b []/\ag (λj=>j=b) w w':=by
 obtain⟨c,⟨es,a,al,F,aA,d⟩,_⟩:=h.own;refine⟨w.putObj b (.map #[] a),?_,⟨⟨[],⟨#[],a,World.putObj_heap_same (mI.1 al).1,⟨aM,MapKept.stamped_empty a,aM⟩,dm _,rfl⟩,Cp _⟩,(λ_ h=>nomatch h),Pairwise.nil⟩,(ag.refl (λj=>j=b) w).putObj (l:=b) rfl _⟩;simp[Builtin.clear_,tb aW,MapKept.run_getObj_map al,MapKept.run_setObj_map _ al,Result.andThen];rfl
def ace{s:cR}(h:da w B s):aB 23 #[B.b] w λe w'=>∃ v,e=.returned v/\w'.ownsRow w 45 9 v s.bl.length (b0 s.bl)/\ag aH w w':=by
 exact MX h.hT h.bl h.eV (by have:=h.cf;omega)
def yx{s:cR}(h:da w B s):aB 17 #[B.b] w λe w'=>e=aa s.aO/\w=w':=by
 have a:=aX h.hT;exact er
def D1(w:aj)(B:fX)(s:cR)(e:Ending)(w':aj):ae:=
 ∃ v,e=.returned v/\w'.ownsRow w.heap.size 47 12 v (lN s).length (eY (lN s))/\Ai w B w' B (iF s)/\∀ j,v.ownBlock=some j->¬ B.S j
def vS(xs:ai aE):ai cq:=xs.map λo=>⟨3,o,0,false⟩
structure vA(w:aj)(B:fX)(s:cR)(v:ay)(pre:ai aE)(cM:ay)(W:aj):ae where
 out:W.ownsRow w.heap.size 47 12 cM (vS pre).length (eY (vS pre))
 ld:da W B {s with hd:=true}
 bF:ag (λj=>j=B.b) w W
 rx:W.ownsRow w.heap.size 45 9 v s.bl.length (b0 s.bl)
theorem vA.keep{s:cR}(h:vA w B s v pre cM W)(hk:ag aH W W'):vA w B s v pre cM W':=
 ⟨b7 h.out hk (λ_ _=>id),h.ld.lP hk,h.bF.trans (hk.mono λ_ _ x=>x.elim),b7 h.rx hk (λ_ _=>id)⟩
def acd{s:cR}(h:da w B s):aB 97 #[B.b] w (D1 w B s):=by
 have zp:=h.cf;cases aT:s.hd with
 | true=>
  refine IL;have Y:lN s=[]:=by unfold lN;rw[aT];rfl
  have Z:iF s=s:=by unfold iF;rw[aT];rfl
  have gf:=ad (show D1 w B s (.returned (au none 0 0)) w from⟨_,rfl,by rw[Y];exact il _ _ _ _,⟨by rw[Z];exact h,rfl,rfl,rfl,λj a=>.inl a,ag.refl _ _⟩,λj a=>by cases a⟩);refine cg;go_ret;exact gf.o
 | false=>
  refine IL;have f4:=bV P;have fP:=(ag.refl (λj=>j=B.b) w).setCell (p:=ah B.b 4) rfl (.bool true);have h2:da (w.setCell (ah B.b 4) (.bool true)) B {s with hd:=true}:=h.OZ (by simpa[qs]using bX h.hT 4 (.bool true)) fP rfl rfl rfl h.dz;have C:=ad (ace h2);have a':lN s=vS s.bl:=by unfold lN;rw[aT];rfl
  have fo:iF s={s with hd:=true,bl:=[]}:=by unfold iF;rw[aT];rfl
  have k:=bN h2 (bx fP (bx a' fo));have se:(w.setCell (ah B.b 4) (.bool true)).heap.size=w.heap.size:=aM;refine cg;generalize w.setCell _ _=aF at *;refine I8;rw[se]at ar;have d:vA w B s v [] (au none 0 0) aq:=⟨il _ _ _ _,k.o.1.lP i,k.o.2.1.trans (i.mono λ_ _ x=>x.elim),ar⟩;refine o7;refine tC;go_loopg [3,20] s.bl.length (λg cM z wr=>∃ pre rest:ai aE,s.bl=pre++rest/\g=rest.length/\z=aa pre.length/\(∃ A n cap,cM=au A n cap)/\vA w B s (au A s.bl.length cap) pre cM wr)
  case atStart=>exact⟨[],s.bl,rfl,rfl,rfl,⟨_,_,_,rfl⟩,D.o⟩
  obtain⟨pre,rest,ak,a7,rfl,⟨N,no,co,rfl⟩,f⟩:=hrel;cases rest with
  | nil=>
   have ys:¬ (pre.length:U)<(s.bl.length:U):=by rw[ak];simp
   have s':s.bl=pre:=by rw[ak,gq]
   have d1:=aX f.ld.hT;have⟨vl,m,r',r⟩:=f.ld.bl.clear underlying115 0;have u:=f.ld.Gk (L:=[]) r' r Pairwise.nil (by have fr:=f.ld.n;show((0:J):U)<=s.most;have w':(s.bl.length:U)<=s.most:=fr.1;omega);have H:=b7 f.out r (λj a e=>nQ f.out f.ld.bl a e);have sd:D1 w B s (.returned (au N no co)) vl:=by
    refine⟨_,rfl,by rw[k.o.2.2.1,s'];exact H,⟨by rw[k.o.2.2.2];exact u,rfl,rfl,rfl,λj a=>.inl a,?_⟩,λj a=>u.EN (u.sM H bs bs a)⟩;exact(f.bF.mono (T:=B.S) (λj _ a=>.inl a)).trans (r.mono (T:=B.S) (λj _ a=>.inr (.inl a)))
   have W:=ad sd;go_wp2_with ((with_reducible refine G4 m rfl rfl ?_ ?_);exact rfl);go_ret;exact W.o
  | cons e rest=>
   have ajR:pre.length<s.bl.length:=by rw[ak];simp
   have zd:(pre.length:U)<(s.bl.length:U):=I;have l:s.bl[pre.length]=e:=by simp[ak]
   have K:s.bl=(pre++[e])++rest:=by rw[ak];simp
   refine WT;have c:=f.keep l';have m:(vS pre).length<=10000:=by unfold vS;rw[iP];omega
   obtain⟨v',vs,F,y,q,M,n7,dv,rfl⟩:=Ax 32 c.out m c.bF.size ⟨3,e,0,false⟩;have E:vA w B s (au (bT ps) s.bl.length cap) (pre++[e]) (au M n7 dv) vs:=by
    refine⟨by unfold vS at y⊢;rw[k3];exact y,c.ld.keep q λj a=>c.ld.sM c.out bs bs a,c1 c.bF q (λj a e=>by have:=(c.out.lt j e).1;omega),b7 c.rx q (λj a e=>sV c.out c.rx bs e a)⟩
   have Q:=ad E;have mv:=lo lb;have g':=Oz e;have G:=BO ⟨3,e,0,false⟩ t;have X:=ad K;generalize wr.alloc (ab z9 45)=Q' at R V;generalize t.alloc (ab (dL ⟨3,e,0,false⟩) 47)=Tq at F G;clear f c ak l lb l' m y q E K;go_wp2_with first|((with_reducible refine dg m' rfl rfl ?_ ?_);exact rfl)|(with_reducible refine eL R rfl rfl ?_)|((with_reducible refine c' V rfl rfl ?_ ?_ ?_);exact rfl;exact rfl)|((with_reducible refine dg mv rfl rfl ?_ ?_);exact rfl)|((with_reducible refine uO (g' _) rfl rfl ?_ ?_ ?_);exact rfl;exact rfl)|((with_reducible refine s_ G rfl rfl ?_ ?_);exact rfl)|((with_reducible refine rU F rfl rfl ?_ ?_ ?_);exact rfl;exact rfl)
   go_roundg rest.length
   case measure=>omega
   exact⟨pre++[e],rest,X.o,rfl,tp,⟨_,_,_,rfl⟩,Q.o⟩
def cR.new(n:U):cR:=⟨n,[],λ_=>[],-1,false⟩
def MY(n:U)(aw:1<=n/\n<=256):aB 130 #[aa n] w λe w'=>e=aV #[bM (w+2),aa 0]/\da w' ⟨w+2,w.heap.size,w.heap.size+1,[]⟩ (cR.new n)/\ag aH w w'/\w'.heap.size=w.heap.size+3:=by
 have D:(w.alloc (.map #[] 0)).heap.size=w.heap.size+1:=aM;have c:((w.alloc (.map #[] 0)).alloc (.map #[] 0)).heap.size=w.heap.size+2:=aM;have N:=(gv.made (w.alloc (.map #[] 0)) prog 3 tZ).keeps (T:=aH) ((bd _).alloc (ab (qs ⟨w+2,w.heap.size,w.heap.size+1,[]⟩ (cR.new n)) 118)) id;have al:=aP ((w.alloc (.map #[] 0)).alloc (.map #[] 0)) (ab (qs ⟨w+2,w.heap.size,w.heap.size+1,[]⟩ (cR.new n)) 118);refine ed;rw[c]at al;have b:da _ ⟨w+2,w.heap.size,w.heap.size+1,[]⟩ (cR.new n):=⟨al,((gv.made w prog 43 nM).keeps (T:=aH) (((bd _).alloc (.map #[] 0)).alloc (ab (qs ⟨w+2,w.heap.size,w.heap.size+1,[]⟩ (cR.new n)) 118)) id),Pairwise.nil,⟨by show((0:J):U)<=n;omega,aw.2⟩,⟨N,λ_=>rfl,λ_ h=>nomatch h⟩,λ_=>⟨Pairwise.nil,by show 0<=64;omega,λ_ h=>nomatch h⟩,by show w.heap.size≠w.heap.size+1;omega,by show(-1:U)<=-1/\(-1:U)<=1000000;omega⟩;have a:=bN b ((((bd w).alloc (.map #[] 0)).alloc (.map #[] 0)).alloc (ab (qs ⟨w+2,w.heap.size,w.heap.size+1,[]⟩ (cR.new n)) 118));have d:=@run_makeMap prog
 go_in
 go_wp2;go_ret2;exact⟨rfl,a.o.1,a.o.2,aM⟩
def g_(us:J->J->U)(aN:U):J->J->U
 | 0=>ki aN 0
 | j+1=>jB (us 0 j) (us 1 j) (g_ us aN j)
def fe(us:J->J->U)(aN:U)(j:J):ai aE:=lu (us 0 j) (us 1 j) (g_ us aN j)
theorem F8(aN:U):∀ n,(∀ k,k<2->∀ j,j<n->us k j=dc k j)->g_ us aN n=g_ dc aN n
 | 0,_=>rfl
 | n+1,h=>by
  unfold g_;exact Vz
def Ez(aN:U)(n:J)(h:∀ k,k<2->∀ j,j<=n->us k j=dc k j):fe us aN n=fe dc aN n:=by
 unfold fe;exact Vz
theorem um(us:J->J->U){aN:U}(aA:0<=aN/\aN<=4294967295):∀ j:J,∃ r,Mid 2 j r (g_ us aN j)/\0<=r/\r<=j
 | 0=>⟨0,acQ aN aA,b4,b4⟩
 | j+1=>by
  obtain⟨r,h1,h2,b⟩:=um us aA j;obtain⟨r',a,c,d⟩:=mid_step h1 (us 0 j) (us 1 j);exact⟨r',a,I,I⟩
def af0(us:J->J->U)(aA:0<=aN/\aN<=4294967295)(j:J):g_ us aN j 0=j:=by
 have⟨r,h,_⟩:=um us aA j;exact h.f0
def tR(us:J->J->U)(aA:0<=aN/\aN<=4294967295)(j:J):fk j (fe us aN j):=by
 have h:=adX (us 0 j) (us 1 j) (g_ us aN j);rw[af0 us aA]at h;exact h
structure ck(s:ch)(F:J)(bk us:J->J->U):ae where
 jr:hP s.x F bk us (g_ us s.x.aN)
 aN:0<=s.x.aN/\s.x.aN<=4294967295
 aL:s.x.aL<2
 ot:s.x.e_<=8/\1<=s.x.eg/\s.x.eg<=16
 fO:∀ k j,0<=bk k j/\bk k j<=63
 PH:∀ k j,0<=us k j/\us k j<=63
 db:s.x.now<=dp s/\dp s<=s.x.now+s.x.e_
 ry:s.x.now<=b1 s+s.x.eg
 k_:F<=s.x.now/\s.x.now<=F+s.x.eg+2/\F<=b1 s/\b1 s<=F+64
 xV:F=0\/(F<b1 s/\F<s.x.now)
 GP:∀ j,j<s.x.now->us s.x.aL j=bk s.x.aL j
 uJ:∀ j:J,j<F\/(j:U)<=s.ld.aO->us (1-s.x.aL) j=bk (1-s.x.aL) j
 aO:-1<=s.ld.aO/\s.ld.aO<s.x.now/\s.ld.aO<b1 s
 hd:s.ld.hd=s.cn
 most:1<=s.ld.most/\s.ld.most<=256
 eV:gh s.ld.bl
 nN:(s.ld.bl.length:U)<=s.ld.most
 b8:∀ j:U,s.ld.b8 j=if s.ld.aO<j/\j<s.x.now then fe us s.x.aN j.toNat else []
 lt:∀ e∈s.ld.bl,e∈s.ld.b8 e.k.fr
def A7{bk:J->U}(h:∀ j,0<=bk j/\bk j<=63)(n j:J):0<=kP bk n j/\kP bk n j<=63:=by
 unfold kP rl;split
 .exact h j
 split
 .omega
 exact h _
def kY(x:cO)(bk us:J->J->U)(g e:J):J->J->U:=λi j=>if g<=j/\j<e then kP (bk i) (x.f i).next j else us i j
def FZ(x:cO)(n:J):(kg x n).aN=x.aN/\(kg x n).e_=x.e_/\(kg x n).eg=x.eg/\(kg x n).aL=x.aL/\(kg x n).now=x.now/\∀ i,((kg x n).f i).next=(x.f i).next:=by
 refine⟨rfl,rfl,rfl,rfl,rfl,λi=>?_⟩;show(if i<2 then qH (x.f i) n else x.f i).next=_;split<;>rfl
theorem wP(x:cO)(g:J):∀ k,(replay x g k).aN=x.aN/\(replay x g k).e_=x.e_/\(replay x g k).eg=x.eg/\(replay x g k).aL=x.aL/\(replay x g k).now=x.now/\∀ i,((replay x g k).f i).next=(x.f i).next
 | 0=>⟨rfl,rfl,rfl,rfl,rfl,λ_=>rfl⟩
 | k+1=>by
  obtain⟨a,b,c,d,e,h⟩:=wP x g k;obtain⟨bS,j,l,m,n,o⟩:=FZ (replay x g k) (g+k);exact⟨bS.trans a,j.trans b,l.trans c,m.trans d,n.trans e,λi=>(o i).trans (h i)⟩
theorem AH{x:cO}{F:J}{bk us:J->J->U}(h:hP x F bk us (g_ us x.aN)){g:J}(a7:F<=g)(d:x.now<F+64):∀ k,g+k<=x.now->hP (replay x g k) F bk (kY x bk us g (g+k)) (λj=>if j<=g+k then g_ (kY x bk us g x.now) x.aN j else g_ us x.aN j)
 | 0,_=>by
  refine h.congr (λ_ _ _ _=>rfl) (λk _ j _ _=>?_) (λj _ _=>?_)
  .unfold kY;rw[az I]
  split
  .refine F8 _ _ λk _ i av=>?_;unfold kY;rw[az I]
  rfl
 | k+1,hk=>by
  obtain⟨_,_,_,_,e,a⟩:=wP x g k;refine((AH h a7 d k I).aeV (n:=g+k) I I I).congr (λ_ _ _ _=>rfl) (λi _ j _ _=>?_) (λj _ _=>?_)
  .unfold b' kY;rw[a];split
   .rw[aD I];subst j;rfl
   split
   .rw[aD I]
   rw[az I]
  unfold b';by_cases b:j=g+k+1
  .subst b;rw[aD rfl,aD bu,a,a,aD I];show _=jB (kY x bk us g x.now 0 (g+k)) (kY x bk us g x.now 1 (g+k)) _;unfold kY;rw[aD I,aD I]
  rw[az b];by_cases c:j<=g+k
  .exact(aD c).trans (aD I).symm
  exact(az c).trans (az I).symm
def FL(h:hP x F bk us (g_ us x.aN)){g:J}(a7:F<=g)(b:x.now<F+64)(k:J)(hk:g+k<x.now):jk (replay x g k) (g+k)=fe (kY x bk us g x.now) x.aN (g+k):=by
 have h1:=AH h a7 b k I;have⟨_,_,_,_,c,a⟩:=wP x g k;unfold jk fe;rw[h1.ia I I,h1.ef (k:=0) I I,h1.ef (k:=1) I I,a,a,aD bu];unfold kY;rw[aD I,aD I]
def Yb(h:hP x F bk us (g_ us x.aN))(aA:0<=x.aN/\x.aN<=4294967295)(b:∀ k j,0<=bk k j/\bk k j<=63){g:J}(a7:F<=g)(c:x.now<F+64)(aw:x.now<=100000)(k:J)(hk:g+k<x.now):Can (replay x g k) (g+k):=by
 have h1:=AH h a7 c k I;have⟨_,_,_,_,d,f⟩:=wP x g k;have e:=h1.ia (n:=g+k) I I;refine⟨by rw[e];exact h1.st I I,?_,I,λj a=>?_,λj a=>by rw[h1.first a];omega,?_⟩
 .rw[e,aD bu];exact um _ aA _
 .rw[h1.ef a I];exact(A7 (b j) _ _).2
 rw[h1.fG];unfold gB;omega
def B2(h:gh L)(xs:ai aE):gh (gF most now L xs).1/\∀ x∈(gF most now L xs).1,x∈xs\/(x∈L/\∀ e∈xs,e.k≠x.k):=by
 refine p8
 induction xs.reverse with
 | nil=>exact⟨h,λx ak=>.inr ⟨ak,λe g=>by simp at g⟩⟩
 | cons e l b=>
  rw[p4,uA];refine⟨ahy b.1 e,λx ak=>?_⟩;have j:x=e\/(x∈(gF most now L l.reverse).1/\x.k≠e.k):=by
   have bg:=b.1;revert ak;generalize (gF most now L l.reverse).1=M at bg;intro ak;unfold nu at ak;split at ak
   .rename_i o ar;split at ak
    .rename_i i;by_cases hk:x.k=e.k
     .left;have h1:=ZS bg ak;rw[hk,ar]at h1;cases h1;exact i
     exact .inr ⟨ak,hk⟩
    exact Nf.1 ak
   rename_i ar;split at ak
   .exact .inr ⟨ak,EI ar x ak⟩
   exact Nf.1 ak
  rcases j with rfl|⟨h1,h2⟩
  .exact .inl aM
  rcases b.2 x h1 with a|⟨a,f⟩
  .exact .inl (by simp[mem_reverse.1 a])
  refine .inr ⟨a,λd hd=>?_⟩;rcases gd.1 hd with hd|hd
  .exact f d hd
  simp at hd;subst hd;exact λc=>h2 c.symm
def Pn(h:gh L)(a:(L.length:U)<=most)(xs:ai aE):((gF most now L xs).1.length:U)<=most:=by
 refine p8
 induction xs.reverse with
 | nil=>exact a
 | cons e l b=>
  rw[p4,uA];exact ahz (B2 h l.reverse).1 b e
structure xX(s:cR):ae where
 eV:gh s.bl
 nN:(s.bl.length:U)<=s.most
 lt:∀ e∈s.bl,e∈s.b8 e.k.fr
def xX.tell{s:cR}(h:xX s)(fr:U)(xs:ai aE)(ak:∀ e∈xs,e.k.fr=fr):xX (qI s fr xs):=by
 have bg:gh (jd s.bl (hS xs (hV s.bl fr))):=yb h.eV _;have o:((jd s.bl (hS xs (hV s.bl fr))).length:U)<=s.most:=by
  have:=(tP s.bl (hS xs (hV s.bl fr))).length_le
  have:=h.nN
  omega
 obtain⟨h1,h2⟩:=B2 (most:=s.most) (now:=0) bg xs;refine⟨h1,Pn bg o xs,λe m=>?_⟩;show e∈jl s.b8 fr xs e.k.fr;unfold jl;rcases h2 e m with b|⟨b,g⟩
 .rw[aD (ak e b)];exact b
 have c:=(tP _ _).subset b;rw[az]
 .exact h.lt e c
 intro n;have i:e∈hV s.bl fr:=by unfold hV;exact hN.2 ⟨c,by simpa using n⟩
 have j:stays xs e=false:=by
  rw[<-Hd];intro aA;have⟨d,hd,a⟩:=Cr.1 aA;unfold w2 at a;refine xM;exact g d hd a.1
 have l:e∈hS xs (hV s.bl fr):=by unfold hS;exact hN.2 ⟨i,by simp[j]⟩
 have f:=(hN.1 b).2;simp only[oS,tn]at f;exact f ⟨e,l,rfl⟩
def LK{α β:Type}(f:β->α->β)(b:β)(l:List α)(a:α):(l++[a]).foldl f b=f (l.foldl f b) a:=by rw[te];rfl
structure tK(s:ch)(us dc:J->J->U)(g e:J)(p:c9):ae where
 x:p.1.x=s.x
 rest:p.1={s with ld:=p.1.ld}
 aO:p.1.ld.aO=s.ld.aO
 hd:p.1.ld.hd=s.ld.hd
 most:p.1.ld.most=s.ld.most
 Bi:xX p.1.ld
 b8:∀ j:U,p.1.ld.b8 j=if s.ld.aO<j/\j<s.x.now then(if (g:U)<=j/\j<e then fe dc s.x.aN j.toNat else fe us s.x.aN j.toNat)else []
def tK.step{g e:J}(aA:0<=s.x.aN/\s.x.aN<=4294967295)(h:tK s us dc g e p)(c:g<=e)(b:e<s.x.now)(an:s.ld.aO<e):tK s us dc g (e+1) (lv s.x.now p (e,fe dc s.x.aN e)):=by
 refine⟨h.x,?_,h.aO,h.hd,h.most,h.Bi.tell _ _ λd hd=>((tR dc aA e).2.2 d hd).2,λj=>?_⟩
 .exact c6 (λq:ch=>{q with ld:=qI p.1.ld e (fe dc s.x.aN e)}) h.rest
 show jl p.1.ld.b8 e _ j=_;unfold jl;by_cases a:j=e
 .subst a;rw[aD rfl,aD ⟨an,I⟩,aD ⟨I,I⟩];rfl
 rw[az a,h.b8];split
 .by_cases h2:(g:U)<=j/\j<e
  .rw[aD h2,aD I]
  rw[az h2,az I]
 rfl
theorem Px{s:ch}{us dc:J->J->U}(aA:0<=s.x.aN/\s.x.aN<=4294967295){g:J}{P:J->J×ai aE}(b:∀ k,g+k<s.x.now->P k=(g+k,fe dc s.x.aN (g+k)))(an:s.ld.aO<g)(a:tK s us dc g g (s,[])):∀ k,g+k<=s.x.now->tK s us dc g (g+k) (((range k).map P).foldl (lv s.x.now) (s,[]))
 | 0,_=>a
 | k+1,hk=>by
  rw[th,k3,CA,LK,b k I];show tK s us dc g (g+k+1) _;exact(Px aA b an a k I).step aA I I I
def ug(h:ck s F bk us):∃ dc,ck (dt s).1 F bk dc/\(∀ j,j<s.x.now->j<b1 s->dc (1-s.x.aL) j=bk (1-s.x.aL) j)/\(∀ i j:J,(j:U)<=s.ld.aO\/j<F->dc i j=us i j)/\
  (dt s).1.x.now=s.x.now/\(dt s).1.x.aL=s.x.aL/\(dt s).1.x.e_=s.x.e_/\(dt s).1.x.eg=s.x.eg/\(dt s).1.x.aN=s.x.aN/\(∀ i,((dt s).1.x.f i).next=(s.x.f i).next)/\
  (dt s).1.aJ=s.aJ/\(dt s).1.ld.aO=s.ld.aO/\(dt s).1.cn=s.cn/\(dt s).1.cC=s.cC/\(dt s).1.own=s.own/\(dt s).1.wt=s.wt/\(dt s).1.ld.most=s.ld.most:=by
 have z:=h.aL;cases hw:hc s.x with
 | none=>
  have e:dt s=(s,[]):=by unfold dt;rw[hw]
  rw[e];refine⟨us,h,λj N u=>?_,λ_ _ _=>rfl,rfl,rfl,rfl,rfl,rfl,λ_=>rfl,rfl,rfl,rfl,rfl,rfl,rfl,rfl⟩;by_cases R:j<F
  .exact h.uJ j (.inl R)
  refine Qs λhne=>?_;have h1:kl (gK s.x).K (gK s.x).de≠none:=by
   unfold gK;rw[h.jr.K I,h.jr.de I];intro aw;refine hne (Qd _ _ _ (s.x.now-F) F (by have:=h.k_;omega) aw j _ I N ?_).symm;rw[rN,aD ⟨I,u⟩]
  exact h1 hw
 | some g=>
  have⟨g1,Z,g3,L,M⟩:=h.jr.G9 z h.k_.1 hw;have V:s.ld.aO<g:=by
   rcases Int.lt_or_le s.ld.aO g with c|c
   .exact c
   exact absurd (h.uJ g (.inr c)) M
  have S:=h.k_;have T:=h.ot;have⟨dc,b⟩:=c8 (kY s.x bk us g s.x.now);have⟨r,C,E,G,t,H⟩:=wP s.x g (s.x.now-g);have X:∀ k,g+k<s.x.now->(λj=>(g+j,jk (replay s.x g j) (g+j))) k=(g+k,fe dc s.x.aN (g+k)):=λk hk=>by
   rw[b];show(g+k,_)=_;rw[FL h.jr g1 I k hk]
  obtain⟨s1,a⟩:∃ s1:ch,s1={s with x:=replay s.x g (s.x.now-g)}:=⟨_,rfl⟩;have cf:s1.x.now=s.x.now:=by rw[a];exact t
  have d1:s1.x.aN=s.x.aN:=by rw[a];exact r
  have d:s1.ld=s.ld:=by rw[a]
  have Q:tK s1 us dc g g (s1,[]):=⟨rfl,rfl,rfl,rfl,rfl,by rw[d];exact⟨h.eV,h.nN,h.lt⟩,λj=>by rw[d,cf,d1,h.b8];split<;>first|rw[az I]|rfl⟩;have aW:=Px (s:=s1) (by rw[d1];exact h.aN) (P:=λj=>(g+j,jk (replay s.x g j) (g+j))) (λk hk=>by rw[d1];exact X k I) (by rw[d];exact V) Q (s.x.now-g) I;have e:dt s=((range (s.x.now-g)).map λj=>(g+j,jk (replay s.x g j) (g+j))).foldl (lv s1.x.now) (s1,[]):=by
   unfold dt;rw[hw,a];simp only[];rw[t];rfl
  rw[<-e]at aW;generalize dt s=p at aW;have ao:=aW.rest;have l:p.1.x=replay s.x g (s.x.now-g):=by rw[aW.x,a]
  have W:g+(s.x.now-g)=s.x.now:=I;have v:∀ i,(p.1.x.f i).next=(s.x.f i).next:=λi=>by rw[l];exact H i
  have m:p.1.x.aL=s.x.aL:=by rw[l];exact G
  have D:p.1.x.now=s.x.now:=by rw[l];exact t
  have w:p.1.x.e_=s.x.e_:=by rw[l];exact C
  have q:p.1.x.eg=s.x.eg:=by rw[l];exact E
  have y:p.1.x.aN=s.x.aN:=by rw[l];exact r
  have n:p.1.ld.aO=s.ld.aO:=by rw[aW.aO,d]
  have Y:dp p.1=dp s:=by unfold dp;rw[v,m]
  have o:b1 p.1=b1 s:=by unfold b1 gK;rw[v,m]
  have A:p.1.cn=s.cn:=by rw[ao,a]
  refine⟨dc,⟨?_,by rw[y];exact h.aN,by rw[m];exact z,by rw[w,q];exact T,h.fO,?_,by rw[D,Y,w];exact h.db,by rw[D,o,q];exact h.ry,by rw[D,o,q];exact S,by rw[D,o];exact h.xV,?_,?_,by rw[n,D,o];exact h.aO,?_,by rw[aW.most,d];exact h.most,aW.Bi.eV,aW.Bi.nN,?_,aW.Bi.lt⟩,
   λj N u=>?_,λi j N=>?_,D,m,w,q,y,v,by rw[ao,a],n,A,by rw[ao,a],by rw[ao,a],by rw[ao,a],by rw[aW.most,d]⟩
  .rw[l];refine(AH h.jr g1 I (s.x.now-g) I).congr (λ_ _ _ _=>rfl) (λi _ j _ N=>by rw[W,b]) (λj _ N=>?_);rw[aD I,b,r]
  .intro i j;rw[b];unfold kY;split
   .exact A7 (h.fO i) _ _
   exact h.PH i j
  .intro j N;rw[m,b];refine ed;unfold kY;split
   .unfold kP;rw[aD]
    have:=h.db.1
    unfold dp at this;omega
   exact h.GP j N
  .intro j N;rw[m,b];rw[n]at N;unfold kY;rw[az I];exact h.uJ j N
  .rw[aW.hd,d,A];exact h.hd
  .intro j;rw[aW.b8,n,D,y,cf,d,d1];split
   .rename_i N;by_cases c:(g:U)<=j
    .rw[aD I]
    rw[az I];have an:=h.aO;refine Ez _ _ λi _ k hk=>?_;rw[b];unfold kY;rw[az I]
   rfl
  .rw[b];unfold kY;by_cases c:g<=j
   .rw[aD ⟨c,N⟩];exact aD u
   rw[az I];by_cases B:j<F
   .exact h.uJ j (.inl B)
   exact L j I I
  rw[b];unfold kY;rw[az I]
def ck.same{s':ch}(h:ck s F bk us)(a:s'.x=s.x)(c:s'.ld=s.ld)(e:s'.cn=s.cn):ck s' F bk us:=by
 have m:dp s'=dp s:=by unfold dp;rw[a]
 have t:b1 s'=b1 s:=by unfold b1;rw[a]
 refine xA;rw[<-a,<-c,<-e,<-m,<-t]at *;exact⟨A,d,g,l,n,q,b,B,C,bS,u,w,D,E,y,G,H,z,bP⟩
def j4(s:ch)(bk us:J->J->U):ae:=∀ j,j<s.x.now->j<b1 s->us (1-s.x.aL) j=bk (1-s.x.aL) j
def K4(x:cO)(h:x.aL<2):mi x=min (x.f x.aL).next (gK x).next:=by
 unfold mi gK
 have:x.aL=0\/x.aL=1:=I
 rcases this with e|e<;>rw[e]
 exact Nat.min_comm _ _
def ck.pM(h:ck s F bk us)(aw:j4 s bk us):hc s.x=none/\dx s.x=((min (b1 s) s.x.now:J):U)-1:=by
 have a:=h.jr.G_ h.aL h.k_.1 λj _ h1 h2=>aw j h1 h2;refine⟨a,?_⟩;unfold dx;rw[a,K4 _ h.aL]
 have:=h.db
 unfold dp at this;show((min (min _ (b1 s)) s.x.now:J):U)-1=_;omega
def ck.halt(h:ck s F bk us)(r:U)(o:ai cq):ck (hC r (s,o)).1 F bk us:=by
 unfold hC;split
 .exact h
 rename_i aT;have hd:s.ld.hd=false:=by rw[h.hd];simpa using aT
 have e:iF s.ld={s.ld with hd:=true,bl:=[]}:=by unfold iF;rw[hd];rfl
 simp only[e];refine xA;exact⟨A,d,g,l,n,q,b,B,C,bS,u,w,D,rfl,y,Pairwise.nil,by show((([]:ai aE).length:J):U)<=s.ld.most;simp;omega,z,λ_ a=>nomatch a⟩
def tU(r:U)(p:c9):(hC r p).1.x=p.1.x/\(hC r p).1.aJ=p.1.aJ/\(hC r p).1.ld.aO=p.1.ld.aO/\(hC r p).1.cC=p.1.cC/\(p.1.cn=true->hC r p=p)/\(hC r p).1.cn=true/\(hC r p).1.own=p.1.own/\(hC r p).1.wt=p.1.wt/\(hC r p).1.ld.most=p.1.ld.most:=by
 unfold hC;split
 .rename_i h;exact⟨rfl,rfl,rfl,rfl,λ_=>rfl,h,rfl,rfl,rfl⟩
 rename_i h;have e:(iF p.1.ld).aO=p.1.ld.aO/\(iF p.1.ld).most=p.1.ld.most:=by
  unfold iF;split<;>exact⟨rfl,rfl⟩
 exact⟨rfl,rfl,e.1,rfl,λc=>absurd c h,rfl,rfl,rfl,e.2⟩
def ck.hold(h:ck s F bk us)(f v:U)(o:ai cq):ck (ka f v (s,o)).1 F bk us:=by
 unfold ka;split
 .split
  .exact h
  exact h.halt 13 o
 split
 .exact h.same rfl rfl rfl
 exact h
def ck.report(h:ck s F bk us)(f:J)(o:ai cq):ck (kv f (s,o)).1 F bk us:=by
 unfold kv;split
 .exact ck.hold (s:={uh s f with wt:=mZ s.wt f}) (h.same rfl rfl rfl) _ _ _
 exact h.same rfl rfl rfl
def Fh(f v:U)(p:c9):(ka f v p).1.x=p.1.x/\(ka f v p).1.aJ=p.1.aJ/\(ka f v p).1.ld.aO=p.1.ld.aO/\(ka f v p).1.cC=p.1.cC/\(ka f v p).1.own=p.1.own/\(ka f v p).1.ld.most=p.1.ld.most:=by
 unfold ka;split
 .split
  .exact⟨rfl,rfl,rfl,rfl,rfl,rfl⟩
  have⟨a,b,c,d,_,_,e,_,g⟩:=tU 13 p;exact⟨a,b,c,d,e,g⟩
 split<;>exact⟨rfl,rfl,rfl,rfl,rfl,rfl⟩
def F0(f:J)(p:c9):(kv f p).1.x=p.1.x/\(kv f p).1.aJ=np p.1.aJ f (jX (ia p.1.x f))/\(kv f p).1.ld.aO=p.1.ld.aO/\(kv f p).1.cC=p.1.cC/\(kv f p).1.ld.most=p.1.ld.most:=by
 unfold kv;split
 .have⟨a,b,c,d,_,e⟩:=Fh f ‹Int› ({uh p.1 f with wt:=mZ p.1.wt f},p.2);exact⟨a,b,c,d,e⟩
 exact⟨rfl,rfl,rfl,rfl,rfl⟩
def KX(L xs:ai aE):∀ x∈(iC L xs).1,x∈L/\∀ e∈xs,e.k≠x.k:=by
 refine p8
 induction xs.reverse with
 | nil=>exact λx ak=>⟨ak,λ_ c=>by simp at c⟩
 | cons e l f=>
  rw[p4,tN];intro x ak;obtain⟨h1,h2⟩:=hN.1 ak;simp only[oS,tn,kD,exists_eq_left]at h2;obtain⟨a,b⟩:=f x h1;refine⟨a,λd hd=>?_⟩;rcases gd.1 hd with hd|hd
  .exact b d hd
  simp at hd;subst hd;exact h2
def Ei(L xs:ai aE):(iC L xs).1.Sublist L:=by
 refine p8
 induction xs.reverse with
 | nil=>exact Sublist.refl _
 | cons e l a=>
  rw[p4,tN];exact(tP _ _).trans a
def ck.El(h:ck s F bk us)(aw:j4 s bk us)(an:s.ld.aO<dx s.x):ck {s with ld:=lh s.ld (s.ld.aO+1)} F bk us:=by
 have aA:=(h.pM aw).2;refine xA;refine⟨A,d,g,l,n,q,b,B,C,bS,u,λj a=>?_,⟨by show -1<=s.ld.aO+1;omega,by show s.ld.aO+1<s.x.now;omega,by show s.ld.aO+1<b1 s;omega⟩,E,y,G.sublist (Ei _ _),?_,λj=>?_,λe i=>?_⟩
 .rcases a with a|a
  .exact w j (.inl a)
  have a:(j:U)<=s.ld.aO+1:=a;exact aw j I I
 .have:=(Ei s.ld.bl (s.ld.b8 (s.ld.aO+1))).length_le
  show(((iC s.ld.bl (s.ld.b8 (s.ld.aO+1))).1.length:J):U)<=s.ld.most;omega
 .show jl s.ld.b8 (s.ld.aO+1) [] j=if s.ld.aO+1<j/\j<s.x.now then _ else _
  unfold jl;by_cases a:j=s.ld.aO+1
  .rw[aD a,az I]
  rw[az a,z];by_cases c:s.ld.aO<j/\j<s.x.now
  .rw[aD c,aD I]
  rw[az c,az I]
 have⟨h1,h2⟩:=KX _ _ e i;have f:=bP e h1;show e∈jl s.ld.b8 (s.ld.aO+1) [] e.k.fr;unfold jl;rw[az]
 .exact f
 intro c;rw[c]at f;exact h2 e f rfl
theorem ck.hr{s:ch}{F:J}{bk us:J->J->U}(h:ck s F bk us)(aw:j4 s bk us)(an:s.ld.aO<dx s.x)(o:ai cq):ck (hr (s,o)).1 F bk us/\(hr (s,o)).1.x=s.x/\(hr (s,o)).1.ld.aO=s.ld.aO+1/\(hr (s,o)).1.cC=s.cC/\(hr (s,o)).1.ld.most=s.ld.most:=by
 have h1:=h.El aw an;refine Dp;split
 .have⟨a,_,c,d,e⟩:=F0 (s.ld.aO+2).toNat ({s with ld:=lh s.ld (s.ld.aO+1)},o++jc s.ld (s.ld.aO+1));exact⟨h1.report _ _,a,c,d,e⟩
 exact⟨h1,rfl,rfl,rfl,rfl⟩
theorem ck.settle:∀ (n:J) {p:c9},ck p.1 F bk us->j4 p.1 bk us->dx p.1.x<=p.1.ld.aO+n->ck (gp n p).1 F bk us/\(gp n p).1.x=p.1.x/\p.1.ld.aO<=(gp n p).1.ld.aO/\((gp n p).1.cn=true\/dx p.1.x<=(gp n p).1.ld.aO)/\(gp n p).1.cC=p.1.cC/\(gp n p).1.ld.most=p.1.ld.most
 | 0,p,h,_,a=>⟨h,rfl,kA _,.inr (by show dx p.1.x<=p.1.ld.aO;omega),rfl,rfl⟩
 | n+1,p,h,aw,a=>by
  unfold gp;split
  .rename_i an;exact⟨h,rfl,kA _,by rcases an with c|c<;>simp_all,rfl,rfl⟩
  refine RG;obtain⟨d,bK,f,g,i,j⟩:=ck.settle n h1 e (by rw[h2,b];omega);exact⟨d,bK.trans h2,Co I f,by rw[<-h2];exact g,i.trans k,j.trans l⟩
def ck.free(h:ck s F bk us)(aw:j4 s bk us):ck {s with x:=eJ s.x} (if dx s.x<0 then F else(dx s.x).toNat) bk us/\s.x.now<=(if dx s.x<0 then F else(dx s.x).toNat)+s.x.eg+1/\(eJ s.x).now=s.x.now/\(eJ s.x).aL=s.x.aL/\∀ k,k<2->((eJ s.x).f k).next=(s.x.f k).next:=by
 have⟨o,aA⟩:=h.pM aw;have i:=h.aL;unfold eJ;split
 .exact⟨h.same rfl rfl rfl,by have:=h.ry;have:=h.xV;omega,rfl,rfl,λ_ _=>rfl⟩
 have c:∀ k,k<2->((tO s.x (dx s.x).toNat).f k).next=(s.x.f k).next:=λk hk=>by
  show(if k<2 then qn (s.x.f k) _ else s.x.f k).next=_;rw[aD hk];rfl
 refine⟨?_,by have:=h.ry;omega,rfl,rfl,c⟩;refine xA;have m:dp {s with x:=tO s.x (dx s.x).toNat}=dp s:=c _ i;have t:b1 {s with x:=tO s.x (dx s.x).toNat}=b1 s:=c _ (by show 1-s.x.aL<2;omega);have hk:∀ k,k<2->(dx s.x).toNat<=(s.x.f k).next:=λk hk=>by
  have:k=s.x.aL\/k=1-s.x.aL:=I
  rcases this with e|e
  .have:=b;unfold dp at this;rw[<-e]at this;omega
  have:b1 s=(s.x.f k).next:=by rw[e];rfl
  omega
 refine⟨A.cut I I hk,d,g,l,n,q,by rw[m];exact b,by rw[t];exact B,by rw[t];show _<=s.x.now/\s.x.now<=_+s.x.eg+2/\_;omega,by rw[t];show _\/_<_/\_<s.x.now;omega,u,λj a=>?_,by rw[t];exact D,E,y,G,H,z,bP⟩;rcases a with a|a
 .exact aw j I I
 exact w j (.inr a)
structure vy(c:cq):ae where
 bq:1<=c.bq/\c.bq<=4
 cL:fx c.cL=true
 eC:0<=c.eC/\c.eC<=1000000
def iy(L:ai aE):ae:=∀ e∈L,fx e=true
def Pm(most now:U)(L xs:ai aE):∀ c∈(gF most now L xs).2,∃ e∈xs,c=⟨2,e,0,false⟩\/c=⟨1,e,now-e.k.fr,false⟩:=by
 refine p8
 induction xs.reverse with
 | nil=>intro c an;cases an
 | cons e l a=>
  rw[p4,uA];intro c an;rcases gd.1 an with an|an
  .exact Vi
  refine⟨e,aM,?_⟩;revert an;unfold mH;split<;>split<;>simp<;>intro h<;>simp[h]
def Ym(L xs:ai aE):∀ c∈(iC L xs).2,∃ e∈xs,∃ p,c=⟨4,e,0,p⟩:=by
 refine p8
 induction xs.reverse with
 | nil=>intro c an;cases an
 | cons e l a=>
  rw[p4,tN];intro c an;rcases gd.1 an with an|an
  .exact Vi
  exact⟨e,aM,_,kD.1 an⟩
def Ay{k:U}(hk:1<=k/\k<=4)(a:fx e=true)(p:aY):vy ⟨k,e,0,p⟩:=⟨hk,a,by show(0:U)<=0/\(0:U)<=1000000;omega⟩
def ah1{s:cR}(b:iy s.bl){xs:ai aE}(ak:fk fr xs)(d:0<=fr)(aw:fr<=now/\now<=1000000):∀ c∈l1 s fr xs now,vy c:=λc an=>by
 rcases gd.1 an with an|an
 .obtain⟨e,a,rfl⟩:=gO.1 an;exact Ay I (b e (hN.1 (hN.1 a).1).1) _
 obtain⟨e,a,rfl|rfl⟩:=Pm _ _ _ _ c an
 .exact Ay I (ak.2.2 e a).1 _
 have:=(ak.2.2 e a).2
 exact⟨by show(1:U)<=1/\(1:U)<=4;omega,(ak.2.2 e a).1,by show 0<=now-e.k.fr/\now-e.k.fr<=1000000;omega⟩
def Yk{s:cR}{f:U}(ak:iy (s.b8 f)):∀ c∈jc s f,vy c:=λc an=>by
 obtain⟨e,a,p,rfl⟩:=Ym _ _ c an;exact Ay I (ak e a) _
def abm{s:cR}(b:iy s.bl):∀ c∈lN s,vy c:=λc an=>by
 unfold lN at an;split at an
 .cases an
 obtain⟨e,a,rfl⟩:=gO.1 an;exact Ay I (b e a) _
def iy.tell{s:cR}(b:iy s.bl){xs:ai aE}(ak:iy xs)(bg:gh s.bl):iy (qI s fr xs).bl:=λe a=>by
 have h1:=(B2 (most:=s.most) (now:=0) (yb bg (hS xs (hV s.bl fr))) xs).2 e a;rcases h1 with h1|⟨h1,_⟩
 .exact ak e h1
 exact b e ((tP _ _).subset h1)
def iy.KV{s:cR}(b:iy s.bl)(f:U):iy (lh s f).bl:=λe a=>b e (KX _ _ e a).1
def iy.halt{s:cR}(b:iy s.bl):iy (iF s).bl:=by
 unfold iF;split
 .exact b
 intro e a;cases a
def ck.GI(h:ck s F bk us)(j:U):fk j (s.ld.b8 j):=by
 rw[h.b8];split
 .rename_i an
  have:=tR us h.aN j.toNat
  have b:((j.toNat:J):U)=j:=by have:=h.aO;omega
  rwa [b]at this
 exact⟨Pairwise.nil,aM,λe a=>by cases a⟩
def ck.rp(h:ck s F bk us):iy s.ld.bl:=λe a=>((h.GI e.k.fr).2.2 e (h.lt e a)).1
structure iz(x:cO)(p:c9):ae where
 x:p.1.x=x
 hd:p.1.ld.hd=p.1.cn
 aO:-1<=p.1.ld.aO
 bl:iy p.1.ld.bl
 b8:∀ j,iy (p.1.ld.b8 j)/\(p.1.ld.b8 j).length<=64
 gR:p.1.ld.bl.length<=256
theorem iz.halt(h:iz x p)(r:U):iz x (hC r p)/\(hC r p).2.length<=p.2.length+256:=by
 unfold hC;split
 .exact⟨h,I⟩
 rename_i aT;refine⟨⟨h.x,by show(iF p.1.ld).hd=true;unfold iF;rw[(h.hd.trans (show p.1.cn=false by simpa using aT))];rfl,?_,h.bl.halt,?_,?_⟩,?_⟩
 .show -1<=(iF p.1.ld).aO;unfold iF;split<;>exact h.aO
 .show ∀ j,iy ((iF p.1.ld).b8 j)/\((iF p.1.ld).b8 j).length<=64;unfold iF;split<;>exact h.b8
 .show(iF p.1.ld).bl.length<=256;unfold iF;split
  .exact h.gR
  simp
 rw[cG];unfold lN;split
 .simp
 rw[iP];have:=h.gR;omega
def iz.hold(h:iz x p)(f v:U):iz x (ka f v p)/\(ka f v p).2.length<=p.2.length+256:=by
 unfold ka;split
 .split
  .exact⟨h,I⟩
  exact h.halt 13
 split
 .exact T4
 exact⟨h,I⟩
def iz.report(h:iz x p)(f:J):iz x (kv f p)/\(kv f p).2.length<=p.2.length+256:=by
 unfold kv;split
 .exact iz.hold (p:=({uh p.1 f with wt:=mZ p.1.wt f},p.2)) ⟨h.x,h.hd,h.aO,h.bl,h.b8,h.gR⟩ _ _
 exact T4
def KW(L xs:ai aE):(iC L xs).2.length<=xs.length:=by
 refine p8
 induction xs.reverse with
 | nil=>simp[iC]
 | cons e l a=>rw[p4,tN,uY,uY,jG,jG];omega
def iz.El(h:iz x p):iz x ({p.1 with ld:=lh p.1.ld (p.1.ld.aO+1)},p.2++jc p.1.ld (p.1.ld.aO+1))/\(p.2++jc p.1.ld (p.1.ld.aO+1)).length<=p.2.length+64:=by
 refine⟨⟨h.x,h.hd,by show -1<=p.1.ld.aO+1;have:=h.aO;omega,h.bl.KV _,λj=>?_,cu (Ei _ _).length_le h.gR⟩,?_⟩
 .show iy (jl p.1.ld.b8 (p.1.ld.aO+1) [] j)/\(jl p.1.ld.b8 (p.1.ld.aO+1) [] j).length<=64;unfold jl;split
  .exact⟨(λ_ a=>nomatch a),aM⟩
  exact h.b8 j
 have:=KW p.1.ld.bl (p.1.ld.b8 (p.1.ld.aO+1))
 have:=(h.b8 (p.1.ld.aO+1)).2
 rw[cG];unfold jc;omega
def iz.step(h:iz x p):iz x (hr p)/\(hr p).2.length<=p.2.length+320/\(hr p).1.ld.aO=p.1.ld.aO+1:=by
 have⟨h1,h2⟩:=h.El;unfold hr;dsimp only;split
 .have⟨a,b⟩:=h1.report (p.1.ld.aO+2).toNat;have⟨_,_,c,_,_⟩:=F0 (p.1.ld.aO+2).toNat ({p.1 with ld:=lh p.1.ld (p.1.ld.aO+1)},p.2++jc p.1.ld (p.1.ld.aO+1));exact⟨a,by dsimp only at b;omega,c⟩
 exact⟨h1,by dsimp only;omega,rfl⟩
def ck.B3(h:ck p.1 F bk us):iz p.1.x p:=⟨rfl,h.hd,h.aO.1,h.rp,λj=>⟨λe a=>((h.GI j).2.2 e a).1,(h.GI j).2.1⟩,by have:=h.nN;have:=h.most;omega⟩
def kq(s:ch)(bk:J->J->U)(v:U):J->J->U:=λi=>if i=s.x.aL then b' (bk s.x.aL) (dp s) v else bk i
def Fm(s:ch)(bk:J->J->U)(v:U)(i j:J)(h:i≠s.x.aL\/j≠dp s):kq s bk v i j=bk i j:=by
 unfold kq;split
 .subst i;exact jD _ _ I
 rfl
def u8_in(v:aR)(h:v.toNat<=63):0<=((v.toNat:J):U)/\((v.toNat:J):U)<=63:=I
def Ef(h:hj s=true):kO s.x=false/\s.aJ.state=1/\uL s=false:=by
 unfold hj at h;simp only[e9,hf,oS]at h;exact⟨h.2.2,h.1,h.2.1⟩
def ck.room(h:ck s F bk us)(an:kO s.x=false):s.x.now<b1 s+s.x.eg:=by
 unfold kO at an;rw[K4 _ h.aL]at an;have h1:=CL an;have h2:=h.db;unfold b1;omega
theorem ck.step(h:ck s F bk us)(aw:j4 s bk us)(Z:kO s.x=false)(mv:s.x.now<=100000)(g':s.x.now<=F+s.x.eg+1)(v:aR)(a_:v.toNat<=63)(o:ai cq):∃ dc,ck (nv (ff s v,o)).1 F (kq s bk v.toNat) dc/\j4 (nv (ff s v,o)).1 (kq s bk v.toNat) dc/\(∀ i j,j<s.x.now->dc i j=us i j)/\jk (ff s v).x s.x.now=fe dc s.x.aN s.x.now/\Can (ff s v).x s.x.now:=by
 have l':=h.room Z;have h2:=h.k_;have G:=h.aL;have X:=h.ot;have a':=h.db;have lb:=h.aO;have⟨d,g⟩:=c8 (kq s bk v.toNat);have b:hP (hI s.x s.x.aL v.toNat) F d us (g_ us s.x.aN):=by
  have:=h.jr.put G (show F<=(s.x.f s.x.aL).next by unfold dp at a';omega) v.toNat
  rw[g];exact this
 obtain⟨cm,a⟩:=c8 (hI s.x s.x.aL v.toNat);rw[<-a]at b;have R:cm.now=s.x.now:=by rw[a];rfl
 have S:cm.aL=s.x.aL:=by rw[a];rfl
 have B:cm.aN=s.x.aN:=by rw[a];rfl
 have T:cm.e_=s.x.e_:=by rw[a];rfl
 have V:cm.eg=s.x.eg:=by rw[a];rfl
 have cf:(cm.f s.x.aL).next=dp s+1:=by
  rw[a];show(fy s.x.f s.x.aL _ s.x.aL).next=_;rw[s0];rfl
 have L:(cm.f (1-s.x.aL)).next=b1 s:=by
  rw[a];show(fy s.x.f s.x.aL _ (1-s.x.aL)).next=_;rw[sZ _ _ I];rfl
 obtain⟨dc,w⟩:∃ dc:J->J->U,dc=λi=>b' (us i) s.x.now (kP (d i) (cm.f i).next s.x.now):=⟨_,rfl⟩;have hold:∀ i j,j<s.x.now->dc i j=us i j:=λi j N=>by rw[w];exact jD _ _ I
 have l:∀ i,dc i s.x.now=kP (d i) (cm.f i).next s.x.now:=λi=>by rw[w];exact ky _ _ _
 have hrun:∀ j,j<=s.x.now->g_ dc s.x.aN j=g_ us s.x.aN j:=λj N=>F8 _ _ λi _ k hk=>hold i k I;have K:=b.step I I;rw[R]at K;have H:jk cm s.x.now=fe dc s.x.aN s.x.now:=by
  unfold jk fe;rw[b.ia I I,b.ef (k:=0) I I,b.ef (k:=1) I I,hrun _ bu,l,l]
 have y:∀ k j,0<=d k j/\d k j<=63:=λk j=>by
  rw[g];unfold kq;split
  .unfold b';split
   .exact u8_in v a_
   exact h.fO _ _
  exact h.fO _ _
 have W:Can cm s.x.now:=by
  have e:=b.ia (n:=s.x.now) I I;refine⟨by rw[e];exact b.st I I,?_,I,λj N=>?_,λj N=>by rw[b.first N];omega,?_⟩
  .rw[e];exact um _ h.aN _
  .rw[b.ef N I];exact(A7 (y j) _ _).2
  rw[b.fG];unfold gB;omega
 obtain⟨q,u⟩:=c8 (nv (ff s v,o)).1;have bI:q.x={kg cm s.x.now with now:=s.x.now+1}:=by rw[u,a];rfl
 have p:q.ld=qI s.ld s.x.now (fe dc s.x.aN s.x.now):=by
  rw[u,<-H,a];rfl
 have fr:q.cn=s.cn:=by rw[u];rfl
 have P:∀ i,(q.x.f i).next=(cm.f i).next:=λi=>by rw[bI];exact(FZ cm s.x.now).2.2.2.2.2 i
 have D:q.x.now=s.x.now+1:=by rw[bI]
 have m:q.x.aL=s.x.aL:=by rw[bI];exact S
 have Q:q.x.aN=s.x.aN:=by rw[bI];exact B
 have M:q.x.e_=s.x.e_:=by rw[bI];exact T
 have A:q.x.eg=s.x.eg:=by rw[bI];exact V
 have gf:dp q=dp s+1:=by unfold dp;rw[P,m];exact cf
 have r:b1 q=b1 s:=by unfold b1 gK;rw[P,m];exact L
 have t:=xX.tell ⟨h.eV,h.nN,h.lt⟩ s.x.now (fe dc s.x.aN s.x.now) λe Y=>((tR dc h.aN s.x.now).2.2 e Y).2;rw[<-p]at t;have z:q.ld.aO=s.ld.aO:=by rw[p];rfl
 have fo:j4 q d dc:=λj N C=>by
  rw[m];refine ed;rw[r]at C;by_cases c:j=s.x.now
  .rw[c,l,L];unfold kP;rw[aD I]
  rw[hold _ _ I,g,Fm _ _ _ _ _ (.inl I)];exact aw j I C
 rw[<-g,<-u,show(ff s v).x=cm from a.symm];refine⟨dc,⟨?_,by rw[Q];exact h.aN,by rw[m];exact G,by rw[M,A];exact X,y,?_,by rw[D,gf,M];omega,by rw[D,r,A];omega,by rw[D,r,A];omega,by rw[D,r];have:=h.xV;omega,?_,?_,by rw[z,D,r];omega,by rw[p,fr];exact h.hd,by rw[p];exact h.most,t.eV,t.nN,λj=>?_,t.lt⟩,fo,hold,H,W⟩
 .rw[bI];refine K.congr (λ_ _ _ _=>rfl) (λk _ j _ _=>by rw[w]) (λj _ N=>?_);show _=g_ dc cm.aN j;rw[B];unfold b';split
  .rename_i E;rw[E];show _=jB (dc 0 s.x.now) (dc 1 s.x.now) (g_ dc s.x.aN s.x.now);rw[l,l,hrun _ bu]
  rename_i E;have N:j<=s.x.now+1:=N;exact(hrun j I).symm
 .intro i j;rw[w];simp only[];unfold b';split
  .exact A7 (y i) _ _
  exact h.PH i j
 .intro j N;rw[m];refine ed;by_cases c:j=s.x.now
  .rw[c,l,cf];unfold kP;rw[aD I]
  rw[hold _ _ I,g,Fm _ _ _ _ _ (.inr I)];exact h.GP j I
 .intro j N;rw[m];rw[z]at N;rw[hold _ _ I,g,Fm _ _ _ _ _ (.inl I)];exact h.uJ j N
 rw[z,D,Q,p];show jl s.ld.b8 s.x.now _ j=_;unfold jl;by_cases N:j=s.x.now
 .rw[aD N,aD I,N];rfl
 rw[az N,h.b8];by_cases c:s.ld.aO<j/\j<s.x.now
 .rw[aD c,aD I];exact(Ez _ _ λi _ k hk=>hold i k I).symm
 rw[az c,az I]
def ck.abb(h:ck s F bk us)(e:b1 s<F+64)(v:aR)(a_:v.toNat<=63):ck {s with x:=hI s.x (1-s.x.aL) v.toNat} F (λi=>if i=1-s.x.aL then b' (bk (1-s.x.aL)) (b1 s) v.toNat else bk i) us/\b1 {s with x:=hI s.x (1-s.x.aL) v.toNat}=b1 s+1/\dp {s with x:=hI s.x (1-s.x.aL) v.toNat}=dp s:=by
 have m:dp {s with x:=hI s.x (1-s.x.aL) v.toNat}=dp s:=by
  show(fy s.x.f (1-s.x.aL) _ s.x.aL).next=_;rw[sZ _ _ I];rfl
 have t:b1 {s with x:=hI s.x (1-s.x.aL) v.toNat}=b1 s+1:=by
  show(fy s.x.f (1-s.x.aL) _ (1-s.x.aL)).next=_;rw[s0];rfl
 refine⟨?_,t,m⟩;have hold:∀ i j,j<b1 s\/i=s.x.aL->(λi=>if i=1-s.x.aL then b' (bk (1-s.x.aL)) (b1 s) v.toNat else bk i) i j=bk i j:=λi j c=>by
  simp only[];split
  .subst i;exact jD _ _ I
  rfl
 have ao:=h.jr.put (k:=1-s.x.aL) I h.k_.2.2.1 v.toNat;refine xA;refine⟨ao,d,g,l,λk j=>?_,q,by rw[m];exact b,by rw[t];show s.x.now<=b1 s+1+s.x.eg;omega,by rw[t];show F<=s.x.now/\s.x.now<=F+s.x.eg+2/\_;omega,by rw[t];show F=0\/F<_/\F<s.x.now;omega,λj a=>?_,λj a=>?_,by rw[t];show -1<=s.ld.aO/\s.ld.aO<s.x.now/\s.ld.aO<_;omega,E,y,G,H,z,bP⟩
 .split
  .unfold b';split
   .exact u8_in v a_
   exact n _ _
  exact n _ _
 .exact(u j a).trans (hold s.x.aL j (.inr rfl)).symm
 have a:j<F\/(j:U)<=s.ld.aO:=a;exact(w j a).trans (hold (1-s.x.aL) j (.inl I)).symm
structure mP(s s':ch):ae where
 aL:s'.x.aL=s.x.aL
 e_:s'.x.e_=s.x.e_
 eg:s'.x.eg=s.x.eg
 aN:s'.x.aN=s.x.aN
 most:s'.ld.most=s.ld.most
def mP.refl(s:ch):mP s s:=⟨rfl,rfl,rfl,rfl,rfl⟩
theorem mP.trans{a b c:ch}(h:mP a b)(k:mP b c):mP a c:=⟨k.aL.trans h.aL,k.e_.trans h.e_,k.eg.trans h.eg,k.aN.trans h.aN,k.most.trans h.most⟩
def mP.halt(r:U)(p:c9):mP p.1 (hC r p).1:=by
 have h:=tU r p;exact⟨by rw[h.1],by rw[h.1],by rw[h.1],by rw[h.1],h.2.2.2.2.2.2.2.2⟩
def A5(p:c9):(gy p).1.x=p.1.x/\(gy p).1.aJ=p.1.aJ/\(gy p).1.ld.aO=p.1.ld.aO/\mP p.1 (gy p).1/\(p.1.cn=true->gy p=p)/\((gy p).1.cn=false->p.1.aJ.state≠2/\gy p=p):=by
 unfold gy;split
 .have h:=tU 12 p;exact⟨h.1,h.2.1,h.2.2.1,mP.halt 12 p,h.2.2.2.2.1,λc=>by rw[h.2.2.2.2.2.1]at c;cases c⟩
 rename_i aA;exact⟨rfl,rfl,rfl,mP.refl _,λ_=>rfl,λ_=>⟨aA,rfl⟩⟩
def ck.gone(h:ck p.1 F bk us):ck (gy p).1 F bk us:=by
 unfold gy;split
 .exact h.halt 12 p.2
 exact h
structure Ak(s:ch)(v:aR)(F:J)(bk us dc:J->J->U)(q:ch):ae where
 c4:ck q F (if eF s then kq s bk v.toNat else bk) dc
 fq:j4 q (if eF s then kq s bk v.toNat else bk) dc
 fix:mP s q
 now:q.x.now=s.x.now+(if eF s then 1 else 0)
 rv:dp q=dp s+(if eF s then 1 else 0)
 uF:b1 q=b1 s
 aO:s.ld.aO<=q.ld.aO
 sU:∀ i j:J,(j:U)<=s.ld.aO\/j<F->dc i j=us i j
def yG(h:ck s F bk us)(aT:s.cn=false)(O:s.x.now<=F+s.x.eg+1)(P:s.x.now<=100000)(v:aR)(a_:v.toNat<=63):∃ dc,Ak s v F bk us dc (fH v (dt s)).1/\(fH v (dt s)).1.cn=false/\(fH v (dt s)).1.aJ=(if eF s then lq s.aJ (dp s) v else s.aJ)/\(fH v (dt s)).1.ld.aO=s.ld.aO:=by
 have⟨E,c,K,B,g,a,m,n,o,e,p,q,t,_,_,_,l⟩:=ug h;have⟨r,w⟩:=c8 (dt s);rw[<-w]at c g a m n o e p q t l;have y:dp r.1=dp s:=by unfold dp;rw[e,a]
 have D:b1 r.1=b1 s:=by unfold b1 gK;rw[e,a]
 have cf:j4 r.1 bk E:=λj k z=>by rw[a];rw[g]at k;rw[D]at z;exact K j k z
 have b:eF s=hj r.1:=by unfold eF;rw[aT,<-w];rfl
 rw[<-w];unfold fH;by_cases an:hj r.1=true
 .rw[aD an];have⟨H,_,_⟩:=Ef an;have⟨N,bI,C,L,Q,R⟩:=c.step cf H I I v a_ r.2;have G:kq r.1 bk v.toNat=kq s bk v.toNat:=by unfold kq;rw[a,y]
  rw[G]at bI C;have ak:(nv (ff r.1 v,r.2)).1.x={kg (hI r.1.x r.1.x.aL v.toNat) r.1.x.now with now:=r.1.x.now+1}:=rfl;obtain⟨s1,s2,fF,M,S,jz⟩:=FZ (hI r.1.x r.1.x.aL v.toNat) r.1.x.now;have A:∀ i,((nv (ff r.1 v,r.2)).1.x.f i).next=((hI r.1.x r.1.x.aL v.toNat).f i).next:=λi=>by rw[ak];exact jz i
  have u:(nv (ff r.1 v,r.2)).1.x.aL=s.x.aL:=by rw[ak];exact M.trans a
  refine⟨N,⟨?_,?_,⟨u,by rw[ak];exact s2.trans m,by rw[ak];exact fF.trans n,by rw[ak];exact s1.trans o,l⟩,by rw[ak,b,an];show r.1.x.now+1=_;rw[g];rfl,?_,?_,by show s.ld.aO<=r.1.ld.aO;omega,λi j k=>?_⟩,?_,?_,?_⟩
  .rw[b,an];exact bI
  .rw[b,an];exact C
  .rw[b,an];unfold dp;rw[A,u,<-a];show(fy r.1.x.f r.1.x.aL _ r.1.x.aL).next=_;rw[s0,a];rw[e];rfl
  .unfold b1 gK;rw[A,u,<-a];show(fy r.1.x.f r.1.x.aL _ (1-r.1.x.aL)).next=_
   have:=c.aL
   rw[sZ _ _ I,e,a]
  .rw[L i j (by have:=c.aO;have:=c.k_;omega)];exact B i j k
  .show r.1.cn=false;rw[t,aT]
  .show lq r.1.aJ (dp r.1) v=_;rw[p,y,b,an];rfl
  exact q
 rw[az an];have d:hj r.1=false:=by simpa using an
 refine⟨E,⟨?_,?_,⟨a,m,n,o,l⟩,by rw[b,d,g];rfl,by rw[b,d,y];rfl,D,I,B⟩,by rw[t,aT],by rw[p,b,d];rfl,q⟩
 .rw[b,d];exact c
 rw[b,d];exact cf
theorem Ak.settle{v:aR}(h:Ak s v F bk us dc p.1):Ak s v F bk us dc (kU p).1/\((kU p).1.cn=true\/dx (kU p).1.x=(kU p).1.ld.aO):=by
 have⟨b,bK,d,a,f,e⟩:=ck.settle (dx p.1.x-p.1.ld.aO).toNat h.c4 h.fq I;unfold kU;have aw:j4 (gp (dx p.1.x-p.1.ld.aO).toNat p).1 (if eF s then kq s bk v.toNat else bk) dc:=by
  have:=h.fq
  unfold j4 b1 at *;rw[bK];exact this
 refine⟨⟨b,aw,⟨by rw[bK];exact h.fix.aL,by rw[bK];exact h.fix.e_,by rw[bK];exact h.fix.eg,by rw[bK];exact h.fix.aN,e.trans h.fix.most⟩,by rw[bK];exact h.now,by unfold dp;rw[bK];exact h.rv,by unfold b1;rw[bK];exact h.uF,Co h.aO d,h.sU⟩,?_⟩;rcases a with a|a
 .exact .inl a
 right;have h1:=b.aO;have h2:=(b.pM aw).2;have c:b1 (gp (dx p.1.x-p.1.ld.aO).toNat p).1=b1 p.1:=by unfold b1;rw[bK]
 rw[bK]at h1 h2⊢;rw[c]at h1 h2;omega
def ck.tick(h:ck s F bk us)(aT:s.cn=false)(r:s.x.now<=F+s.x.eg+1)(w:s.x.now<=100000)(v:aR)(a_:v.toNat<=63):∃ j dc,ck (c2 v s).1 j (if eF s then kq s bk v.toNat else bk) dc/\(c2 v s).1.x.now<=j+s.x.eg+1/\mP s (c2 v s).1/\(c2 v s).1.x.now=s.x.now+(if eF s then 1 else 0)/\dp (c2 v s).1=dp s+(if eF s then 1 else 0)/\b1 (c2 v s).1=b1 s/\s.ld.aO<=(c2 v s).1.ld.aO/\(c2 v s).1.aJ=(dG (dS v s).1.aJ (jg {(dS v s).1 with x:=eJ (dS v s).1.x})).2/\((c2 v s).1.cn=false->(c2 v s).1.aJ.state≠2):=by
 obtain⟨dc,y,_,_,_⟩:=yG h aT r w v a_;obtain⟨a,_⟩:=y.settle;have em:kU (fH v (dt s))=dS v s:=rfl;rw[em]at a;obtain⟨f1,f2,f3,g,k⟩:=a.c4.free a.fq;have e:c2 v s=ou (dS v s):=by unfold c2;rw[aT];rfl
 generalize dS v s=q at *;obtain⟨b,f⟩:∃ b:c9,b=({q.1 with x:=eJ q.1.x,aJ:=(dG q.1.aJ (jg {q.1 with x:=eJ q.1.x})).2},q.2):=⟨_,rfl⟩;have m:c2 v s=gy b:=by rw[e,f];rfl
 have u:ck b.1 (if dx q.1.x<0 then F else(dx q.1.x).toNat) (if eF s then kq s bk v.toNat else bk) dc:=by rw[f];exact f1.same rfl rfl rfl
 have⟨g1,l,n,o,A,p⟩:=A5 b;have d:b.1.x=eJ q.1.x:=by rw[f]
 have z:b.1.x.aL=s.x.aL:=by rw[d,g];exact a.fix.aL
 have i:(eJ q.1.x).e_=q.1.x.e_/\(eJ q.1.x).eg=q.1.x.eg/\(eJ q.1.x).aN=q.1.x.aN:=by
  unfold eJ;split<;>exact⟨rfl,rfl,rfl⟩
 have t:mP s b.1:=⟨z,by rw[d,i.1];exact a.fix.e_,by rw[d,i.2.1];exact a.fix.eg,by rw[d,i.2.2];exact a.fix.aN,by rw[f];exact a.fix.most⟩;rw[m];refine⟨_,dc,u.gone,?_,t.trans o,?_,?_,?_,?_,?_,λc=>?_⟩
 .rw[g1,d,f3,<-a.fix.eg];exact f2
 .rw[g1,d,f3];exact a.now
 .unfold dp;rw[g1,d,g,k _ a.c4.aL];exact a.rv
 .unfold b1 gK;rw[g1,d,g,k _ I];exact a.uF
 .rw[n,f];exact a.aO
 .rw[l,f]
 rw[l];exact(p c).1
def dW(m:ba):cl:=⟨(ec m).toArray⟩
def hL(cs:dd)(g:U)(a:ai ba):dd:=a.foldl (λc m=>iK c 64 g (dW m)) cs
def agG(cs:dd)(g:U)(a:ai ba)(m:ba):hL cs g (a++[m])=iK (hL cs g a) 64 g (dW m):=by
 unfold hL;exact Ab
def adC(l:ai aR)(k:J)(c:aR)(hk:k<(jW l).length)(an:c≠(jW l)[k]):opened ((jW l).set k c)=([],15):=by
 have a:((jW l).set k c).length=l.length+4:=by simp[jW,uC]
 unfold opened;rw[az I,az];intro h;have aw:((jW l).set k c).length-4=l.length:=I;rw[aw]at h;refine aij l k c hk an (((jW l).set k c).take l.length) (((jW l).set k c).drop l.length) (n_ _ _) (by simp[jW,uC]) ?_
 have:=c6 (List.drop l.length) h
 rw[<-this,jW];exact(zk aM).symm
def aji(x:aR)(b:J)(al:b<256)(a:b≠0):n3 x b≠x:=by
 intro h;have h1:=c6 UInt8.toNat h;unfold n3 at h1;rw[QG,kE (QF (n:=8) x.toNat_lt al)]at h1;have h2:=c6 (λz=>x.toNat ^^^ z) h1;rw[<-Nat.xor_assoc,Nat.xor_self,Nat.zero_xor]at h2;exact a h2
def uE{m:ba}(h:dR m):0<(dW m).size/\(dW m).size<=256:=by
 have h1:=N1 m h;have h2:=agD (pI m);unfold dW ec;omega
def ahn(m:ba)(x:U)(b:J)(al:b<256)(c:b≠0)(a:dR m):(gG (qJ (dW m) x b).data.toList).2=15/\(qJ (dW m) x b).size<=256:=by
 refine RF;have e:(qJ (dW m) x b).data.toList=(ec m).set (jC x (ec m).length) (n3 ((ec m).getD (jC x (ec m).length) 0) b):=rfl;have a7:(ec m).getD (jC x (ec m).length) 0=(ec m)[jC x (ec m).length]:=by simp[getD,gW av]
 constructor
 .rw[e,a7];unfold gG;rw[show opened ((ec m).set (jC x (ec m).length) (n3 ((ec m)[jC x (ec m).length]) b))=([],15)from(adC (pI m) (jC x (ec m).length) (n3 ((ec m)[jC x (ec m).length]) b) av (aji _ b al c))];rfl
 have f:(qJ (dW m) x b).size=(ec m).length:=by
  show((uI (ec m) x b).toArray).size=_;simp[uI]
 omega
def ahN(v:J->U):0<=jX v/\jX v<4294967296:=by
 exact yC _ _
structure fj where
 p:J->ch
 fo:J->ai aR
 st:J->ai cq
 cs:dd
def dI(l:ai cq):ai cq:=l.filter λc=>decide (c.bq=4)
def hX(k:J)(v:aR)(M:fj):fj:={p:=b' M.p k (c2 v (M.p k)).1,fo:=if eF (M.p k)then b' M.fo k (M.fo k++[v])else M.fo,st:=b' M.st k (M.st k++dI (c2 v (M.p k)).2),cs:=hL M.cs (1-(k:U)) (f' v (M.p k))}
def Bb(k:J)(t:cl)(cs:dd)(M:fj):fj:={M with p:=b' M.p k (ek t.data.toList (M.p k)).1,st:=b' M.st k (M.st k++dI (ek t.data.toList (M.p k)).2),cs:=cs}
def gn(fo:J->ai aR)(k j:J):U:=(((fo k).getD j 0).toNat:U)
structure vE(n d w:J)(se:U)(M:fj)(k F:J)(us:J->J->U)(A:J):ae where
 c4:ck (M.p k) F (gn M.fo) us
 E:(M.p k).x.now<=F+w+1
 aJ:fC n k (M.fo k) (b1 (M.p k)) A (M.p k).aJ
 rv:dp (M.p k)=(M.fo k).length
 uF:b1 (M.p k)<=(M.fo (1-k)).length
 ajF:A<=b1 (M.p (1-k))
 ajE:b1 (M.p k)<=A+(w+d)
 aL:(M.p k).x.aL=k
 dl:(M.p k).x.e_=d
 wn:(M.p k).x.eg=w
 sd:(M.p k).x.aN=se
 ng:(M.p k).cn=false->(M.p k).aJ.state≠2
 wG:(M.p k).x.now<=n
structure gi(n d w:J)(se:U)(M:fj):ae where
 ps:∀ k,k<2->∃ F us A,vE n d w se M k F us A
 oF:∀ k x,x∈M.fo k->x.toNat<=63
 yf:∀ k:J,k<2->∀ t∈M.cs.get k,∃ m,t=dW m/\j5 (w+d) (M.fo (1-k)) (b1 (M.p (1-k))) m
 wy:∀ k:J,(M.cs.get k).length<=64
 lost:0<=M.cs.lost/\M.cs.lost<=10*n
def MS{fo:J->ai aR}(h:∀ k x,x∈fo k->x.toNat<=63)(k j:J):0<=gn fo k j/\gn fo k j<=63:=by
 unfold gn;rw[n9];cases e:(fo k)[j]? with
 | none=>show(0:U)<=((0:aR).toNat:U)/\((0:aR).toNat:U)<=63;decide
 | some x=>
  have:=h k x (mK e)
  show(0:U)<=(x.toNat:U)/\(x.toNat:U)<=63;omega
def ck.YI{a:J->J->U}(h:ck s F bk us)(al:∀ k j,0<=a k j/\a k j<=63)(c:∀ k,k<2->∀ j,j<(s.x.f k).next->bk k j=a k j):ck s F a us:=by
 have hm:=h.aL;refine xA;refine⟨A.congr c (λ_ _ _ _ _=>rfl) (λ_ _ _=>rfl),d,g,l,al,q,b,B,C,bS,λj e=>(u j e).trans (c _ hm j ?_),λj e=>(w j e).trans (c _ I j ?_),D,E,y,G,H,z,bP⟩
 .unfold dp at b;omega
 unfold b1 gK at C D;omega
def MT(fo:J->ai aR)(k:J)(v:aR):gn (b' fo k (fo k++[v]))=λi=>if i=k then b' (gn fo k) (fo k).length v.toNat else gn fo i:=by
 funext i j
 unfold gn b';by_cases e:i=k
 .subst e;rw[aD rfl,aD rfl,n9,getElem?_append];by_cases h:j<(fo i).length
  .rw[aD h,az I,<-n9]
  rw[az h];by_cases h2:j=(fo i).length
  .rw[aD h2,h2,HP];rfl
  rw[az h2,uX b_];show _=(((fo i).getD j 0).toNat:U);rw[n9,uX I]
 rw[az e,az e]
def two{k:J}(h:k<2):1-k<2/\1-(1-k)=k/\1-k≠k/\(1:U)-(k:U)=((1-k:J):U):=I
def vE.cC{n b d w:J}{se:U}{M hv:fj}{k:J}{A:J}(h:vE n d w se M k F us A)(hk:k<2)(aw:n<=b)(a:hv.p k=M.p k)(e:hv.fo k=M.fo k)(al:∀ k x,x∈hv.fo k->x.toNat<=63)(g:M.fo (1-k) <+: hv.fo (1-k))(O:b1 (M.p (1-k))<=b1 (hv.p (1-k))):vE b d w se hv k F us A:=by
 have hm:=h.aL;have⟨o,q,s,t,f,L,u,v,y,bS,z,B,N⟩:=h
 have:=g.length_le
 have K:ck (M.p k) F (gn hv.fo) us:=o.YI (MS al) λi av j P=>by
  unfold gn
  have:i=k\/i=1-k:=I
  rcases this with c|c
  .rw[c,e]
  subst c;obtain⟨r,m⟩:=g;have l:j<(M.fo (1-k)).length:=by unfold b1 gK at f;rw[hm]at f;omega
  exact T0
 have H:fC b k (M.fo k) (b1 (M.p k)) A (M.p k).aJ:=by
  have⟨bP,bB,e3,e4,hA,eI,dv,gQ,fY,d1,d2,C,D,E,G⟩:=s;exact⟨bP,bB,e3,I,I,I,I,I,fY,d1,d2,C,D,E,G⟩
 exact⟨by rw[a];exact K,by rw[a];exact q,by rw[a,e];exact H,by rw[a,e];exact t,by rw[a];omega,I,by rw[a];exact u,by rw[a];exact v,by rw[a];exact y,by rw[a];exact bS,by rw[a];exact z,by rw[a];exact B,by rw[a];omega⟩
def A2(s:dd)(a:U)(L:ai cl)(k:J)(hk:k<2)(aW:jy a):(s.put a L).get k=if (k:U)=a then L else s.get k:=by
 unfold dd.put dd.get jy at *;rcases aW with rfl|rfl
 .by_cases e:(k:U)=0
  .rw[aD rfl,aD e,aD e]
  rw[aD rfl,az e,az e,az e]
 have h1:¬ (1:U)=0:=I;by_cases e:(k:U)=0
 .have h2:¬ (k:U)=1:=I;rw[az h1,aD e,aD e,az h2]
 have h2:(k:U)=1:=I;rw[az h1,az e,az e,aD h2]
def agE(s:dd)(a:U)(t:cl)(k:J)(hk:k<2)(b:(s.get k).length<=64):(∀ x∈(iK s 64 a t).get k,x∈s.get k\/((k:U)=a/\x=t))/\((iK s 64 a t).get k).length<=64/\s.lost<=(iK s 64 a t).lost/\(iK s 64 a t).lost<=s.lost+1:=by
 unfold iK;split
 .rename_i h;split
  .rename_i h2;rw[A2 _ _ _ _ hk h.1];have c:(s.put a (s.get a++[t])).lost=s.lost:=by unfold dd.put;split<;>rfl
   rw[c];refine⟨λx ak=>?_,?_,kA _,I⟩
   .split at ak
    .rename_i e;rcases gd.1 ak with ak|ak
     .rw[<-e]at ak;exact .inl ak
     exact .inr ⟨e,kD.1 ak⟩
    exact .inl ak
   split
   .rw[cG,jG];omega
   exact b
  exact⟨λx ak=>.inl ak,b,by show s.lost<=s.lost+1;omega,kA _⟩
 exact⟨λx ak=>.inl ak,b,kA _,I⟩
theorem yV(a:U)(k:J)(hk:k<2):∀ (b:ai ba) (s:dd),(s.get k).length<=64->(∀ x∈(hL s a b).get k,x∈s.get k\/((k:U)=a/\∃ m∈b,x=dW m))/\((hL s a b).get k).length<=64/\s.lost<=(hL s a b).lost/\(hL s a b).lost<=s.lost+b.length
 | [],s,c=>⟨λx ak=>.inl ak,c,kA _,by simp[hL]⟩
 | m :: r,s,c=>by
  obtain⟨h1,h2,l,n⟩:=agE s a (dW m) k hk c;obtain⟨g1,d,i,j⟩:=yV a k hk r (iK s 64 a (dW m)) h2;have e:hL s a (m :: r)=hL (iK s 64 a (dW m)) a r:=rfl;rw[e];refine⟨λx ak=>?_,d,I,by rw[eA];omega⟩;rcases g1 x ak with h|⟨h,y,a8,g⟩
  .rcases h1 x h with h|⟨h,f⟩
   .exact .inl h
   exact .inr ⟨h,m,o0,f⟩
  exact .inr ⟨h,y,lB _ a8,g⟩
variable{xs:ai aE}{m i:J}
def uc{base k m:J}{T:TypeId}(h:w.ownsRow base T k v m l)(e:v.ownBlock=some j):base<=j/\j<w.heap.size:=by
 obtain⟨A,cap,rfl,_,a⟩:=dA h;cases A with
 | none=>simp[Value.ownBlock]at e
 | some x=>
  have:=a x rfl
  rw[this.2.2]at e;cases e;exact⟨this.1,this.2.1⟩
def mD(xs:ai aE)(e:aE)(m i:J):ai aE:=if i<=m then xs.take i else xs.take m++e :: (xs.drop m).take (i-m)
def aek(e:aE)(av:i<xs.length)(h:i<m):mD xs e m (i+1)=mD xs e m i++[xs[i]]:=by
 unfold mD;rw[aD I,aD I,l7 av]
def aeh(e:aE)(av:m<xs.length):mD xs e m (m+1)=(mD xs e m m++[e])++[xs[m]]:=by
 have h:(xs.drop m).take 1=[xs[m]]:=by rw[qO av];rfl
 unfold mD;rw[az I,aD bu,xi,h];simp
def aej(e:aE)(av:i<xs.length)(h:m<i):mD xs e m (i+1)=mD xs e m i++[xs[i]]:=by
 unfold mD;rw[az I,az I,show i+1-m=(i-m)+1 by omega,l7 H2,getElem_drop];simp[show m+(i-m)=i by omega]
def FQ(e:aE)(hm:m<=xs.length)(av:i<=xs.length):(mD xs e m i).length<=i+1:=by
 unfold mD;split
 .simp;omega
 simp;omega
def aei(xs:ai aE)(e:aE):(if fQ xs e.k<xs.length then mD xs e (fQ xs e.k) xs.length else mD xs e (fQ xs e.k) xs.length++[e])=jv xs e:=by
 have:=wB xs e.k
 unfold mD jv;generalize fQ xs e.k=m at *;by_cases h:m<xs.length
 .rw[aD h,az I,o1 (l:=xs.drop m) H2]
 obtain rfl:m=xs.length:=I;rw[az h,aD bu,qS,drop_length]
def KR(a b:dD):ez b a=-ez a b:=by
 have h:∀ x y:U,dK y x=-dK x y:=λx y=>by unfold dK;split<;>split<;>omega
 unfold ez;rw[h a.fr,h a.em,h a.bq,h a.cv];simp only[lW,Int.neg_eq_zero]
 repeat' split
 all_goals first|rfl|omega
def ZD{base:J}{cs:ai aE}(ty:TypeId)(a:w.ownsRow base 45 9 v cs.length (b0 cs))(aw:cs.length<=10000)(al:base<=w.heap.size)(c:aE):∃ v' aq,(Builtin.append_ #[66,66] ty #[v,au (bT w) 1 1]).run prog (w.alloc (ab (cU c) 45))=.ok v' aq/\aq.ownsRow base 45 9 v' (cs++[c]).length (b0 (cs++[c]))/\ag (λj=>v.ownBlock=some j) w aq:=by
 have⟨i,av,f,h1,h2⟩:=yp
 obtain⟨v',aq,b,ar,a7,_,_⟩:=uU (P:=prog) (w.alloc (ab (cU c) 45)) base 66 ty 45 i _ 9 72 underlying66 av f h1 h2 rfl bs v cs.length (b0 cs) (a.alloc _) (ah w 0) 1 1 (cU c).toList rfl
  (λj u d=>by
   rw[iB,gM];exact bb (aP w (ab (cU c) 45)) xr) (fJ.1 (vV c)) k6 I b_
 refine⟨v',aq,b,?_,((ag.refl _ w).alloc _).grown a7 (λj e=>.inl e)⟩;rw[AL,vY,cG,jG];exact ar
def afM(e:aE)(W:aj):(Instr.buildSlice 66 1 #[(0,.agg (cU e))]).run prog W=.ok (au (bT W) 1 1) (W.alloc (ab (cU e) 45)):=bc
theorem M9{b:J}(h:w.heap[b]?=some (ab (cU e) 45 (0,0))):(Instr.loadAt 45 b).run prog w=.ok (.agg (cU e)) w:=
 fS (P:=prog) 45 9 b 0 (cU e) _ _ isAgg45 sizeOf45 rfl h (λj u a=>km)
structure su(w:aj)(v:ay)(xs:ai aE)(e:aE)(out:ay)(ys:ai aE)(W:aj):ae where
 bD:W.heap[w.heap.size]?=some (ab (cU e) 45 (0,0))
 row:W.ownsRow (w.heap.size+1) 45 9 out ys.length (b0 ys)
 sU:W.ownsRow 0 45 9 v xs.length (b0 xs)
 lt:∀ j,v.ownBlock=some j->j<w.heap.size
 bF:ag (λj=>w.heap.size<=j) w W
theorem su.keep(h:su w v xs e out ys W)(hk:ag aH W W'):su w v xs e out ys W':=
 ⟨hk.heap h.bD id,b7 h.row hk λ_ _=>id,b7 h.sU hk λ_ _=>id,h.lt,h.bF.trans (hk.mono λ_ _ e=>e.elim)⟩
def su.more(h:su w v xs e out ys W)(aw:ys.length<=10000)(ty:TypeId)(c:aE):∃ v' aq,(Builtin.append_ #[66,66] ty #[out,au (bT W) 1 1]).run prog (W.alloc (ab (cU c) 45))=.ok v' aq/\su w v xs e v' (ys++[c]) aq:=by
 have d:=bZ h.bD;have⟨v',aq,b,ar,hk⟩:=ZD ty h.row aw b4 c;have al:∀ j,out.ownBlock=some j->w.heap.size+1<=j:=λj a=>(uc h.row a).1;exact⟨v',aq,b,hk.heap h.bD (λe=>by have:=al _ e;omega),ar,b7 h.sU hk (λj a e=>by have:=al _ e;have:=h.lt j a;omega),h.lt,h.bF.trans (hk.mono λj _ e=>by have:=al _ e;omega)⟩
def tr(h:ww:=by rw[<-q];exact aP _ _):=h
end Go.Proofs.YtalagblioepadaaGreatDoor
