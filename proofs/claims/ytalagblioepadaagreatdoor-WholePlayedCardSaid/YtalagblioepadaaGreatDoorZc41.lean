/- The proof, part 41. -/
import Derived.Test.YtalagblioepadaaGreatDoorZc40
namespace Go.Proofs.YtalagblioepadaaGreatDoor
set_option linter.all false
open Proofs.Tryz List Go.RowKit Go.Shelf Go.Maps
set_option maxRecDepth 100000
set_option maxHeartbeats 2000000
def Aa{p:ak}(h:p:=by have:=h.fQ;omega):p:=h
def MY{p:ak}(h:p:=by
 go_wp2_with fail;refine cH 30 ?_;refine fs (λ_=>False) (.range 30) [] 0 (hP ?_);refine iu ?_;clear C N O l';have cF:=af (hZ.lO (l.o.2.2.1.trans (ba bm).drew) (hZ.same l.o.1 (Keeps.refl _ _)));go_wp2_with fail;go_ret;exact⟨⟨_,rfl⟩,cF.o⟩
 ):p:=h
def M3{p:ak}(h:p:=by
 refine d.o.mono ?_;rintro e aC ⟨aj,j⟩;have hk:=a.trans (Keeps.bD (S:=aI) aj a7);rcases j with⟨rfl,_⟩|⟨i,aw,rfl,_⟩
 .clear aj;go_wp2;go_ret;exact⟨hk,.inl rfl⟩
 clear aj;go_wp2;go_ret;exact⟨hk,.inr ⟨i,aw,rfl⟩⟩
 ):p:=h
def NG{p:ak}(h:p:=by
 have⟨a,c,h1,h2,d⟩:=h;exact⟨a,c,h1,(hk.mono λ_ _ x=>x.elim).trans h2,λj e=>(d j e).imp id λav=>b7 hk.size av⟩
 ):p:=h
def LO{p:ak}(h:p:=by
 go_wp2_with fail;go_ret;exact⟨⟨_,rfl⟩,by simpa only[cx,iT]using cF.out⟩
 ):p:=h
def sX{p:ak}(h:p:=by
 go_wp2_with fail;go_ret;exact⟨⟨_,rfl⟩,cF.o⟩
 ):p:=h
variable{w w':ai}
def RMap.Tl{P:Program}{k:TypeId}{dz:Type}{C:lu P k dz}{b:J}{M:ah (dz×ax)}[DecidableEq dz](K:Keyed P k)(h:RMap w C b M){x:dz}(c:C.ok x){t e:TypeId}(aO:P.underlying t=some (.map k e)){z:ax}(d:∀ w,(zeroValue e).run P w=.ok z w):(Instr.lookup t (.map (some b)) (C.enc x) false).run P w=.ok ((h6 M x).getD z) w:=by
 obtain⟨es,h1,h2⟩:=h.own;obtain⟨v,ps,fu,aW⟩:=h1.look_ok K aO (d w) (zd:=.held z) (zp:=[]) rfl (C.law x c);obtain⟨v2,j,i,g⟩:=h1.lookup K aO (d w) (zd:=.held z) (zp:=[]) rfl (C.law x c);have a:=h.look K c aO d;rw[fu]at a;simp only[Result.ok.injEq,Value.tuple.injEq,Array.mk.injEq,zD,and_true]at a;simp only[oc,hr,jA]at aW g;have f:=aW.1.trans g.1.symm;simp only[zt]at f;rw[i,<-f,a.1]
def IsLd.toldRow{B:dF}{s:cD}(h:IsLd w B s)(fr:aa)(b:0<=fr/\fr<=1000000):∃ v,(Instr.lookup 116 (.map (some B.hn)) (I fr) false).run prog w=.ok v w/\w.ownsRow 0 45 9 v (s.bW fr).length (bX (s.bW fr)):=by
 refine⟨_,(h.bW.1.Tl tN (x:=fr) (wf_i64 U) underlying116 (z:=aq none 0 0) (λw=>aH)),?_⟩;have a:=h.bW.2.1 fr;cases al:h6 B.M fr with
 | none=>
  rw[al]at a;rw[a];exact gI _ _ _ _
 | some u=>rw[al]at a;exact a
def IsLd.forget{B:dF}{s:cD}(h:IsLd w B s)(fr:aa)(d:0<=fr/\fr<=1000000)(ty:TypeId):∃ w',(Builtin.delete_ #[116,3] ty #[.map (some B.hn),I fr]).run prog w=.ok (aV #[]) w'/\IsLd w' {B with M:=kX B.M fr} {s with bW:=fY s.bW fr []}/\Keeps (λj=>j=B.hn) w w':=by
 have⟨w',h1,h2,b⟩:=h.bW.1.drop tN (x:=fr) (wf_i64 U) underlying116 ty;refine⟨w',h1,h.J5 h2 b (λx=>?_) (λp au=>h.bW.2.2 p (eR.1 au).1) (λx=>?_),b⟩
 .rw[GV];unfold fY;by_cases e:x=fr
  .rw[aD e,aD e]
  rw[az e,az e];have a:=h.bW.2.1 x;cases al:h6 B.M x with
  | none=>rw[al]at a;exact a
  | some u=>rw[al]at a;exact b4 a b λj c e=>mq a h.bW.1 c e
 unfold fY;split
 .exact⟨Pairwise.nil,aK,aK⟩
 exact h.bh x
def ud{base n k:J}{T T':TypeId}{v:ax}{l:ah ax}{j:J}{b:a6 ax}{z:J×J}(h:w.ownsRow base T k v n l)(a:w.heap[j]?=some (ae b T' z))(c:T≠T'):¬ v.ownBlock=some j:=λe=>by
 rcases h.2 with⟨rfl,_⟩|⟨g,cap,d,rfl,_,aJ,_⟩
 .cases e
 cases e;rw[aJ]at a;simp only[hr,wR]at a;exact c a.2.1
def O'(L xs:ah aB):(gE L xs).2.length<=xs.length:=by
 rw[<-kI xs]
 induction xs.reverse with
 | nil=>simp[gE]
 | cons e l a=>
  rw[l4,qM,cx,cx,iT,iT];omega
def E0(w:ai)(B:dF)(s:cD)(fr:aa)(e:Ending)(w':ai):ak:=
 ∃ v jD,e=aV #[v,I 0]/\w'.ownsRow w.heap.size 47 12 v (hL s fr).length (ep (hL s fr))/\xp w B w' jD (jJ s fr)/\∀ j,v.ownBlock=some j->¬ jD.S j
structure rL(w:ai)(B:dF)(s:cD)(xs:ah aB)(v:ax)(pre:ah aB)(cw:ax)(W:ai):ak where
 out:W.ownsRow w.heap.size 47 12 cw (gE s.bf pre).2.length (ep (gE s.bf pre).2)
 ld:IsLd W B {s with bf:=(gE s.bf pre).1}
 cv:Keeps (λj=>j=B.db) w W
 rx:W.ownsRow 0 45 9 v xs.length (bX xs)
theorem rL.keep{B:dF}{s:cD}{xs:ah aB}{v:ax}{pre:ah aB}{cw:ax}{W W':ai}(h:rL w B s xs v pre cw W)(hk:Keeps aI W W'):rL w B s xs v pre cw W':=
 ⟨b4 h.out hk (λ_ _=>id),h.ld.kr hk,h.cv.trans (hk.mono λ_ _ x=>x.elim),b4 h.rx hk (λ_ _=>id)⟩
structure s8(w:ai)(B:dF)(s:cD)(xs:ah aB)(v:ax)(pre:ah aB)(cw:ax)(b:J)(e:aB)(W:ai):ak where
 i:rL w B s xs v pre cw W
 bM:W.heap[b]?=some (ae (dT e) 45 (0,0))
theorem s8.keep{B:dF}{s:cD}{xs:ah aB}{v:ax}{pre:ah aB}{cw:ax}{b:J}{e:aB}{W W':ai}(h:s8 w B s xs v pre cw b e W)(hk:Keeps aI W W'):s8 w B s xs v pre cw b e W':=⟨h.i.keep hk,hk.heap h.bM id⟩
def SX{B:dF}{s:cD}(h:IsLd w B s)(aJ:s.hd=false)(fr:aa)(Z0:fr=s.aN+1)(Z':-1<=s.aN/\s.aN<=999999):aA 147 #[B.b,I fr] w (E0 w B s fr):=by
 have Q:=h.gh;unfold mV at Q;rw[aJ]at Q;have d2:=aS Q;obtain⟨v,y,V⟩:=h.toldRow fr U;obtain⟨xs,X⟩:=cO (s.bW fr);rw[<-X]at V;have R:=h.bh fr;rw[<-X]at R;have Z8:=R.2.1;have ZO:∀ e∈xs,hC e.k=true:=λe K=>(uj (R.2.2 e K).1).1;have CW:rL w B s xs v [] (aq none 0 0) w:=⟨gI _ _ _ _,h,Keeps.refl _ _,V⟩;obtain⟨A,cap,rfl,_,_⟩:=cS V;have ys:=af CW;have Z:=b6 ZO X;have Z7:=af (show ∀ j,B.S j->j<w.heap.size from λj a=>h.lt a);clear h aJ Q V R ZO CW X;subst Z0
 go_in
 go_wp2_with ((with_reducible refine ow y rfl rfl ?_ ?_ ?_);exact rfl;exact rfl);clear d2 y;go_loopg [6,34] xs.length (λg cw z wr=>∃ pre rest:ah aB,xs=pre++rest/\g=rest.length/\z=I pre.length/\(∃ A n cap,cw=aq A n cap)/\rL w B s xs (aq A xs.length cap) pre cw wr)
 case atStart=>exact⟨[],xs,rfl,rfl,rfl,⟨_,_,_,rfl⟩,ys.o⟩
 obtain⟨pre,rest,f,aZ,rfl,⟨Y,no,co,rfl⟩,d⟩:=hrel;clear ys;cases rest with
 | nil=>
  have Z9:¬ (pre.length:aa)<(xs.length:aa):=by rw[f];simp
  have sd:xs=pre:=by rw[f,e4]
  have d2:=aS d.ld.gh;obtain⟨m,Z1,r,q⟩:=d.ld.forget (s.aN+1) U 0;have d3:=aS r.gh;have f3:=bI r.gh;have eN:=(Keeps.refl (λj=>j=B.b) m).setCell (p:=ad B.b 3 ab) rfl (I (s.aN+1));have N:IsLd (m.setCell (ad B.b 3 ab) (I (s.aN+1))) {B with M:=kX B.M (s.aN+1)} (jJ s (s.aN+1)):=by
   have ZV:jJ s (s.aN+1)={s with bf:=(gE s.bf pre).1,bW:=fY s.bW (s.aN+1) [],aN:=s.aN+1}:=by unfold jJ;rw[<-Z.out.2,<-sd]
   rw[ZV];exact r.J3 (by simpa[mV]using bV r.gh 3 (I (s.aN+1))) eN rfl rfl rfl (by show -1<=s.aN+1/\s.aN+1<=1000000;omega)
  have l:=b4 d.out q (λj a e=>mq d.out d.ld.bW.1 a e);have l':=b4 l eN (λj a e=>(r.qV l bq bq a).1 e);have ZM:E0 w B s (s.aN+1) (aV #[aq Y no co,I 0]) (m.setCell (ad B.b 3 ab) (I (s.aN+1))):=by
   have ZW:hL s (s.aN+1)=(gE s.bf pre).2:=by unfold hL;rw[<-Z.out.2,<-sd]
   refine⟨_,{B with M:=kX B.M (s.aN+1)},rfl,by rw[ZW];exact l',⟨N,rfl,rfl,rfl,λj a=>?_,?_⟩,λj a=>N.A8 (N.qV l' bq bq a)⟩
   .rcases a with a|a|a|⟨p,au,a⟩
    .exact .inl (.inl a)
    .exact .inl (.inr (.inl a))
    .exact .inl (.inr (.inr (.inl a)))
    exact .inl (.inr (.inr (.inr ⟨p,(eR.1 au).1,a⟩)))
   exact((d.cv.mono (T:=B.S) (λj _ a=>.inr (.inl a))).trans (q.mono (T:=B.S) (λj _ a=>.inr (.inr (.inl a))))).trans (eN.mono (T:=B.S) (λj _ a=>.inl a))
  have ZU:=af ZM;clear f d r q eN N l l' ZM sd;go_wp2_with ((with_reducible refine De Z1 rfl rfl ?_ ?_ ?_);exact rfl;exact rfl);go_ret2;exact ZU.o
 | cons e rest=>
  have Z4:pre.length<xs.length:=by rw[f];simp
  have Z_:(pre.length:aa)<(xs.length:aa):=U;have K:xs[pre.length]=e:=by simp[f]
  have ZN:=Z.out.1 e vf;have ZR:xs=(pre++[e])++rest:=by rw[f];simp
  have Z2:=aZ;simp only[ds]at Z2;clear aZ;obtain⟨v',rfl⟩:=pa d.rx U;have g':=og (P:=prog) (enc:=aB.br) (λ_=>rfl) isAgg45 sizeOf45 d.rx pre.length Z4;rw[K]at g';have dw:=q7 wr;obtain⟨D,ps,Aw,V',aaa⟩:=tq wr e;have a':=b6 ZR ZN;generalize wr.alloc (ae z9 45)=aac at dw ps;obtain⟨F,E⟩:∃ F:ai->ak,F=λW=>s8 w B s xs (aq (some (ad v' 0 ab)) xs.length cap) pre (aq Y no co) wr.heap.size e W:=⟨_,rfl⟩;have G:F D.drew:=by rw[E];exact s8.keep ⟨d.keep V',Aw⟩ (ba D).drew
  have C:∀ {W},F W->s8 w B s xs (aq (some (ad v' 0 ab)) xs.length cap) pre (aq Y no co) wr.heap.size e W:=λt=>by rw[E]at t;exact t
  have lb:∀ {W W'},F W->Keeps aI W W'->F W':=λt hk=>by rw[E]at t⊢;exact t.keep hk
  clear E;have s':=λx:bp F=>aS ((C x.held).i.ld.gh);have vl:=λx:bp F=>aS ((C x.held).bM);have⟨o,ZJ⟩:=cO ((iZ (gE s.bf pre).1 e.k).getD vD);have⟨p,au⟩:=cO (iZ (gE s.bf pre).1 e.k).isSome;have y:∀ W,(∃ x:bp F,W=x.to)->(Instr.lookup 115 (.map (some B.db)) (aQ e.k) true).run prog W=.ok (aV #[.agg (dT o),.bool p]) W:=λW ⟨x,f⟩=>by
   rw[f,ZJ,au];exact(C x.held).i.ld.find e.k a'.o.2
  have zd:=q7 D.drew;obtain⟨m,ZP,ZX,q,aab⟩:=tq D.drew o;have zp:=lb G ((ba D.drew).alloc (ae z9 45));have H:=lb G q;have c:=af (C H);have ZL:=af au;clear d f K ZN ZR Aw V' q ZX ZJ au;go_wp2_with first|((with_reducible refine dp g' rfl rfl ?_ ?_);exact rfl)|(with_reducible refine d_ dw rfl rfl ?_)|((with_reducible refine c8 ps rfl rfl ?_ ?_ ?_);exact rfl;exact rfl)
  refine cH 13 ?_;refine cI (F) (.range 13) 0 13 ?_;refine p0 (G) (.range 10) 3 λhne=>?_
  repeat (first|(refine Lf y rfl rfl rfl rfl ?_;simp only[Act.put,c7])|go_big_quiet_step (fail))
  refine wpQuiet_nil ?_;clear hne;refine q2 10 zp (qi rfl zd) ?_;refine q2 11 H (nu rfl rfl rfl ZP) ?_;simp only[Act.put];refine h_ 12 H ?_;clear s' vl y zp H G C lb dw zd ps ZP g';have l:=c.o.i.out;have TS:(gE s.bf pre).2.length<=10000:=by
   have:=O' s.bf pre
   omega
  obtain⟨Z6,w',St,ZK,u,ZS,n7,c5,rfl⟩:=xJ 32 l TS c.o.i.cv.size ⟨4,e,0,p⟩;have ZQ:=b4 c.o.i.rx u (λj a e=>ub l c.o.i.rx bq e a);have ZH:=c.o.i.ld.keep u λj a=>c.o.i.ld.qV l bq bq a;have gf:=u.heap c.o.bM (ud l c.o.bM bq);have ZG:=cL c.o.i.cv u (λj a e=>by have:=(l.lt j e).1;omega);have bu:=(ba w').drew;have O:=ZH.kr bu;have ZY:=gf;have s':=iq (S:=aI) (w:=w'.drew) O.gh id;have vl:=iq (S:=aI) (w:=w'.drew) gf id;obtain⟨Z5,T',ZI,L⟩:=O.Kz e a'.o.2 0;have h2:=O.bf;have mv:=b4 ZK bu (λ_ _=>id);have r':=b4 ZQ bu (λ_ _=>id);have Q':rL w B s xs (aq (some (ad v' 0 ab)) xs.length cap) (pre++[e]) (aq ZS n7 c5) Z5:=by
   have m':=qM s.bf pre e;rw[<-ZL.o]at m';refine⟨?_,?_,(ZG.trans (bu.mono λ_ _ x=>x.elim)).trans L,b4 r' L (λj a e=>mq r' h2 a e)⟩
   .rw[m'];exact b4 mv L (λj a e=>mq mv h2 a e)
   rw[m'];exact ZI
  have ZT:=af Q';have Z3:=jQ c.o.bM;have ZZ:=VZ e p m;have Tq:=yZ ⟨4,e,0,p⟩ m;generalize m.alloc (ae (dk ⟨4,e,0,p⟩) 47)=aad at St Tq;clear Q' ZQ ZH gf ZG bu O ZY ZI L h2 mv r' l TS ZK u ZL c;go_wp2_with first|((with_reducible refine dp Z3 rfl rfl ?_ ?_);exact rfl)|((with_reducible refine Dd ZZ rfl rfl ?_ ?_ ?_ ?_);exact rfl;exact rfl;exact rfl)|((with_reducible refine zk Tq rfl rfl ?_ ?_);exact rfl)|((with_reducible refine wK St rfl rfl ?_ ?_ ?_);exact rfl;exact rfl)
  refine cH 7 ?_;refine fs (λ_=>False) (.range 6) [] 1 (hP ?_);refine cI (λ_=>True) [6] 0 1 ?_;refine o_ 6 trivial (Lh rfl rfl rfl T') ?_;simp only[Act.put];clear s' vl T';go_wp2_with fail;go_roundg rest.length
  case measure=>omega
  exact⟨pre++[e],rest,a'.o.1,rfl,qx,⟨_,_,_,rfl⟩,ZT.o⟩
variable{b:J}{n:aa}{c6:ax}{bQ:ah eT}
def BS(h:kL w b n c6 bQ)(k:de):aA 231 #[b,aQ k] w λe w'=>Keeps aI w w'/\(e=.returned (I (-1))\/∃ i:J,i<bQ.length/\e=.returned (I i)):=by
 have a:=((ba w).alloc (ae #[b] 105)).alloc (ae k 43);have f:(w.alloc (ae #[b] 105)).heap.size=w.heap.size+1:=aK;have c:=aX (w.alloc (ae #[b] 105)) (ae k 43);rw[f]at c;have h1:=h.keep a;have g:=bb (k:=0) (cm (aX w (ae #[b] 105)) (ae k 43)) rfl;have l:=aS h1.hd;have d:=af (KX h1.row Aa (Bz k) 296 #[.pointer (some (ad (w+1) 0 ab)),w.heap.size] (enters_of func296 aH rfl) (λW x aj=>by
  have hk:=Keeps.bD (S:=aI) aj a7;exact(TZ x.v x.ok k (w.heap.size+1) w.heap.size b n c6 (hk.heap c id) (hk.cell g id) (hk.heap h1.hd id)).mono λ_ _ aJ=>⟨aJ.1,aj.trans (aJ.2.mono aj.size)⟩))
 obtain⟨A,cap,rfl,_,_⟩:=cS h.row
 go_in
 go_wp2_with fail;generalize World.alloc (World.alloc w _) _=ao at *;exact M3
def hZ(w:ai)(b:J)(n:aa)(c6:ax)(w':ai):ak:=∃ a c,kL w' b n a c/\Keeps (λj=>j=b\/c6.ownBlock=some j) w w'/\∀ j,a.ownBlock=some j->c6.ownBlock=some j\/w.heap.size<=j
def hZ.same(h:kL w b n c6 bQ)(hk:Keeps aI w w'):hZ w b n c6 w':=⟨c6,bQ,h.keep hk,hk.mono λ_ _ x=>x.elim,λ_ a=>.inl a⟩
def hZ.lO{ao:ai}(hk:Keeps aI w ao)(h:hZ ao b n c6 w'):hZ w b n c6 w':=by
 exact NG
def kL.ne(h:kL w b n c6 bQ):∀ j,c6.ownBlock=some j->j≠b:=λj a e=>ud h.row (e▸h.hd) bq a
def Gn{x:eT}:({x.v with cut:=0}:kk).wf:=⟨x.ok.cn,x.ok.cG,x.ok.late,.inr rfl⟩
def TU(h:kL w b n c6 bQ)(k:de):aA 162 #[b,aQ k] w λe w'=>(∃ c,e=.returned (I c))/\hZ w b n c6 w':=by
 have r:=(ba w).alloc (ae k 43);have l:=aX w (ae k 43);have h1:=h.keep r;have f:=b6 h1 r
 go_in
 go_wp2_with fail;generalize w.alloc _=ao at *;refine(BS h1 k).mono ?_;rintro e aC ⟨m,E⟩;have h2:=f.out.1.keep m;have hk:=f.out.2.trans m;rcases E with rfl|⟨i,aw,rfl⟩
 .have s:=af (hZ.lO hk (hZ.same h2 (Keeps.refl _ _)));go_wp2;go_ret;exact⟨⟨_,rfl⟩,s.o⟩
 obtain⟨A,cap,rfl,_,_⟩:=cS h2.row;obtain⟨g,rfl⟩:=pa h2.row U;have hd:=h2.keep (ba aC).drew;have H:=iq (S:=aI) (w:=aC.drew) hd.hd id;obtain⟨y,q⟩:=cO bQ[i];have C:∀ W,(∃ x:g_ aI aC.drew,W=x.to)->(Instr.loadAt 175 (.pointer (some (ad g (i*12) ab)))).run prog W=.ok (.agg (mD y)) W:=λW ⟨x,G⟩=>by
  rw[G,q];exact og (P:=prog) (enc:=eT.br) (λ_=>rfl) isAgg175 sizeOf175 (b4 hd.row x.keeps (λ_ _=>id)) i aw
 have t:=af hd;clear hd q h2;go_wp2_with fail;refine cH 19 ?_;refine o7 (λ_=>False) (.range 16) [16] 2 ?_
 repeat (first|(refine ke C rfl rfl rfl ?_;simp only[Act.put,c7])|go_big_quiet_step (fail))
 refine wpQuiet_nil ?_;refine kv λK l=>?_;go_simp;refine aU ((λW=>YE y.v y.ok W) _) λbm d=>?_;refine l _ _ (c0 (d)) ?_;have a:=t.o.keep d;obtain⟨L,F,D,p⟩:=yW (P:=prog) (enc:=eT.br) (λ_=>rfl) ze sizeOf175 a.row i aw ⟨_,Gn (x:=y)⟩;have B:=(hk.trans (ba aC).drew).trans d;have u:=a.ne g rfl;have cF:=af (hZ.lO B ⟨_,bQ.set i ⟨_,Gn (x:=y)⟩,⟨p.heap a.hd (λe=>u e.symm),by rw[qp];exact D,by rw[qp];exact h.fQ⟩,p.mono λj _ e=>.inr (by rw[e];rfl),λj z=>.inl z⟩);refine fs (λ_=>False) [17] [] 1 (hP ?_);refine cI (λ_=>True) [18] 0 1 ?_;refine o_ 18 trivial (nu rfl rfl rfl F) ?_;simp only[Act.put];exact sX
section
variable{P:Program}{α:Type}{enc:α->ah ax}{k base n cap g:J}{T T':TypeId}{cg:List α}
def VK{m:J}{c:ah ax}(hk:∀ x,(enc x).length=k)(h1:∀ v∈c,v.oneCell'=true)(r:∀ w,(Go.sizeOf T').run P w=.ok m w)(h:w.ownsRow base T k (aq (some (ad g 0 ab)) n cap) n (cg.flatMap enc))(i:J)(aw:i<cg.length)(x:α)(q:enc x=c++(enc cg[i]).drop m)(al:c.length=m)(hm:m<=k):∃ w',(Instr.storeAt T' (.pointer (some (ad g (i*k) ab))) (.agg c.toArray)).run P w=.ok () w'/\w'.ownsRow base T k (aq (some (ad g 0 ab)) n cap) n ((cg.set i x).flatMap enc)/\Keeps (λj=>j=g) w w':=by
 have⟨a,rest,aZ,b,aj,ar,l,av⟩:=sg h;have⟨s1,s2⟩:=vL (enc:=enc) hk i aw;have s:a.size=i*k+k+((cg.drop (i+1)).flatMap enc).length+rest.length:=by
  rw[<-pA,b,s1];simp only[cx,s2,hk]
 have o:=q8 (P:=P) T' m g (i*k) c.toArray a T r (by simpa using al) aZ U (by simpa using h1);refine⟨_,o,?_,iG w g _⟩;have p:=wD a (i*k) c.toArray (by simp only[gW,al];omega);have f:n*k=i*k+m+((enc cg[i]).drop m++(cg.drop (i+1)).flatMap enc).length:=by rw[<-h.1,s1];simp only[cx,gm,s2,hk];omega
 refine⟨by rw[x4 i aw];simp only[cx,s2,hk];rw[<-h.1,s1];simp only[cx,s2,hk],.inr ⟨g,cap,_,rfl,aj,fl w g a _ T aZ,ar,l,by rw[p];exact av,?_⟩⟩;unfold e0;rw[x4 i aw,b,s1,f,q];simp only[gW,al];have d:enc cg[i]=(enc cg[i]).take m++(enc cg[i]).drop m:=(l5 _ _).symm;have e:=Kn ((cg.take i).flatMap enc) ((enc cg[i]).take m) ((enc cg[i]).drop m++(cg.drop (i+1)).flatMap enc) rest c s2 (by rw[gn,hk];omega) al
 rw[show(cg.take i).flatMap enc++enc cg[i]++(cg.drop (i+1)).flatMap enc++rest=(cg.take i).flatMap enc++(enc cg[i]).take m++((enc cg[i]).drop m++(cg.drop (i+1)).flatMap enc)++rest by
  conv=>lhs;rw[d]
  simp only[dD]]
 rw[e];simp only[dD]
def Jx(hk:∀ x,(enc x).length=k)(h:w.ownsRow base T k (aq (some (ad g 0 ab)) n cap) n (cg.flatMap enc))(i:J)(aw:i<cg.length)(j:J)(b:j<k){v:ax}(aW:(enc cg[i])[j]?=some v):w.cell? (ad g (i*k+j) ab)=some v:=by
 have⟨c,rest,aZ,a,_⟩:=sg h;refine bb aZ ?_;have h1:=x3 hk cg i aw j b;rw[aW]at h1;rw[<-nw,a,jU (hp.1 h1).1,h1]
end
def KM(x:eT)(e:aB)(a:fz e=true)(bd:x.v.cn.cG=e.cG):eT:=⟨{x.v with cn:=e},⟨a,by show 1<=e.cG/\e.cG<=9;rw[<-bd];exact x.ok.cG,x.ok.late,x.ok.cut⟩⟩
def TY(h:kL w b n c6 bQ)(e:aB)(F:fz e=true):aA 161 #[b,aQ e] w λr w'=>(∃ c,r=.returned (I c))/\hZ w b n c6 w':=by
 have M:=(ba w).alloc (ae e 45);have D:=aX w (ae e 45);have h1:=h.keep M;have X:=af (F▸vE e (w.alloc (ae e 45)));have q:=af (bB h1 (bB D M));have m':=h.fQ;have a':=jQ (e:=e) D;have R:=af F;clear h D h1 M F
 go_in
 go_wp2_with ((with_reducible refine dp a' rfl rfl ?_ ?_);exact rfl);generalize w.alloc _=ao at *;refine X.o.mono ?_;rintro r aC ⟨rfl,aj⟩;have t:=Keeps.bD (S:=aI) aj a7;have h2:=q.out.1.keep t;have a:=t.heap q.out.2.1 id;have hk:=q.out.2.2.trans t;have T:=af (BS h2 e.k);have vl:=aS a;have s:=af (bB h2 (bB a hk));clear aj t h2 a hk X q a';go_wp2_with fail;clear vl;refine T.o.mono ?_;rintro r bm ⟨u,sd⟩;have d:=s.out.1.keep u;have a:=u.heap s.out.2.1 id;have hk:=s.out.2.2.trans u;clear T s u;rcases sd with rfl|⟨i,aw,rfl⟩
 .have mv:=af (hZ.lO (hk.trans (ba bm).drew) (hZ.same (d.keep (ba bm).drew) (Keeps.refl _ _)));clear d hk a;go_wp2_with fail;refine cH 30 ?_;refine fs (λ_=>False) (.range 30) [] 0 (hP ?_);refine iu ?_;go_wp2_with fail;go_ret;exact⟨⟨_,rfl⟩,mv.o⟩
 obtain⟨A,cap,rfl,_,_⟩:=cS d.row;obtain⟨g,rfl⟩:=pa d.row U;have hd:=d.keep (ba bm).drew;have E:=(ba bm).drew.heap a id;obtain⟨y,z⟩:∃ y,y=bQ[i]:=⟨_,rfl⟩;have C:=iq (S:=aI) (w:=bm.drew) hd.hd id;have N:∀ x:g_ aI bm.drew,x.to.cell? (ad g (i*12+4) ab)=some (I y.v.cn.cG):=λx=>Jx (enc:=eT.br) (λ_=>rfl) (b4 hd.row x.keeps (λ_ _=>id)) i aw 4 U (by rw[z];rfl);have O:∀ x:g_ aI bm.drew,x.to.cell? (ad g (i*12+8) ab)=some (I y.v.cn.le):=λx=>Jx (enc:=eT.br) (λ_=>rfl) (b4 hd.row x.keeps (λ_ _=>id)) i aw 8 U (by rw[z];rfl);have l':=iq (S:=aI) (w:=bm.drew) E id;have ys:(i:aa)<(bQ.length:aa):=U;have v':decide ((i:aa)<0)=false:=dd U;have l:=af (bB hd (bB E (bB hk z)));obtain⟨f,L⟩:∃ f,f=y.v.cn.cG:=⟨_,rfl⟩;obtain⟨B,g'⟩:∃ B,B=y.v.cn.le:=⟨_,rfl⟩;rw[<-L]at N;rw[<-g']at O;have Q:=af L;clear hd E hk z d a L g';by_cases bd:f=e.cG
 .subst bd;by_cases H:B=e.le
  .subst H;go_wp2_with fail;refine cH 30 ?_;refine fs (λ_=>False) (.range 30) [] 0 (hP ?_);refine iu ?_;clear C N O l';have p:=l.o.1.keep (ba bm.drew).drew;have Y:=l.o.2.1;have C:=iq (S:=aI) (w:=bm.drew.drew) p.hd id;have lb:∀ W,(∃ x:g_ aI bm.drew.drew,W=x.to)->(Instr.loadAt 45 w.heap.size).run prog W=.ok (aQ e) W:=λW ⟨x,s'⟩=>by rw[s'];exact jQ (e:=e) (x.keeps.heap Y id)
   obtain⟨Aw,gf,fr,G⟩:=VK (P:=prog) (enc:=eT.br) (T':=45) (m:=9) (c:=(dT e).toList) (λ_=>rfl) (fg.1 (vC e)) sizeOf45 p.row i aw (KM y e R.out Q.o.symm) (by rw[<-l.o.2.2.2];rfl) rfl U;have Z:=(l.o.2.2.1.trans (ba bm).drew).trans (ba bm.drew).drew;have ps:g≠b:=p.ne g rfl;have cF:=af (hZ.lO Z ⟨_,bQ.set i (KM y e R.out Q.o.symm),⟨G.heap p.hd (λe=>ps e.symm),by rw[qp];exact fr,by rw[qp];exact m'⟩,G.mono λj _ e=>.inr (by rw[e];rfl),λj r'=>.inl r'⟩);clear p Y fr Z;go_wp2_with fail;refine cH 9 ?_;refine o7 (λ_=>False) (.range 8) [] 1 ?_
   repeat (first|(refine ke lb rfl rfl rfl ?_;simp only[Act.put,c7])|go_big_quiet_step (fail))
   refine wpQuiet_nil ?_;refine hP ?_;refine cI (λ_=>True) [8] 0 1 ?_;refine kx 8 λK V=>?_;refine nu rfl rfl rfl gf ?_;refine V _ _ (trivial) ?_;clear V K;simp only[Act.put];clear gf G C lb;exact sX
  have hne:(B == e.le)=false:=eu.2 H;clear H;exact MY
 have hne:(f == e.cG)=false:=eu.2 bd;have zd:(f != e.cG)=true:=D1.2 bd;have zp:decide (f=e.cG)=false:=dd bd;clear bd;exact MY
def ON(n:aa)(h:¬ (1<=n/\n<=9))(w:ai):aA 230 #[I n] w λe w'=>e=aV #[I 0,I 14]/\w=w':=by
 have aj:fU n 1 9=false:=by unfold fU;rw[<-Dp];simpa using h
 go_in
 exact L5
def T0(v:kk)(h:v.wf)(c b:J)(n:aa)(c6:ax)(hm:w.cell? (ad c 0 ab)=some (.pointer (some (ad b 0 ab))))(aj:w.heap[b]?=some (ae #[I n,I 0,c6] 177 (0,0))):aA 233 #[aQ v,c] w λr w'=>r=.returned (.bool (m_ v))/\Below w w w':=by
 have cb:=(b3 w.heap.size w).alloc bs (ae v 175);have a:=aX w (ae v 175);have g:=dK ((cb.cell (p:=ad c 0 ab) (mE w (ad c 0 ab) hm)).trans hm);have d:=af (λx:kJ (w.alloc (ae v 175))=>KY v h x.to);have l:=dK (bb (k:=0) a rfl);have m:=dK (bb (k:=1) a rfl);have q:=dK (bb (k:=2) a rfl);have s:=dK (bb (k:=3) a rfl);have t:=dK (bb (k:=4) a rfl);have u:=dK (bb (k:=5) a rfl);have y:=dK (bb (k:=6) a rfl);have z:=dK (bb (k:=7) a rfl);have A:=dK (bb (k:=8) a rfl);have B:=dK (bb (k:=9) a rfl);have C:=dK (bb (k:=10) a rfl);have D:=dK (bb (k:=11) a rfl);have i:=dK (bb (k:=1) (cm aj (ae v 175)) rfl);generalize m_ v=j at *
 go_in
 go_wp2_with fail;refine pk aH aH ?_
 repeat (go_big_quiet_step (first|(go_at_call 234;exact Calls.kl (d.o _))))
 refine wpQuiet_nil ?_;intro _ e;obtain⟨x,f⟩:=e;subst f;go_wp2_with fail;go_ret;exact⟨rfl,cb.trans (x.below.mono cb.size)⟩
def HS:∃ i z,prog.info? 175=some i/\i.zero=some z/\i.size=12/\i.bytes=96/\z.cells.size=12:=by
 have h:(prog.info? 175).map (λi=>(i.zero.map λz=>z.cells.size,i.size,i.bytes))=some (some 12,12,96):=aH;cases aJ:prog.info? 175 with
 | none=>rw[aJ]at h;cases h
 | some i=>
  rw[aJ]at h;simp only[pw,hr,jA]at h;cases a:i.zero with
  | none=>rw[a]at h;cases h.1
  | some z=>rw[a]at h;exact⟨i,z,rfl,a,h.2.1,h.2.2,by simpa using h.1⟩
def YI{base:J}{v:ax}{cs:ah eT}(ty:TypeId)(h:w.ownsRow base 175 12 v cs.length (vcs cs))(ar:cs.length<=10000)(aj:base<=w.heap.size)(c:eT):∃ v' ao,(Builtin.append_ #[71,71] ty #[v,aq (some (ad w 0 ab)) 1 1]).run prog (w.alloc (ae (mD c) 175))=.ok v' ao/\ao.ownsRow base 175 12 v' (cs++[c]).length (vcs (cs++[c]))/\Keeps (λj=>v.ownBlock=some j) w ao/\∀ j,v'.ownBlock=some j->v.ownBlock=some j\/w.heap.size<=j:=by
 have⟨i,z,aw,l,h1,h2,d⟩:=HS
 obtain⟨v',ao,k,g,aZ,_,f⟩:=wT (P:=prog) (w.alloc (ae (mD c) 175)) base 71 ty 175 i z 12 96 underlying71 aw l h1 h2 d bq v cs.length (vcs cs) (h.alloc _) (ad w 0 ab) 1 1 (mD c).toList rfl
  (λj u a=>by
   rw[h3,gC];exact bb (aX w (ae (mD c) 175)) Ae) (ze c) jY U bT
 refine⟨v',ao,k,?_,((Keeps.refl _ w).alloc _).grown aZ (λj e=>.inl e),λj b=>?_⟩
 .rw[show vcs (cs++[c])=vcs cs++(mD c).toList by simp[vcs,eT.br],cx,iT];exact g
 rcases f with e|e
 .exact .inl (e▸b)
 rw[b]at e;simp at e;omega
def wg(e:aB)(late:aa)(a:fz e=true)(bd:1<=e.cG/\e.cG<=9)(b:0<=late/\late<=1000000):eT:=⟨⟨e,late*32,-1⟩,⟨a,bd,by show 0<=late*32/\late*32<=1000000000;omega,.inl rfl⟩⟩
def o'{base k m:J}{T:TypeId}{v:ax}{l:ah ax}(h:w.ownsRow base T k v m l){j:J}(e:v.ownBlock=some j):j<w.heap.size:=by
 rcases h.2 with⟨rfl,_⟩|⟨g,cap,a,rfl,_,aJ,_⟩
 .cases e
 obtain rfl:g=j:=by simpa[Value.ownBlock]using e
 exact bP aJ
def TX(h:kL w b n c6 bQ)(e:aB)(he:fz e=true)(late:aa)(ZL:0<=late/\late<=1000000):aA 158 #[b,aQ e,I late] w λr w'=>(∃ c,r=.returned (I c))/\hZ w b n c6 w':=by
 have St:=((ba w).alloc (ae #[b] 105)).alloc (ae e 45);have ZU:(w.alloc (ae #[b] 105)).heap.size=w.heap.size+1:=aK;have q:=cm (aX w (ae #[b] 105)) (ae e 45);have g:=aX (w.alloc (ae #[b] 105)) (ae e 45);rw[ZU]at g;have h1:=h.keep St;have s:∀ j,c6.ownBlock=some j->j<w.heap.size:=λj l=>o' h.row l;have r':=aS q;have ZG:=af (he▸vE e ((w.alloc (ae #[b] 105)).alloc (ae e 45)));have ZM:=jQ (e:=e) g;have F:=b6 h1 (bB q (bB g (bB St s)));have M:=af he;have G:=af ZL;have vl:=af (bP h.hd);have ZV:decide (late<0)=false:=dd U;have ZW:decide (1073741824<late)=false:=dd U;have ZX:decide (late>1073741824)=false:=dd U;clear h q g h1 St he ZU ZL s
 go_in
 go_wp2_with ((with_reducible refine dp ZM rfl rfl ?_ ?_);exact rfl);generalize World.alloc (World.alloc w _) _=ao at *;refine aU ZG.o λaC aj=>?_;have R:=Keeps.bD (S:=aI) aj a7;have h2:=F.o.1.keep R;have q:=R.heap F.o.2.1 id;have g:=R.heap F.o.2.2.1 id;have hk:=F.o.2.2.2.1.trans R;have s:=F.o.2.2.2.2;have r':=aS q;have Z3:=aS g;have t:=b6 h2 (bB q (bB g (bB hk s)));clear aj R h2 q g hk s ZG F ZM;by_cases P:1<=e.cG/\e.cG<=9;rotate_left
 .have Y:=af (ON e.cG P aC);have cF:=af (hZ.lO t.o.2.2.2.1 (hZ.same t.o.1 (ba aC)));clear P;go_wp2_with fail;refine bA Y.o ?_;exact sX
 have Y:=af (Ax e.cG P aC);have L:=af P;have W':=af (BS t.o.1 e.k);clear P;go_wp2_with fail;refine bA Y.o ?_;go_wp2_with fail;refine W'.o.mono ?_;rintro r bm ⟨V,ZY⟩;clear r' Z3 ZV ZW ZX Y W';have X:=t.out.1.keep V;have q:=V.heap t.out.2.1 id;have g:=V.heap t.out.2.2.1 id;have hk:=t.out.2.2.2.1.trans V;have s:=t.out.2.2.2.2;clear t V;rcases ZY with rfl|⟨i,aw,rfl⟩
 rotate_left
 .have cF:=af (hZ.lO hk (hZ.same X (ba bm)));have Z4:decide (0<=(i:aa))=true:=ee U;have Z5:decide ((i:aa) >= 0)=true:=ee U;clear X q g hk s aw;exact sX
 have hd:=(ba bm).drew;have C:=X.keep hd;have D:=hd.heap q id;have Q:=hd.heap g id;have m':=C.ne;have V':=af (YF C.row (by have:=C.fQ;omega) (λx=>m_ x.v) 233 #[w.heap.size] (enters_of func233 aH rfl) (λW ZH x=>T0 x.v x.ok w.heap.size b n c6 (bb (k:=0) (ZH.heap D (λe=>oF _ (s _ e))) rfl) (ZH.heap C.hd (λe=>m' _ e rfl))));have Tq:=iq (S:=(λj=>c6.ownBlock=some j)) (w:=bm.drew) D (λe=>oF _ (s _ e));have Z2:=iq (S:=(λj=>c6.ownBlock=some j)) (w:=bm.drew) C.hd (λe=>m' _ e rfl);have d:=b6 C (bB D (bB Q (bB (hk.trans hd) (bB s m'))));clear X q g hk s hd C D Q m';go_wp2_with fail;refine cH 10 ?_;refine fs (λj=>c6.ownBlock=some j) (.range 5) [5,6] 3 ?_;refine ir (c0 (Keeps.refl _ _)) ?_;refine kv λK y=>?_;go_simp;refine V'.o.mono ?_;rintro r B ⟨v',rfl,ps,H,gf⟩;refine y _ _ (c0 (H)) ?_;clear y K;clear Tq Z2 V';have T':=d.out.2.2.2.1.mono (T:=λj=>c6.ownBlock=some j) (λ_ _ x=>x.elim) |>.trans H
 have zp:=H.heap d.out.1.hd (λe=>d.out.2.2.2.2.2 _ e rfl);have D:=H.heap d.out.2.1 (λe=>oF _ (d.out.2.2.2.2.1 _ e));have Q:=H.heap d.out.2.2.1 (λe=>by have:=d.out.2.2.2.2.1 _ e;omega);have Q':=bI zp;have z:∀ j,v'.ownBlock=some j->j≠b/\j<w.heap.size:=λj l=>⟨d.out.2.2.2.2.2 j (gf▸l),d.out.2.2.2.2.1 j (gf▸l)⟩;have E:(bQ.filter λx=>!m_ x.v).length<=64:=b7 (mH _ _) d.out.1.fQ;obtain⟨us,ZT⟩:=cO (bQ.filter λx=>!m_ x.v);rw[<-ZT]at ps E;obtain⟨A,cap,rfl,_,_⟩:=cS ps;have m:=b6 ps (bB T' (bB zp (bB D (bB Q (bB z (bB E (bB gf (bB d.out.2.2.2.2.1 d.out.2.2.2.2.2))))))));clear ps T' zp D Q z E gf d H ZT;have bo:=aS m.o.2.2.1;refine fs (λ_=>False) [7,8] [] 1 (hP ?_);refine cI (λ_=>True) [9] 0 1 ?_;refine h_ 9 trivial ?_;clear bo Q';have Aw:=bV m.o.2.2.1 2 (aq A us.length cap);simp only[c7]at Aw;have eN:Keeps (λj=>j=b\/c6.ownBlock=some j) B (B.setCell (ad b 2 ab) (aq A us.length cap)):=(Keeps.refl _ B).setCell (.inl rfl) (aq A us.length cap);have er:Keeps (λj=>j=b) B (B.setCell (ad b 2 ab) (aq A us.length cap)):=(Keeps.refl (λj=>j=b) B).setCell (p:=ad b 2 ab) rfl (aq A us.length cap);have ZP:=b4 m.o.1 er (λj l e=>(m.o.2.2.2.2.2.1 j l).1 e);have Z:=er.heap m.o.2.2.2.1 (λe=>by have:=vl.out;omega);have zd:=er.heap m.o.2.2.2.2.1 (λe=>by have:=vl.out;omega);have N:kL (B.setCell (ad b 2 ab) (aq A us.length cap)) b n (aq A us.length cap) us:=⟨Aw,ZP,m.o.2.2.2.2.2.2.1⟩;have mv:=(m.o.2.1.mono (T:=λj=>j=b\/c6.ownBlock=some j) (λ_ _ x=>.inr x)).trans eN;have z:=m.o.2.2.2.2.2.1;have g':=m.o.2.2.2.2.2.2.2.1;clear Aw eN er ZP m;generalize B.setCell (ad b 2 ab) (aq A us.length cap)=f at *;have r':=aS Z;have Z0:=aS N.hd;by_cases E:64<=us.length
 .have cF:=af (show hZ w b n c6 f from⟨_,us,N,mv,λj l=>.inl (g'▸l)⟩);have aZ:decide ((64:aa)<=(us.length:aa))=true:=ee U;have TS:decide ((us.length:aa) >= (64:aa))=true:=ee U;clear N Z zd mv z g' E;exact sX
 have aZ:decide ((64:aa)<=(us.length:aa))=false:=dd U;have TS:decide ((us.length:aa) >= (64:aa))=false:=dd U;have l':=(ba f).drew;have O:=N.keep l';have⟨v2,sd,a',ZQ,ZJ,ZI⟩:=YI 71 O.row U (c' _) (wg e late M.out L.out G.out);have ZO:=O.ne;have ZN:∀ W,(∃ x:g_ (λj=>(aq A us.length cap).ownBlock=some j) f.drew,W=x.to)->(Instr.loadAt 45 (w.heap.size+1:J)).run prog W=.ok (aQ e) W:=λW ⟨x,ZZ⟩=>by
  rw[ZZ];exact jQ (e:=e) (x.keeps.heap (l'.heap zd id) (λe=>by have:=(z _ e).2;omega))
 have Tq:=iq (S:=(λj=>(aq A us.length cap).ownBlock=some j)) (w:=f.drew) (l'.heap Z id) (λe=>oF _ (z _ e).2);have Z1:=iq (S:=(λj=>(aq A us.length cap).ownBlock=some j)) (w:=f.drew) O.hd (λe=>ZO _ e rfl);have ZK:Keeps (λj=>(aq A us.length cap).ownBlock=some j) f.drew (f.alloc (ae #[I e.k.fr,I e.k.em,I e.k.bL,I e.k.cq,I e.cG,I e.dr,I e.et,I e.dJ,I e.le,I 0,I (late*32),I (-1)] 175)).drew:=(Keeps.refl (λj=>(aq A us.length cap).ownBlock=some j) f.drew).alloc (ae #[I e.k.fr,I e.k.em,I e.k.bL,I e.k.cq,I e.cG,I e.dr,I e.et,I e.dJ,I e.le,I 0,I (late*32),I (-1)] 175);have a':(Builtin.append_ #[71,71] 71 #[aq A us.length cap,aq (some (ad f 0 ab)) 1 1]).run prog (f.alloc (ae #[I e.k.fr,I e.k.em,I e.k.bL,I e.k.cq,I e.cG,I e.dr,I e.et,I e.dJ,I e.le,I 0,I (late*32),I (-1)] 175)).drew=.ok v2 sd:=a';have a:=b6 O (bB ZQ (bB ZJ (bB ZI (bB mv (bB z (bB g' E))))));clear N Z zd mv z g' E O ZQ ZJ ZI ZO l';go_wp2_with fail;clear r' Z0 aZ TS;refine cH 18 ?_;refine o7 (λj=>(aq A us.length cap).ownBlock=some j) (.range 13) [13,14] 3 ?_
 repeat (first|(refine ke ZN rfl rfl rfl ?_;simp only[Act.put,c7])|go_big_quiet_step (fail))
 refine wpQuiet_nil ?_;refine gi λK y=>?_;go_simp;have hw:wrap64 (late*32)=late*32:=by have:=G.out;unfold wrap64;omega
 rw[hw];refine y _ _ (c0 (ZK)) ?_;clear y K;refine kv λK y=>?_;refine Lib.wp_append_run _ (.tmp 55) (.tmp 64) 71 71 rfl _ _ rfl rfl _ _ a' ?_;refine y _ _ (c0 (a.o.2.2.1)) ?_;clear y K;clear Tq Z1 ZN ZK hw a';obtain⟨s',ys,rfl,_,_⟩:=cS a.o.2.1;have lb:=a.o.2.2.1.heap a.o.1.hd (λe=>a.o.1.ne _ e rfl);have Q':=bI lb;have bo:=aS lb;simp only[Act.put,c7];refine fs (λ_=>False) [15,16] [] 1 (hP ?_);refine cI (λ_=>True) [17] 0 1 ?_;refine h_ 17 trivial ?_;clear bo Q';have eN:Keeps (λj=>j=b\/(aq A us.length cap).ownBlock=some j) f.drew (sd.setCell (ad b 2 ab) (.slice s' (us++[wg e late M.out L.out G.out]).length ys)):=(a.o.2.2.1.mono (λ_ _ x=>.inr x)).trans ((Keeps.refl _ sd).setCell (.inl rfl) _);have CW:=bV lb 2 (.slice s' (us++[wg e late M.out L.out G.out]).length ys);simp only[c7]at CW;have ZS:w.heap.size<=f.heap.size:=a.o.2.2.2.2.1.size;have ZR:=b4 (S:=λj=>j=b) a.o.2.1 ((Keeps.refl (λj=>j=b) sd).setCell (p:=ad b 2 ab) rfl (.slice s' (us++[wg e late M.out L.out G.out]).length ys)) (λj l e=>by
  subst e;rcases a.out.2.2.2.1 _ l with u|u
  .exact a.out.1.ne _ u rfl
  .have:=vl.out
   simp at u;omega)
 have cF:=af (show hZ w b n c6 _ from⟨_,us++[wg e late M.out L.out G.out],⟨CW,ZR,by have:=a.out.2.2.2.2.2.2.2;simp;omega⟩,(a.out.2.2.2.2.1.trans (k2 (ba f).drew)).trans (eN.mono λj _ x=>x.imp id λu=>a.out.2.2.2.2.2.2.1▸u),λj l=>by
  rcases a.out.2.2.2.1 _ l with u|u
  .exact .inl (a.out.2.2.2.2.2.2.1▸u)
  .exact .inr (b7 ZS u)⟩)
 clear lb eN CW ZS ZR a;exact LO
structure lr(w:ai)(b:J)(dg:ax)(ps:ah dI):ak where
 hd:w.heap[b]?=some (ae #[dg] 291 (0,0))
 row:w.ownsRow 0 296 10 dg ps.length (dZ ps)
 fQ:ps.length<=32
def lr.keep{b:J}{dg:ax}{ps:ah dI}(h:lr w b dg ps)(hk:Keeps aI w w'):lr w' b dg ps:=⟨hk.heap h.hd id,b4 h.row hk (λ_ _=>id),h.fQ⟩
def lr.ne{b:J}{dg:ax}{ps:ah dI}(h:lr w b dg ps):∀ j,dg.ownBlock=some j->j≠b:=λj a e=>ud h.row (e▸h.hd) bq a
def iz(w:ai)(b:J)(dg:ax)(w':ai):ak:=∃ a c,lr w' b a c/\Keeps (λj=>j=b\/dg.ownBlock=some j) w w'/\∀ j,a.ownBlock=some j->dg.ownBlock=some j\/w.heap.size<=j
def iz.same{b:J}{dg:ax}{ps:ah dI}(h:lr w b dg ps)(hk:Keeps aI w w'):iz w b dg w':=⟨dg,ps,h.keep hk,hk.mono λ_ _ x=>x.elim,λ_ a=>.inl a⟩
def iz.lO{b:J}{dg:ax}{ao:ai}(hk:Keeps aI w ao)(h:iz ao b dg w'):iz w b dg w':=by
 exact NG
def QB(p:dI)(k:de)(er:J)(hk:w.heap[er]?=some (ae k 43 (0,0))):aA 299 #[aQ p,er] w λr w'=>r=.returned (.bool (decide (p.k=k)))/\Below w w w':=by
 have a:=aX w (ae p 296);have c:=aS (cm hk (ae p 296));have b:=AR p.k k
 go_in
 go_wp2;go_ret;exact⟨rfl,((b3 w.heap.size w).alloc bs (ae p 296))⟩
def r9(f:aa)(p:dI):aY:=decide (p.tE<=wrap64 (f-p.k.fr))&&(p.Km == 0 || decide (15<=wrap64 (f-p.k.fr)))
def QC(p:dI)(f:aa)(w:ai):aA 155 #[aQ p,I f] w λr w'=>r=.returned (.bool (r9 f p))/\Below w w w':=by
 have a:=aS (aX w (ae p 296));have gX:=af ((b3 w.heap.size w).alloc bs (ae p 296))
 go_in
 go_upto_region 1 with fail
 generalize World.alloc w _=ao at *;go_wp2
 all_goals
  go_ret;refine⟨?_,gX.o⟩;unfold r9;simp[*]<;>omega
def kM(w:ai):ak:=∀ j,j<40->∃ v,w.cell? (ad 0 j ab)=some (I v)
def kM.keep{T:J->ak}(h:kM w)(hk:Keeps T w w')(a:¬ T 0):kM w':=λj b=>by
 obtain⟨v,aW⟩:=h j b;exact⟨v,hk.cell aW a⟩
def Tk(h:kM w)(k:J)(hk:k<10):∃ a b c d:aa,∀ o,o=k*4->(Instr.loadAt 294 (.pointer (some (ad 0 o ab)))).run prog w=.ok (aQ #[I a,I b,I c,I d]) w:=by
 have⟨a,bd⟩:=h (k*4) U;have⟨b,aj⟩:=h (k*4+1) U;have⟨c,al⟩:=h (k*4+2) U;have⟨d,hd⟩:=h (k*4+3) U;refine⟨a,b,c,d,λo f=>?_⟩;subst f;have h:=wU (P:=prog) w (ad 0 (k*4) ab) [I a,I b,I c,I d] (λj v e=>by
  rw[h3]
  match j,e with
  | 0,e=>cases e;exact bd
  | 1,e=>cases e;exact aj
  | 2,e=>cases e;exact al
  | 3,e=>cases e;exact hd)
 simp only[ds,e_]at h;simp only[Instr.loadAt,Instr.sureAddr,loadVar,hG,ig,hq,isAgg294,sizeOf294,if_true];simp only[gC,Nat.reduceAdd]at h;rw[h];rfl
def GO(h:kM w)(k:aa):aA 235 #[I k] w λr w'=>(∃ a b c d:aa,r=.returned (aQ #[I a,I b,I c,I d]))/\Below w w w':=by
 have j:(Instr.alloc 294 true (aV #[])).run prog w=.ok w.heap.size (w.alloc (ae z4 294)):=aH;have p:=aX w (ae z4 294);have hne:w.heap.size≠0:=λe=>by
  obtain⟨v,aW⟩:=h 0 U
  have:=mE _ _ aW
  omega
 have fin:∀ a b c d:aa,∃ W,(Instr.storeAt 294 w.heap.size (aQ #[I a,I b,I c,I d])).run prog (w.alloc (ae z4 294))=.ok () W/\W.heap[w.heap.size]?=some (ae #[I a,I b,I c,I d] 294 (0,0))/\Below w w W:=λa b c d=>by
  obtain⟨h1,h2,q⟩:=dP (w.alloc (ae z4 294)) 294 4 w.heap.size #[I a,I b,I c,I d] _ sizeOf294 rfl rfl p rfl;exact⟨_,h1,fl _ _ _ _ _ p,(cL ((ba w).alloc (ae z4 294)) q a7).below bs (λ_ _ e=>e)⟩
 by_cases hk:0<=k/\k<10
 .obtain⟨n,rfl⟩:∃ n:J,k=n:=⟨k.toNat,U⟩;have ar:n<10:=U;obtain⟨a,b,c,d,s⟩:=Tk (h.keep ((ba w).alloc (ae z4 294)) id) n ar;obtain⟨W,g,i,l⟩:=fin a b c d;have d1:=dd U;have d2:=dd U;have t:=dd U;have f:=b6 i l;generalize w.alloc (ae z4 294)=ao at *
  go_in
  go_wp2_with first|refine d_ j rfl rfl ?_|((with_reducible refine dp (s _ rfl) rfl rfl ?_ ?_);exact rfl)|refine c8 g rfl rfl rfl rfl ?_
  have m:=dx _ _ _ _ f.o.1 4 rfl;refine dq (v:=aQ #[I a,I b,I c,I d]) m ?_;exact⟨⟨_,_,_,_,rfl⟩,f.o.2⟩
 have⟨W,g,i,l⟩:=fin 0 0 0 0;have f:=b6 i l;generalize w.alloc (ae z4 294)=ao at *;by_cases hk:k<0
 .have d1:=ee hk
  go_in
  go_wp2_with first|refine d_ j rfl rfl ?_|refine c8 g rfl rfl rfl rfl ?_
  have m:=dx _ _ _ _ f.o.1 4 rfl;refine dq (v:=aQ z4) m ?_;exact⟨⟨_,_,_,_,rfl⟩,f.o.2⟩
 have d1:=dd hk
 go_in
 go_wp2_with first|refine d_ j rfl rfl ?_|refine c8 g rfl rfl rfl rfl ?_
 refine dq (v:=aQ z4) (dx _ _ _ _ f.o.1 4 rfl) ?_;exact⟨⟨_,_,_,_,rfl⟩,f.o.2⟩
variable{dg:ax}{ps:ah dI}
def GN(h:lr w b dg ps)(k:de):aA 236 #[b,aQ k] w λe w'=>Keeps aI w w'/\(e=.returned (I (-1))\/∃ i:J,i<ps.length/\e=.returned (I i)):=by
 have a:=(ba w).alloc (ae k 43);have h1:=h.keep a;have c:=aS h1.hd;have d:=af (I6 h1.row Aa (λp=>decide (p.k=k)) 299 #[w.heap.size] (enters_of func299 aH rfl) (λW x aj=>by
  have hk:=Keeps.bD (S:=aI) aj a7;exact(QB x k w.heap.size (hk.heap (aX w (ae k 43)) id)).mono λ_ _ aJ=>⟨aJ.1,aj.trans (aJ.2.mono aj.size)⟩))
 obtain⟨A,cap,rfl,_,_⟩:=cS h.row
 go_in
 go_wp2_with fail;generalize World.alloc w _=ao at *;exact M3
def Qy(w:ai):aA 132 #[] w λe w'=>e=.returned w.heap.size/\w'=w.alloc (ae #[aq none 0 0] 291):=by
 go_in
 go_wp2;go_ret;exact⟨rfl,rfl⟩
def P5(a b c d:aa)(w:ai):∃ r,(binOp .eql 294 (aQ #[I a,I b,I c,I d]) (aQ z4)).run prog w=.ok (.bool r) w:=by
 refine⟨a == 0&&(b == 0&&(c == 0&&d == 0)),?_⟩;simp[go_sem]
 repeat' split
 all_goals simp_all
def Hp:prog.eqGuardType prog.depth 294=false:=aH
def HR:∃ i z,prog.info? 296=some i/\i.zero=some z/\i.size=10/\i.bytes=72/\z.cells.size=10:=by
 have h:(prog.info? 296).map (λi=>(i.zero.map λz=>z.cells.size,i.size,i.bytes))=some (some 10,10,72):=aH;cases aJ:prog.info? 296 with
 | none=>rw[aJ]at h;cases h
 | some i=>
  rw[aJ]at h;simp only[pw,hr,jA]at h;cases a:i.zero with
  | none=>rw[a]at h;cases h.1
  | some z=>rw[a]at h;exact⟨i,z,rfl,a,h.2.1,h.2.2,by simpa using h.1⟩
def UQ{base:J}{v:ax}{cs:ah dI}(ty:TypeId)(h:w.ownsRow base 296 10 v cs.length (dZ cs))(ar:cs.length<=10000)(aj:base<=w.heap.size)(c:dI):∃ v' ao,(Builtin.append_ #[289,289] ty #[v,aq (some (ad w 0 ab)) 1 1]).run prog (w.alloc (ae (lP c) 296))=.ok v' ao/\ao.ownsRow base 296 10 v' (cs++[c]).length (dZ (cs++[c]))/\Keeps (λj=>v.ownBlock=some j) w ao/\∀ j,v'.ownBlock=some j->v.ownBlock=some j\/w.heap.size<=j:=by
 have⟨i,z,aw,l,h1,h2,d⟩:=HR
 obtain⟨v',ao,k,g,aZ,_,f⟩:=wT (P:=prog) (w.alloc (ae (lP c) 296)) base 289 ty 296 i z 10 72 underlying289 aw l h1 h2 d bq v cs.length (dZ cs) (h.alloc _) (ad w 0 ab) 1 1 (lP c).toList rfl
  (λj u a=>by
   rw[h3,gC];exact bb (aX w (ae (lP c) 296)) Ae) (B_ c) jY U bT
 refine⟨v',ao,k,?_,((Keeps.refl _ w).alloc _).grown aZ (λj e=>.inl e),λj b=>?_⟩
 .rw[show dZ (cs++[c])=dZ cs++(lP c).toList by simp[dZ,dI.br],cx,iT];exact g
 rcases f with e|e
 .exact .inl (e▸b)
 rw[b]at e;simp at e;omega
structure vm(b:J)(dg:ax)(ps:ah dI)(kn:J)(e:aB)(x y:aa)(W:ai):ak where
 dU:lr W b dg ps
 cn:W.heap[kn]?=some (ae e 45 (0,0))
 dH:W.heap[kn+1]?=some (ae #[ag x,ag y] 91 (0,0))
 tO:kM W
theorem vm.keep{kn:J}{e:aB}{x y:aa}(h:vm b dg ps kn e x y w)(hk:Keeps aI w w'):vm b dg ps kn e x y w':=⟨h.dU.keep hk,hk.heap h.cn id,hk.heap h.dH id,h.tO.keep hk id⟩
def Qz(h:lr w b dg ps)(ZJ:kM w)(T':dg.ownBlock≠some 0)(e:aB)(he:fz e=true)(x y:aa):aA 159 #[b,aQ e,aQ #[ag x,ag y]] w λr w'=>(∃ c,r=.returned (I c))/\iz w b dg w':=by
 have Y:=((ba w).alloc (ae e 45)).alloc (ae #[ag x,ag y] 91);have ZO:(w.alloc (ae e 45)).heap.size=w.heap.size+1:=aK;have m':=cm (aX w (ae e 45)) (ae #[ag x,ag y] 91);have v':=aX (w.alloc (ae e 45)) (ae #[ag x,ag y] 91);rw[ZO]at v';have ZM:=(uj he).1;have V':vm b dg ps w.heap.size e x y _:=⟨h.keep Y,m',v',ZJ.keep Y id⟩;have W':=af (he▸vE e ((w.alloc (ae e 45)).alloc (ae #[ag x,ag y] 91)));have ZK:=jQ (e:=e) m';have ZN:∀ j,dg.ownBlock=some j->j<w.heap.size:=λj C=>o' h.row C;have fr:=b6 (bP h.hd) T';have L:=b6 V' (bB Y (bB ZN ZM))
 go_in
 go_wp2_with ((with_reducible refine dp ZK rfl rfl ?_ ?_);exact rfl);generalize World.alloc (World.alloc w _) _=ao at *;refine aU W'.o λaC aj=>?_;have zp:=Keeps.bD (S:=aI) aj a7;have h2:=L.o.1.keep zp;have ZW:=aS h2.cn;have s':=af (GO h2.tO e.k.bL);have M:=b6 h2 (L.o.2.1.trans zp);have Tq:=af L.o.2.2;go_wp2_with fail;refine s'.o.mono ?_;rintro r bm ⟨⟨lb,l',gF,fd,rfl⟩,aj⟩;have Q:=Keeps.bD (S:=aI) aj a7;have mv:=M.out.1.keep Q;have ZH:∀ W,(Instr.build 294 #[]).run prog W=.ok (aQ z4) W:=λW=>aH;obtain⟨ZT,E⟩:=P5 lb l' gF fd bm;have g:=b6 mv (M.out.2.trans Q);obtain⟨F,f⟩:∃ F:a6 ax,F=#[I lb,I l',I gF,I fd]:=⟨_,rfl⟩;rw[<-f]at E⊢;clear ZW s' aj Q mv M f;cases ZT with
 | true=>
  have cF:=af (iz.lO g.out.2 (iz.same g.out.1.dU (ba bm)));go_wp2_with refine uG (tK Hp _ _ _ _ _) E u_ rfl rfl rfl ?_
  go_ret;exact⟨⟨_,rfl⟩,cF.o⟩
 | false=>
 have ZV:=aS g.out.1.cn;have f:=af (GN g.out.1.dU e.k);go_wp2_with refine uG (tK Hp _ _ _ _ _) E u_ rfl rfl rfl ?_
 clear E ZH;refine f.o.mono ?_;rintro r H ⟨R,ZL⟩;have l:=g.out.1.keep R;have q:=b6 l (g.out.2.trans R);clear ZV f g R;rcases ZL with rfl|⟨i,aw,rfl⟩
 rotate_left
 .have cF:=af (iz.lO q.out.2 (iz.same q.out.1.dU (ba H)));have ZX:decide (0<=(i:aa))=true:=ee U;have ZY:decide ((i:aa) >= 0)=true:=ee U;clear l aw;exact sX
 have ZP:=aS l.dU.hd;obtain⟨A,cap,rfl,_,_⟩:=cS l.dU.row;by_cases Aw:32<=ps.length
 .have cF:=af (iz.lO q.out.2 (iz.same q.out.1.dU (ba H)));have aZ:decide ((32:aa)<=(ps.length:aa))=true:=ee U;have Z:decide ((ps.length:aa) >= (32:aa))=true:=ee U;clear l Aw;exact sX
 have aZ:decide ((32:aa)<=(ps.length:aa))=false:=dd U;have Z:decide ((ps.length:aa) >= (32:aa))=false:=dd U;have f:=l.keep (ba H).drew;have gf:=af (q.out.2.trans (ba H).drew);clear l q;go_wp2_with fail;clear ZP aZ Z;obtain⟨G,m⟩:=hJ (F:=λW=>(W.heap[b]?=some (ae #[aq A ps.length cap] 291 (0,0))/\W.heap[w.heap.size]?=some (ae e 45 (0,0))/\W.heap[w.heap.size+1]?=some (ae #[ag x,ag y] 91 (0,0))/\kM W));have ZQ:=λx:bp G=>aS (((m _).1 x.held).1);have ZR:=λx:bp G=>aS (((m _).1 x.held).2.1);have ZS:=λx:bp G=>aS (((m _).1 x.held).2.2.1);have D:∀ W,vm b (aq A ps.length cap) ps w.heap.size e x y W->G W:=λW h=>(m W).2 ⟨h.dU.hd,h.cn,h.dH,h.tO⟩;have O:=D _ f;have vl:=af (λW (ZG:G W)=>GO ((m _).1 ZG).2.2.2 e.k.bL);have TS:=af (show ps.length<32 by omega);refine cH 18 ?_;refine cI (G) (.range 15) 3 15 ?_;refine dC (O) [0,1,2,3,4,5,6,7,9,10,11] 4 ?_;refine ew 8 λK B=>?_;go_simp;refine(vl.o _ O).mono ?_;rintro r ZU ⟨⟨dr,u,v,z,rfl⟩,aj⟩;have V:=Keeps.bD (S:=aI) aj a7;have d:=f.keep V;have N:=D _ d;refine B _ _ (N) ?_;clear B K;refine dC (N) [12] 2 ?_;obtain⟨v2,St,ys,CW,t,zd⟩:=UQ 289 d.dU.row U (c' _) (dI.mk dr u v z e.k x y);have n:=t.heap d.dU.hd (λe=>d.dU.ne _ e rfl);have X:=Tq.out.1;have r':=(m St).2 ⟨n,t.heap d.cn (λe=>oF _ (X _ e)),t.heap d.dH (λe=>by have:=X _ e;omega),d.tO.keep t fr.out.2⟩;have sd:=D _ (d.keep ((ba ZU).alloc (ae (lP (dI.mk dr u v z e.k x y)) 296)));have a:=b6 d (bB CW (bB t (bB zd (bB (gf.out.trans V) n))));clear ZQ ZR ZS O N vl f d aj V CW t zd Aw m gf n X D;refine hg 13 sd ?_;refine jq 14 λK B=>?_;refine Lib.wp_append_run _ (.tmp 38) (.tmp 47) 289 289 rfl _ _ rfl rfl _ _ ys ?_;refine B _ _ (r') ?_;clear B K;clear sd r';clear ys;obtain⟨a',g',rfl,_,_⟩:=cS a.o.2.1;have n:=a.o.2.2.2.2.2;have ZI:=bI n;have bt:=aS n;clear n;simp only[Act.put,c7];refine fs (λ_=>False) [15,16] [] 1 (hP ?_);refine cI (λ_=>True) [17] 0 1 ?_;refine h_ 17 trivial ?_;clear bt ZI;have P:=bV a.o.2.2.2.2.2 0 (.slice a' (ps++[dI.mk dr u v z e.k x y]).length g');simp only[sU,rA]at P;have Q':=b4 (S:=λj=>j=b) a.o.2.1 ((Keeps.refl (λj=>j=b) St).setCell (p:=ad b 0 ab) rfl (.slice a' (ps++[dI.mk dr u v z e.k x y]).length g')) (λj C e=>by
  subst e;rcases a.out.2.2.2.1 _ C with s|s
  .exact a.out.1.dU.ne _ s rfl
  .have:=fr.out.1
   have:=a.out.2.2.2.2.1.size
   omega)
 have cF:=af (show iz w b (aq A ps.length cap) _ from⟨_,ps++[dI.mk dr u v z e.k x y],⟨P,Q',by have:=TS.out;simp;omega⟩,((a.out.2.2.2.2.1.mono (λ_ _ x=>x.elim)).trans (a.out.2.2.1.mono (T:=λj=>j=b\/(aq A ps.length cap).ownBlock=some j) λ_ _ x=>.inr x)).setCell (.inl rfl) _,λj C=>by
  rcases a.out.2.2.2.1 _ C with s|s
  .exact .inl s
  .exact .inr (b7 a.out.2.2.2.2.1.size s)⟩)
 clear P Q' a;exact LO
def Jy{ρ:Go.Shelf.Ren}(L:SlLaysE0.n41 prog ρ){a:TypeInfo}{z:ax}{k bytes:J}(aw:prog.info? (ρ.t 23)=some a)(o:a.zero=some z)(h1:a.size=k)(h2:a.bytes=bytes)(i:z.cells.size=k)(hk:0<k)(p:∀ w,(Go.sizeOf (ρ.t 23)).run prog w=.ok k w){base n:J}{v:ax}{xs:ah ax}(h:w.ownsRow base (ρ.t 23) k v n xs)(ar:n*bytes<=140737488355328)(m:∀ u∈xs,u.oneCell'=true):Calls prog (ρ.f 41) #[v] w λe w'=>∃ cC,e=.returned cC/\w'.ownsRow w.heap.size (ρ.t 23) k cC n xs/\Below w w w':=by
 rcases h.2 with⟨rfl,b⟩|⟨g,cap,s,rfl,aZ,aJ,al,hm,av,aO⟩
 .subst b;refine D3 (AnyE.slices_Clone_nil (P:=prog) (ρ:=ρ) L 0 0 w) ?_;exact⟨_,rfl,(jx.1 (by rw[h.1,w6]))▸gI _ _ _ _,b3 _ _⟩
 have⟨A,r,l,aW,_⟩:=cS h;cases l;refine(AnyE.slices_Clone (P:=prog) (ρ:=ρ) L a z k bytes aw o h1 h2 i hk p g 0 n cap xs w h.1 (b7 al hm) ar (λj u c=>?_) m).mono ?_
 .have d:0<n:=by
   rcases rD n with e|e
   .have:=(hp.1 c).1
    rw[h.1,e,w6]at this;omega
   exact e
  exact Mn
 rintro e w' ⟨v',rfl,h1,_,h2⟩;exact⟨v',rfl,h1,h2⟩
def YM:Go.Shelf.Ren:=⟨fun|41=>80|n=>n,fun|4=>4|22=>71|23=>175|n=>n,fun|n=>n⟩
def YL:SlLaysE0.n41 prog YM:={
 mixed:=aH
 f41:=⟨f80.name,bq,func80.trans (cV some aH)⟩
 t4:=underlying4
 a4:=isAgg4
 z4:=sizeOf4
 v4:=zeroValue4
 t22:=underlying71
 a22:=isAgg71
 z22:=sizeOf71
 v22:=zeroValue71}
def Zz(h:kL w b n c6 bQ):aA 53 #[b] w λe w'=>(∃ A c k,e=.returned (aq A k c)/\k<=64)/\Keeps aI w w':=by
 have bo:=aS h.hd;have⟨i,z,aw,l,h1,h2,d⟩:=HS;have aT:=af (Jy YL aw l h1 h2 d bq sizeOf175 h.row Aa λu g=>by
  obtain⟨x,_,j⟩:=uO.1 g;exact ze x u j)
 go_in
 go_wp2_with fail;refine aT.o.mono ?_;rintro e ao ⟨cC,rfl,f,aj⟩;obtain⟨A,c,rfl,_,_⟩:=cS f;have a:=af (Keeps.bD (S:=aI) aj a7);go_wp2;go_ret;exact⟨⟨_,_,_,rfl,h.fQ⟩,a.o⟩
def IG(n:aa)(ar:1<=n/\n<=16)(w:ai):aA 131 #[I n] w λe w'=>e=aV #[w.heap.size,I 0]/\w'=w.alloc (ae #[I n,I 0,aq none 0 0] 177):=by
 go_in
 go_wp2;go_ret2;exact⟨rfl,rfl⟩
def TW(n:aa)(ar:¬ (1<=n/\n<=16))(w:ai):aA 131 #[I n] w λe w'=>e=aV #[.pointer none,I 1]/\w'=w:=by
 by_cases h1:n<1
 .have d1:=ee h1
  go_in
  go_wp2;go_ret2;exact⟨rfl,rfl⟩
 have d1:=dd h1
 go_in
 go_wp2;go_ret2;exact⟨rfl,rfl⟩
def RMap.clear{P:Program}{k:TypeId}{dz:Type}{C:lu P k dz}{b:J}{M:ah (dz×ax)}(h:RMap w C b M){t e:TypeId}(aO:P.underlying t=some (.map k e))(ty:TypeId):∃ w',(Builtin.clear_ #[t] ty #[.map (some b)]).run P w=.ok (aV #[]) w'/\RMap w' C b []/\Keeps (λj=>j=b) w w':=by
 obtain⟨c,⟨es,a,aj,F,av,d⟩,_⟩:=h.own;refine⟨w.putObj b (.map #[] a),?_,⟨⟨[],⟨#[],a,World.putObj_heap_same (kf.1 aj).1,⟨aK,MapKept.stamped_empty a,aK⟩,c9 _,rfl⟩,zB _⟩,(λ_ h=>nomatch h),Pairwise.nil⟩,(Keeps.refl (λj=>j=b) w).putObj (l:=b) rfl _⟩;simp[Builtin.clear_,rp aO,MapKept.run_getObj_map aj,MapKept.run_setObj_map _ aj,Result.andThen];rfl
def SZ{B:dF}{s:cD}(h:IsLd w B s):aA 23 #[B.b] w λe w'=>∃ v,e=.returned v/\w'.ownsRow w.heap.size 45 9 v s.bf.length (bX s.bf)/\Keeps aI w w':=by
 exact Ie h.gh h.bf h.dL (by have:=h.cp;omega)
def yv{B:dF}{s:cD}(h:IsLd w B s):aA 17 #[B.b] w λe w'=>e=.returned (I s.aN)/\w=w':=by
 have a:=aS h.gh
 go_in
 go_wp2;go_ret;exact⟨rfl,rfl⟩
def Ai(w:ai)(B:dF)(s:cD)(e:Ending)(w':ai):ak:=
 ∃ v,e=.returned v/\w'.ownsRow w.heap.size 47 12 v (kp s).length (ep (kp s))/\xp w B w' B (gO s)/\∀ j,v.ownBlock=some j->¬ B.S j
def tt(xs:ah aB):ah ca:=xs.map λo=>⟨3,o,0,false⟩
structure s9(w:ai)(B:dF)(s:cD)(v:ax)(pre:ah aB)(cw:ax)(W:ai):ak where
 out:W.ownsRow w.heap.size 47 12 cw (tt pre).length (ep (tt pre))
 ld:IsLd W B {s with hd:=true}
 cv:Keeps (λj=>j=B.b) w W
 rx:W.ownsRow w.heap.size 45 9 v s.bf.length (bX s.bf)
theorem s9.keep{B:dF}{s:cD}{v:ax}{pre:ah aB}{cw:ax}{W W':ai}(h:s9 w B s v pre cw W)(hk:Keeps aI W W'):s9 w B s v pre cw W':=
 ⟨b4 h.out hk (λ_ _=>id),h.ld.kr hk,h.cv.trans (hk.mono λ_ _ x=>x.elim),b4 h.rx hk (λ_ _=>id)⟩
def SY{B:dF}{s:cD}(h:IsLd w B s):aA 97 #[B.b] w (Ai w B s):=by
 have TS:=h.cp;cases aJ:s.hd with
 | true=>
  have f:=h.gh;unfold mV at f;rw[aJ]at f;have d4:=aS f;have fr:kp s=[]:=by unfold kp;rw[aJ];rfl
  have gf:gO s=s:=by unfold gO;rw[aJ];rfl
  have Y:=af (show Ai w B s (.returned (aq none 0 0)) w from⟨_,rfl,by rw[fr];exact gI _ _ _ _,⟨by rw[gf];exact h,rfl,rfl,rfl,λj a=>.inl a,Keeps.refl _ _⟩,λj a=>by cases a⟩)
  go_in
  go_wp2_with fail;go_ret;exact Y.o
 | false=>
  have f:=h.gh;unfold mV at f;rw[aJ]at f;have d4:=aS f;have f4:=bI f;have eN:=(Keeps.refl (λj=>j=B.b) w).setCell (p:=ad B.b 4 ab) rfl (.bool true);have h2:IsLd (w.setCell (ad B.b 4 ab) (.bool true)) B {s with hd:=true}:=h.J3 (by simpa[mV]using bV h.gh 4 (.bool true)) eN rfl rfl rfl h.cW;have m':=af (SZ h2);have g':kp s=tt s.bf:=by unfold kp;rw[aJ];rfl
  have lb:gO s={s with hd:=true,bf:=[]}:=by unfold gO;rw[aJ];rfl
  have k:=b6 h2 (bB eN (bB g' lb));have w':(w.setCell (ad B.b 4 ab) (.bool true)).heap.size=w.heap.size:=aK
  go_in
  go_wp2_with fail;generalize w.setCell _ _=ao at *;refine m'.o.mono ?_;rintro e aC ⟨v,rfl,t,G⟩;rw[w']at t;have mv:s9 w B s v [] (aq none 0 0) aC:=⟨gI _ _ _ _,k.out.1.kr G,k.out.2.1.trans (G.mono λ_ _ x=>x.elim),t⟩;obtain⟨A,cap,rfl,_,_⟩:=cS t;have W:=af mv;go_wp2_with fail;go_loopg [3,20] s.bf.length (λg cw z wr=>∃ pre rest:ah aB,s.bf=pre++rest/\g=rest.length/\z=I pre.length/\(∃ A n cap,cw=aq A n cap)/\s9 w B s (aq A s.bf.length cap) pre cw wr)
  case atStart=>exact⟨[],s.bf,rfl,rfl,rfl,⟨_,_,_,rfl⟩,W.o⟩
  obtain⟨pre,rest,i,aZ,rfl,⟨V,no,co,rfl⟩,c⟩:=hrel;cases rest with
  | nil=>
   have St:¬ (pre.length:aa)<(s.bf.length:aa):=by rw[i];simp
   have ys:s.bf=pre:=by rw[i,e4]
   have d1:=aS c.ld.gh;have⟨zp,l,vl,q⟩:=c.ld.bf.clear underlying115 0;have r:=c.ld.Cx (L:=[]) vl q Pairwise.nil (by have l':=c.ld.n;show((0:J):aa)<=s.most;have Q':(s.bf.length:aa)<=s.most:=l'.1;omega);have M:=b4 c.out q (λj a e=>mq c.out c.ld.bf a e);have v':Ai w B s (.returned (aq V no co)) zp:=by
    refine⟨_,rfl,by rw[k.out.2.2.1,ys];exact M,⟨by rw[k.out.2.2.2];exact r,rfl,rfl,rfl,λj a=>.inl a,?_⟩,λj a=>r.A8 (r.qV M bq bq a)⟩;exact(c.cv.mono (T:=B.S) (λj _ a=>.inl a)).trans (q.mono (T:=B.S) (λj _ a=>.inr (.inl a)))
   have Z:=af v';go_wp2_with ((with_reducible refine wL l rfl rfl ?_ ?_);exact rfl);go_ret;exact Z.o
  | cons e rest=>
   have s':pre.length<s.bf.length:=by rw[i];simp
   have Tq:(pre.length:aa)<(s.bf.length:aa):=U;have F:s.bf[pre.length]=e:=by simp[i]
   have O:s.bf=(pre++[e])++rest:=by rw[i];simp
   have r':=aZ;simp only[ds]at r';clear aZ;obtain⟨zd,rfl⟩:=pa c.rx U;have K:=og (P:=prog) (enc:=aB.br) (λ_=>rfl) isAgg45 sizeOf45 c.rx pre.length s';rw[F]at K;have dw:=q7 wr;obtain⟨Q,N,y,H,T'⟩:=tq wr e;have d:=c.keep H;have l:(tt pre).length<=10000:=by unfold tt;rw[gV];omega
   obtain⟨CW,Aw,D,u,m,R,n7,c5,rfl⟩:=xJ 32 d.out l d.cv.size ⟨3,e,0,false⟩;have C:s9 w B s (aq (some (ad zd 0 ab)) s.bf.length cap) (pre++[e]) (aq R n7 c5) Aw:=by
    refine⟨by unfold tt at u⊢;rw[jy];exact u,d.ld.keep m λj a=>d.ld.qV d.out bq bq a,cL d.cv m (λj a e=>by have:=(d.out.lt j e).1;omega),b4 d.rx m (λj a e=>ub d.out d.rx bq e a)⟩
   have X:=af C;have sd:=jQ y;have ps:=JD e;have E:=yZ ⟨3,e,0,false⟩ Q;have a':=af O;generalize wr.alloc (ae z9 45)=V' at dw N;generalize Q.alloc (ae (dk ⟨3,e,0,false⟩) 47)=W' at D E;clear c d i F y H l u m C O;go_wp2_with first|((with_reducible refine dp K rfl rfl ?_ ?_);exact rfl)|(with_reducible refine d_ dw rfl rfl ?_)|((with_reducible refine c8 N rfl rfl ?_ ?_ ?_);exact rfl;exact rfl)|((with_reducible refine dp sd rfl rfl ?_ ?_);exact rfl)|((with_reducible refine sG (ps _) rfl rfl ?_ ?_ ?_);exact rfl;exact rfl)|((with_reducible refine zk E rfl rfl ?_ ?_);exact rfl)|((with_reducible refine wK D rfl rfl ?_ ?_ ?_);exact rfl;exact rfl)
   go_roundg rest.length
   case measure=>omega
   exact⟨pre++[e],rest,a'.o,rfl,qx,⟨_,_,_,rfl⟩,X.o⟩
def cD.new(n:aa):cD:=⟨n,[],λ_=>[],-1,false⟩
def Ig(n:aa)(ar:1<=n/\n<=256):aA 130 #[I n] w λe w'=>e=aV #[.pointer (some (ad (w+2) 0 ab)),I 0]/\IsLd w' ⟨w+2,w.heap.size,w.heap.size+1,[]⟩ (cD.new n)/\Keeps aI w w'/\w'.heap.size=w.heap.size+3:=by
 have d:(w.alloc (.map #[] 0)).heap.size=w.heap.size+1:=aK;have f:((w.alloc (.map #[] 0)).alloc (.map #[] 0)).heap.size=w.heap.size+2:=aK;have b:=(RMap.made (w.alloc (.map #[] 0)) prog 3 r4).keeps (T:=aI) ((ba _).alloc (ae (mV ⟨w+2,w.heap.size,w.heap.size+1,[]⟩ (cD.new n)) 118)) id;have aj:=aX ((w.alloc (.map #[] 0)).alloc (.map #[] 0)) (ae (mV ⟨w+2,w.heap.size,w.heap.size+1,[]⟩ (cD.new n)) 118);rw[d]at b;rw[f]at aj;have c:IsLd _ ⟨w+2,w.heap.size,w.heap.size+1,[]⟩ (cD.new n):=⟨aj,((RMap.made w prog 43 mj).keeps (T:=aI) (((ba _).alloc (.map #[] 0)).alloc (ae (mV ⟨w+2,w.heap.size,w.heap.size+1,[]⟩ (cD.new n)) 118)) id),Pairwise.nil,⟨by show((0:J):aa)<=n;omega,ar.2⟩,⟨b,λ_=>rfl,λ_ h=>nomatch h⟩,λ_=>⟨Pairwise.nil,by show 0<=64;omega,λ_ h=>nomatch h⟩,by show w.heap.size≠w.heap.size+1;omega,by show(-1:aa)<=-1/\(-1:aa)<=1000000;omega⟩;have a:=b6 c ((((ba w).alloc (.map #[] 0)).alloc (.map #[] 0)).alloc (ae (mV ⟨w+2,w.heap.size,w.heap.size+1,[]⟩ (cD.new n)) 118));have g:=@run_makeMap prog
 go_in
 go_wp2;go_ret2;exact⟨rfl,a.o.1,a.o.2,aK⟩
end Go.Proofs.YtalagblioepadaaGreatDoor
