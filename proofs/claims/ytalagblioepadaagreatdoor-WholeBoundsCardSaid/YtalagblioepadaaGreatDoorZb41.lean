/- The proof, part 41. -/
import Derived.Test.YtalagblioepadaaGreatDoorZb40
namespace Go.Proofs.YtalagblioepadaaGreatDoor
set_option linter.all false
open Proofs.Tryz List Go.RowKit Go.Shelf Go.Maps
set_option maxRecDepth 100000
set_option maxHeartbeats 2000000
def zM{p:ak}(h:p:=by have:=h.fX;omega):p:=h
def Mq{p:ak}(h:p:=by
 go_wp2_with fail;refine cB 30 ?_;refine fk (λ_=>False) (.range 30) [] 0 (hC ?_);refine ih ?_;clear C N O l';have cE:=af (hM.lz (l.o.2.2.1.trans (a_ bn).drew) (hM.same l.o.1 (Keeps.refl _ _)));go_wp2_with fail;go_ret;exact⟨⟨_,rfl⟩,cE.o⟩
 ):p:=h
def Mu{p:ak}(h:p:=by
 refine d.o.mono ?_;rintro e aB ⟨aj,j⟩;have hk:=a.trans (Keeps.bE (S:=aG) aj a7);rcases j with⟨rfl,_⟩|⟨i,av,rfl,_⟩
 .clear aj;go_wp2;go_ret;exact⟨hk,.inl rfl⟩
 clear aj;go_wp2;go_ret;exact⟨hk,.inr ⟨i,av,rfl⟩⟩
 ):p:=h
def M7{p:ak}(h:p:=by
 have⟨a,c,h1,h2,d⟩:=h;exact⟨a,c,h1,(hk.mono λ_ _ x=>x.elim).trans h2,λj e=>(d j e).imp id λax=>b7 hk.size ax⟩
 ):p:=h
def Lh{p:ak}(h:p:=by
 go_wp2_with fail;go_ret;exact⟨⟨_,rfl⟩,by simpa only[cx,iM]using cE.out⟩
 ):p:=h
def sL{p:ak}(h:p:=by
 go_wp2_with fail;go_ret;exact⟨⟨_,rfl⟩,cE.o⟩
 ):p:=h
variable{w w':ai}
def RMap.SK{P:Program}{k:TypeId}{dw:Type}{C:k_ P k dw}{b:J}{M:ah (dw×aw)}[DecidableEq dw](K:Keyed P k)(h:RMap w C b M){x:dw}(c:C.ok x){t e:TypeId}(aN:P.underlying t=some (.map k e)){z:aw}(d:∀ w,(zeroValue e).run P w=.ok z w):(Instr.lookup t (.map (some b)) (C.enc x) false).run P w=.ok ((hU M x).getD z) w:=by
 obtain⟨es,h1,h2⟩:=h.own;obtain⟨v,ps,fm,aX⟩:=h1.look_ok K aN (d w) (zd:=.held z) (zp:=[]) rfl (C.law x c);obtain⟨v2,j,i,g⟩:=h1.lookup K aN (d w) (zd:=.held z) (zp:=[]) rfl (C.law x c);have a:=h.look K c aN d;rw[fm]at a;simp only[Result.ok.injEq,Value.tuple.injEq,Array.mk.injEq,zh,and_true]at a;simp only[nU,hi,jq]at aX g;have f:=aX.1.trans g.1.symm;simp only[y7]at f;rw[i,<-f,a.1]
def IsLd.toldRow{B:dE}{s:cH}(h:IsLd w B s)(fr:aa)(b:0<=fr/\fr<=1000000):∃ v,(Instr.lookup 116 (.map (some B.hb)) (I fr) false).run prog w=.ok v w/\w.ownsRow 0 45 9 v (s.b2 fr).length (bX (s.b2 fr)):=by
 refine⟨_,(h.b2.1.SK tx (x:=fr) (wf_i64 U) underlying116 (z:=ao none 0 0) (λw=>aH)),?_⟩;have a:=h.b2.2.1 fr;cases aq:hU B.M fr with
 | none=>
  rw[aq]at a;rw[a];exact gB _ _ _ _
 | some u=>rw[aq]at a;exact a
def IsLd.forget{B:dE}{s:cH}(h:IsLd w B s)(fr:aa)(d:0<=fr/\fr<=1000000)(ty:TypeId):∃ w',(Builtin.delete_ #[116,3] ty #[.map (some B.hb),I fr]).run prog w=.ok (aV #[]) w'/\IsLd w' {B with M:=kM B.M fr} {s with b2:=h4 s.b2 fr []}/\Keeps (λj=>j=B.hb) w w':=by
 have⟨w',h1,h2,b⟩:=h.b2.1.drop tx (x:=fr) (wf_i64 U) underlying116 ty;refine⟨w',h1,h.JD h2 b (λx=>?_) (λp ar=>h.b2.2.2 p (fR.1 ar).1) (λx=>?_),b⟩
 .rw[Gn];unfold h4;by_cases e:x=fr
  .rw[aD e,aD e]
  rw[aA e,aA e];have a:=h.b2.2.1 x;cases aq:hU B.M x with
  | none=>rw[aq]at a;exact a
  | some u=>rw[aq]at a;exact b3 a b λj c e=>mb a h.b2.1 c e
 unfold h4;split
 .exact⟨Pairwise.nil,aI,aI⟩
 exact h.bg x
def tN{base n k:J}{T T':TypeId}{v:aw}{l:ah aw}{j:J}{b:a6 aw}{z:J×J}(h:w.ownsRow base T k v n l)(a:w.heap[j]?=some (ae b T' z))(c:T≠T'):¬ v.ownBlock=some j:=λe=>by
 rcases h.2 with⟨rfl,_⟩|⟨g,cap,d,rfl,_,aR,_⟩
 .cases e
 cases e;rw[aR]at a;simp only[hi,wy]at a;exact c a.2.1
def OF(L xs:ah aC):(hr L xs).2.length<=xs.length:=by
 rw[<-oo xs]
 induction xs.reverse with
 | nil=>simp[hr]
 | cons e l a=>
  rw[om,rA,cx,cx,iM,iM];omega
def Ey(w:ai)(B:dE)(s:cH)(fr:aa)(e:Ending)(w':ai):ak:=
 ∃ v js,e=aV #[v,I 0]/\w'.ownsRow w.heap.size 47 12 v (hQ s fr).length (eA (hQ s fr))/\w6 w B w' js (jY s fr)/\∀ j,v.ownBlock=some j->¬ js.S j
structure rn(w:ai)(B:dE)(s:cH)(xs:ah aC)(v:aw)(pre:ah aC)(cw:aw)(W:ai):ak where
 out:W.ownsRow w.heap.size 47 12 cw (hr s.bd pre).2.length (eA (hr s.bd pre).2)
 ld:IsLd W B {s with bd:=(hr s.bd pre).1}
 cv:Keeps (λj=>j=B.db) w W
 rx:W.ownsRow 0 45 9 v xs.length (bX xs)
theorem rn.keep{B:dE}{s:cH}{xs:ah aC}{v:aw}{pre:ah aC}{cw:aw}{W W':ai}(h:rn w B s xs v pre cw W)(hk:Keeps aG W W'):rn w B s xs v pre cw W':=
 ⟨b3 h.out hk (λ_ _=>id),h.ld.ki hk,h.cv.trans (hk.mono λ_ _ x=>x.elim),b3 h.rx hk (λ_ _=>id)⟩
structure sU(w:ai)(B:dE)(s:cH)(xs:ah aC)(v:aw)(pre:ah aC)(cw:aw)(b:J)(e:aC)(W:ai):ak where
 i:rn w B s xs v pre cw W
 bM:W.heap[b]?=some (ae (dU e) 45 (0,0))
theorem sU.keep{B:dE}{s:cH}{xs:ah aC}{v:aw}{pre:ah aC}{cw:aw}{b:J}{e:aC}{W W':ai}(h:sU w B s xs v pre cw b e W)(hk:Keeps aG W W'):sU w B s xs v pre cw b e W':=⟨h.i.keep hk,hk.heap h.bM id⟩
def Si{B:dE}{s:cH}(h:IsLd w B s)(aR:s.hd=false)(fr:aa)(Zl:fr=s.aS+1)(Zw:-1<=s.aS/\s.aS<=999999):az 147 #[B.b,I fr] w (Ey w B s fr):=by
 have Q:=h.fZ;unfold mI at Q;rw[aR]at Q;have d2:=aP Q;obtain⟨v,y,V⟩:=h.toldRow fr U;obtain⟨xs,X⟩:=cQ (s.b2 fr);rw[<-X]at V;have R:=h.bg fr;rw[<-X]at R;have Zt:=R.2.1;have Y':∀ e∈xs,ht e.k=true:=λe K=>(tU (R.2.2 e K).1).1;have Q':rn w B s xs v [] (ao none 0 0) w:=⟨gB _ _ _ _,h,Keeps.refl _ _,V⟩;obtain⟨A,cap,rfl,_,_⟩:=cP V;have zd:=af Q';have Z:=b8 Y' X;have Zs:=af (show ∀ j,B.S j->j<w.heap.size from λj a=>h.lt a);clear h aR Q V R Y' Q' X;subst Zl
 go_in
 go_wp2_with ((with_reducible refine n_ y rfl rfl ?_ ?_ ?_);exact rfl;exact rfl);clear d2 y;go_loopg [6,34] xs.length (λg cw z wr=>∃ pre rest:ah aC,xs=pre++rest/\g=rest.length/\z=I pre.length/\(∃ A n cap,cw=ao A n cap)/\rn w B s xs (ao A xs.length cap) pre cw wr)
 case atStart=>exact⟨[],xs,rfl,rfl,rfl,⟨_,_,_,rfl⟩,zd.o⟩
 obtain⟨pre,rest,f,a1,rfl,⟨Y,no,co,rfl⟩,d⟩:=hrel;clear zd;cases rest with
 | nil=>
  have Zu:¬ (pre.length:aa)<(xs.length:aa):=by rw[f];simp
  have s':xs=pre:=by rw[f,eX]
  have d2:=aP d.ld.fZ;obtain⟨m,Zm,r,q⟩:=d.ld.forget (s.aS+1) U 0;have d3:=aP r.fZ;have f3:=bJ r.fZ;have eI:=(Keeps.refl (λj=>j=B.b) m).setCell (p:=ad B.b 3 ab) rfl (I (s.aS+1));have N:IsLd (m.setCell (ad B.b 3 ab) (I (s.aS+1))) {B with M:=kM B.M (s.aS+1)} (jY s (s.aS+1)):=by
   have Zg:jY s (s.aS+1)={s with bd:=(hr s.bd pre).1,b2:=h4 s.b2 (s.aS+1) [],aS:=s.aS+1}:=by unfold jY;rw[<-Z.out.2,<-s']
   rw[Zg];exact r.JB (by simpa[mI]using bW r.fZ 3 (I (s.aS+1))) eI rfl rfl rfl (by show -1<=s.aS+1/\s.aS+1<=1000000;omega)
  have l:=b3 d.out q (λj a e=>mb d.out d.ld.b2.1 a e);have l':=b3 l eI (λj a e=>(r.qC l bq bq a).1 e);have Y9:Ey w B s (s.aS+1) (aV #[ao Y no co,I 0]) (m.setCell (ad B.b 3 ab) (I (s.aS+1))):=by
   have Zh:hQ s (s.aS+1)=(hr s.bd pre).2:=by unfold hQ;rw[<-Z.out.2,<-s']
   refine⟨_,{B with M:=kM B.M (s.aS+1)},rfl,by rw[Zh];exact l',⟨N,rfl,rfl,rfl,λj a=>?_,?_⟩,λj a=>N.AM (N.qC l' bq bq a)⟩
   .rcases a with a|a|a|⟨p,ar,a⟩
    .exact .inl (.inl a)
    .exact .inl (.inr (.inl a))
    .exact .inl (.inr (.inr (.inl a)))
    exact .inl (.inr (.inr (.inr ⟨p,(fR.1 ar).1,a⟩)))
   exact((d.cv.mono (T:=B.S) (λj _ a=>.inr (.inl a))).trans (q.mono (T:=B.S) (λj _ a=>.inr (.inr (.inl a))))).trans (eI.mono (T:=B.S) (λj _ a=>.inl a))
  have Zf:=af Y9;clear f d r q eI N l l' Y9 s';go_wp2_with ((with_reducible refine CO Zm rfl rfl ?_ ?_ ?_);exact rfl;exact rfl);go_ret2;exact Zf.o
 | cons e rest=>
  have Zp:pre.length<xs.length:=by rw[f];simp
  have Zv:(pre.length:aa)<(xs.length:aa):=U;have K:xs[pre.length]=e:=by simp[f]
  have Y_:=Z.out.1 e uS;have Zc:xs=(pre++[e])++rest:=by rw[f];simp
  have Zn:=a1;simp only[dr]at Zn;clear a1;obtain⟨w',rfl⟩:=oY d.rx U;have g':=nW (P:=prog) (enc:=aC.bt) (λ_=>rfl) isAgg45 sizeOf45 d.rx pre.length Zp;rw[K]at g';have dF:=qP wr;obtain⟨D,r',CW,Y2,Zx⟩:=tb wr e;have a':=b8 Zc Y_;generalize wr.alloc (ae z9 45)=Zz at dF r';obtain⟨F,E⟩:∃ F:ai->ak,F=λW=>sU w B s xs (ao (some (ad w' 0 ab)) xs.length cap) pre (ao Y no co) wr.heap.size e W:=⟨_,rfl⟩;have G:F D.drew:=by rw[E];exact sU.keep ⟨d.keep Y2,CW⟩ (a_ D).drew
  have C:∀ {W},F W->sU w B s xs (ao (some (ad w' 0 ab)) xs.length cap) pre (ao Y no co) wr.heap.size e W:=λt=>by rw[E]at t;exact t
  have lb:∀ {W W'},F W->Keeps aG W W'->F W':=λt hk=>by rw[E]at t⊢;exact t.keep hk
  clear E;have vl:=λx:bp F=>aP ((C x.held).i.ld.fZ);have v':=λx:bp F=>aP ((C x.held).bM);have⟨o,Y6⟩:=cQ ((iS (hr s.bd pre).1 e.k).getD vo);have⟨p,ar⟩:=cQ (iS (hr s.bd pre).1 e.k).isSome;have y:∀ W,(∃ x:bp F,W=x.to)->(Instr.lookup 115 (.map (some B.db)) (aM e.k) true).run prog W=.ok (aV #[.agg (dU o),.bool p]) W:=λW ⟨x,f⟩=>by
   rw[f,Y6,ar];exact(C x.held).i.ld.find e.k a'.o.2
  have zp:=qP D.drew;obtain⟨m,Za,Zi,q,Zy⟩:=tb D.drew o;have Aw:=lb G ((a_ D.drew).alloc (ae z9 45));have H:=lb G q;have c:=af (C H);have Y8:=af ar;clear d f K Y_ Zc CW Y2 q Zi Y6 ar;go_wp2_with first|((with_reducible refine dm g' rfl rfl ?_ ?_);exact rfl)|(with_reducible refine ea dF rfl rfl ?_)|((with_reducible refine c8 r' rfl rfl ?_ ?_ ?_);exact rfl;exact rfl)
  refine cB 13 ?_;refine cC (F) (.range 13) 0 13 ?_;refine pM (G) (.range 10) 3 λhne=>?_
  repeat (first|(refine KL y rfl rfl rfl rfl ?_;simp only[Act.put,c_])|go_big_quiet_step (fail))
  refine wpQuiet_nil ?_;clear hne;refine qL 10 Aw (p5 rfl zp) ?_;refine qL 11 H (na rfl rfl rfl Za) ?_;simp only[Act.put];refine hX 12 H ?_;clear vl v' y Aw H G C lb dF zp r' Za g';have l:=c.o.i.out;have T':(hr s.bd pre).2.length<=10000:=by
   have:=OF s.bd pre
   omega
  obtain⟨Zr,ys,Tq,Y7,u,Zd,n7,c6,rfl⟩:=xm 32 l T' c.o.i.cv.size ⟨4,e,0,p⟩;have Zb:=b3 c.o.i.rx u (λj a e=>tL l c.o.i.rx bq e a);have Y4:=c.o.i.ld.keep u λj a=>c.o.i.ld.qC l bq bq a;have gf:=u.heap c.o.bM (tN l c.o.bM bq);have Y3:=cK c.o.i.cv u (λj a e=>by have:=(l.lt j e).1;omega);have bw:=(a_ ys).drew;have O:=Y4.ki bw;have Zj:=gf;have vl:=ie (S:=aG) (w:=ys.drew) O.fZ id;have v':=ie (S:=aG) (w:=ys.drew) gf id;obtain⟨Zq,V',Y5,L⟩:=O.J5 e a'.o.2 0;have h2:=O.bd;have m':=b3 Y7 bw (λ_ _=>id);have sd:=b3 Zb bw (λ_ _=>id);have St:rn w B s xs (ao (some (ad w' 0 ab)) xs.length cap) (pre++[e]) (ao Zd n7 c6) Zq:=by
   have ps:=rA s.bd pre e;rw[<-Y8.o]at ps;refine⟨?_,?_,(Y3.trans (bw.mono λ_ _ x=>x.elim)).trans L,b3 sd L (λj a e=>mb sd h2 a e)⟩
   .rw[ps];exact b3 m' L (λj a e=>mb m' h2 a e)
   rw[ps];exact Y5
  have Ze:=af St;have Zo:=jG c.o.bM;have Zk:=Vp e p m;have TS:=yD ⟨4,e,0,p⟩ m;generalize m.alloc (ae (di ⟨4,e,0,p⟩) 47)=ZA at Tq TS;clear St Zb Y4 gf Y3 bw O Zj Y5 L h2 m' sd l T' Y7 u Y8 c;go_wp2_with first|((with_reducible refine dm Zo rfl rfl ?_ ?_);exact rfl)|((with_reducible refine CN Zk rfl rfl ?_ ?_ ?_ ?_);exact rfl;exact rfl;exact rfl)|((with_reducible refine y0 TS rfl rfl ?_ ?_);exact rfl)|((with_reducible refine wk Tq rfl rfl ?_ ?_ ?_);exact rfl;exact rfl)
  refine cB 7 ?_;refine fk (λ_=>False) (.range 6) [] 1 (hC ?_);refine cC (λ_=>True) [6] 0 1 ?_;refine oW 6 trivial (KN rfl rfl rfl V') ?_;simp only[Act.put];clear vl v' V';go_wp2_with fail;go_roundg rest.length
  case measure=>omega
  exact⟨pre++[e],rest,a'.o.1,rfl,qg,⟨_,_,_,rfl⟩,Ze.o⟩
variable{b:J}{n:aa}{c7:aw}{bQ:ah eN}
def Bt(h:kB w b n c7 bQ)(k:dp):az 231 #[b,aM k] w λe w'=>Keeps aG w w'/\(e=.returned (I (-1))\/∃ i:J,i<bQ.length/\e=.returned (I i)):=by
 have a:=((a_ w).alloc (ae #[b] 105)).alloc (ae k 43);have f:(w.alloc (ae #[b] 105)).heap.size=w.heap.size+1:=aI;have c:=aW (w.alloc (ae #[b] 105)) (ae k 43);rw[f]at c;have h1:=h.keep a;have g:=bb (k:=0) (cm (aW w (ae #[b] 105)) (ae k 43)) rfl;have l:=aP h1.hd;have d:=af (Kr h1.row zM (Bc k) 296 #[.pointer (some (ad (w+1) 0 ab)),w.heap.size] (enters_of func296 aH rfl) (λW x aj=>by
  have hk:=Keeps.bE (S:=aG) aj a7;exact(Tm x.v x.ok k (w.heap.size+1) w.heap.size b n c7 (hk.heap c id) (hk.cell g id) (hk.heap h1.hd id)).mono λ_ _ aR=>⟨aR.1,aj.trans (aR.2.mono aj.size)⟩))
 obtain⟨A,cap,rfl,_,_⟩:=cP h.row
 go_in
 go_wp2_with fail;generalize World.alloc (World.alloc w _) _=an at *;exact Mu
def hM(w:ai)(b:J)(n:aa)(c7:aw)(w':ai):ak:=∃ a c,kB w' b n a c/\Keeps (λj=>j=b\/c7.ownBlock=some j) w w'/\∀ j,a.ownBlock=some j->c7.ownBlock=some j\/w.heap.size<=j
def hM.same(h:kB w b n c7 bQ)(hk:Keeps aG w w'):hM w b n c7 w':=⟨c7,bQ,h.keep hk,hk.mono λ_ _ x=>x.elim,λ_ a=>.inl a⟩
def hM.lz{an:ai}(hk:Keeps aG w an)(h:hM an b n c7 w'):hM w b n c7 w':=by
 exact M7
def kB.ne(h:kB w b n c7 bQ):∀ j,c7.ownBlock=some j->j≠b:=λj a e=>tN h.row (e▸h.hd) bq a
def FU{x:eN}:({x.v with cut:=0}:j').wf:=⟨x.ok.cn,x.ok.cF,x.ok.late,.inr rfl⟩
def Tg(h:kB w b n c7 bQ)(k:dp):az 162 #[b,aM k] w λe w'=>(∃ c,e=.returned (I c))/\hM w b n c7 w':=by
 have r:=(a_ w).alloc (ae k 43);have l:=aW w (ae k 43);have h1:=h.keep r;have f:=b8 h1 r
 go_in
 go_wp2_with fail;generalize w.alloc _=an at *;refine(Bt h1 k).mono ?_;rintro e aB ⟨m,E⟩;have h2:=f.out.1.keep m;have hk:=f.out.2.trans m;rcases E with rfl|⟨i,av,rfl⟩
 .have s:=af (hM.lz hk (hM.same h2 (Keeps.refl _ _)));go_wp2;go_ret;exact⟨⟨_,rfl⟩,s.o⟩
 obtain⟨A,cap,rfl,_,_⟩:=cP h2.row;obtain⟨g,rfl⟩:=oY h2.row U;have hd:=h2.keep (a_ aB).drew;have H:=ie (S:=aG) (w:=aB.drew) hd.hd id;obtain⟨y,q⟩:=cQ bQ[i];have C:∀ W,(∃ x:gU aG aB.drew,W=x.to)->(Instr.loadAt 175 (.pointer (some (ad g (i*12) ab)))).run prog W=.ok (.agg (mo y)) W:=λW ⟨x,G⟩=>by
  rw[G,q];exact nW (P:=prog) (enc:=eN.bt) (λ_=>rfl) isAgg175 sizeOf175 (b3 hd.row x.keeps (λ_ _=>id)) i av
 have t:=af hd;clear hd q h2;go_wp2_with fail;refine cB 19 ?_;refine oS (λ_=>False) (.range 16) [16] 2 ?_
 repeat (first|(refine j7 C rfl rfl rfl ?_;simp only[Act.put,c_])|go_big_quiet_step (fail))
 refine wpQuiet_nil ?_;refine km λK l=>?_;go_simp;refine aT ((λW=>X2 y.v y.ok W) _) λbn d=>?_;refine l _ _ (cX (d)) ?_;have a:=t.o.keep d;obtain⟨L,F,D,p⟩:=yA (P:=prog) (enc:=eN.bt) (λ_=>rfl) yU sizeOf175 a.row i av ⟨_,FU (x:=y)⟩;have B:=(hk.trans (a_ aB).drew).trans d;have u:=a.ne g rfl;have cE:=af (hM.lz B ⟨_,bQ.set i ⟨_,FU (x:=y)⟩,⟨p.heap a.hd (λe=>u e.symm),by rw[qa];exact D,by rw[qa];exact h.fX⟩,p.mono λj _ e=>.inr (by rw[e];rfl),λj z=>.inl z⟩);refine fk (λ_=>False) [17] [] 1 (hC ?_);refine cC (λ_=>True) [18] 0 1 ?_;refine oW 18 trivial (na rfl rfl rfl F) ?_;simp only[Act.put];exact sL
section
variable{P:Program}{α:Type}{enc:α->ah aw}{k base n cap g:J}{T T':TypeId}{ch:List α}
def U'{m:J}{c:ah aw}(hk:∀ x,(enc x).length=k)(h1:∀ v∈c,v.oneCell'=true)(r:∀ w,(Go.sizeOf T').run P w=.ok m w)(h:w.ownsRow base T k (ao (some (ad g 0 ab)) n cap) n (ch.flatMap enc))(i:J)(av:i<ch.length)(x:α)(q:enc x=c++(enc ch[i]).drop m)(aq:c.length=m)(hm:m<=k):∃ w',(Instr.storeAt T' (.pointer (some (ad g (i*k) ab))) (.agg c.toArray)).run P w=.ok () w'/\w'.ownsRow base T k (ao (some (ad g 0 ab)) n cap) n ((ch.set i x).flatMap enc)/\Keeps (λj=>j=g) w w':=by
 have⟨a,rest,a1,b,aj,au,l,ax⟩:=r3 h;have⟨s1,s2⟩:=xH (enc:=enc) hk i av;have s:a.size=i*k+k+((ch.drop (i+1)).flatMap enc).length+rest.length:=by
  rw[<-pe,b,s1];simp only[cx,s2,hk]
 have o:=qQ (P:=P) T' m g (i*k) c.toArray a T r (by simpa using aq) a1 U (by simpa using h1);refine⟨_,o,?_,iB w g _⟩;have p:=we a (i*k) c.toArray (by simp only[gR,aq];omega);have f:n*k=i*k+m+((enc ch[i]).drop m++(ch.drop (i+1)).flatMap enc).length:=by rw[<-h.1,s1];simp only[cx,gd,s2,hk];omega
 refine⟨by rw[xG i av];simp only[cx,s2,hk];rw[<-h.1,s1];simp only[cx,s2,hk],.inr ⟨g,cap,_,rfl,aj,fe w g a _ T a1,au,l,by rw[p];exact ax,?_⟩⟩;unfold eU;rw[xG i av,b,s1,f,q];simp only[gR,aq];have d:enc ch[i]=(enc ch[i]).take m++(enc ch[i]).drop m:=(lR _ _).symm;have e:=JV ((ch.take i).flatMap enc) ((enc ch[i]).take m) ((enc ch[i]).drop m++(ch.drop (i+1)).flatMap enc) rest c s2 (by rw[gw,hk];omega) aq
 rw[show(ch.take i).flatMap enc++enc ch[i]++(ch.drop (i+1)).flatMap enc++rest=(ch.take i).flatMap enc++(enc ch[i]).take m++((enc ch[i]).drop m++(ch.drop (i+1)).flatMap enc)++rest by
  conv=>lhs;rw[d]
  simp only[dD]]
 rw[e];simp only[dD]
def I7(hk:∀ x,(enc x).length=k)(h:w.ownsRow base T k (ao (some (ad g 0 ab)) n cap) n (ch.flatMap enc))(i:J)(av:i<ch.length)(j:J)(b:j<k){v:aw}(aX:(enc ch[i])[j]?=some v):w.cell? (ad g (i*k+j) ab)=some v:=by
 have⟨c,rest,a1,a,_⟩:=r3 h;refine bb a1 ?_;have h1:=xF hk ch i av j b;rw[aX]at h1;rw[<-nc,a,jL (hf.1 h1).1,h1]
end
def Kg(x:eN)(e:aC)(a:fw e=true)(bj:x.v.cn.cF=e.cF):eN:=⟨{x.v with cn:=e},⟨a,by show 1<=e.cF/\e.cF<=9;rw[<-bj];exact x.ok.cF,x.ok.late,x.ok.cut⟩⟩
def Tk(h:kB w b n c7 bQ)(e:aC)(F:fw e=true):az 161 #[b,aM e] w λr w'=>(∃ c,r=.returned (I c))/\hM w b n c7 w':=by
 have M:=(a_ w).alloc (ae e 45);have D:=aW w (ae e 45);have h1:=h.keep M;have X:=af (F▸vp e (w.alloc (ae e 45)));have q:=af (bD h1 (bD D M));have ps:=h.fX;have a':=jG (e:=e) D;have R:=af F;clear h D h1 M F
 go_in
 go_wp2_with ((with_reducible refine dm a' rfl rfl ?_ ?_);exact rfl);generalize w.alloc _=an at *;refine X.o.mono ?_;rintro r aB ⟨rfl,aj⟩;have t:=Keeps.bE (S:=aG) aj a7;have h2:=q.out.1.keep t;have a:=t.heap q.out.2.1 id;have hk:=q.out.2.2.trans t;have T:=af (Bt h2 e.k);have v':=aP a;have s:=af (bD h2 (bD a hk));clear aj t h2 a hk X q a';go_wp2_with fail;clear v';refine T.o.mono ?_;rintro r bn ⟨u,s'⟩;have d:=s.out.1.keep u;have a:=u.heap s.out.2.1 id;have hk:=s.out.2.2.trans u;clear T s u;rcases s' with rfl|⟨i,av,rfl⟩
 .have m':=af (hM.lz (hk.trans (a_ bn).drew) (hM.same (d.keep (a_ bn).drew) (Keeps.refl _ _)));clear d hk a;go_wp2_with fail;refine cB 30 ?_;refine fk (λ_=>False) (.range 30) [] 0 (hC ?_);refine ih ?_;go_wp2_with fail;go_ret;exact⟨⟨_,rfl⟩,m'.o⟩
 obtain⟨A,cap,rfl,_,_⟩:=cP d.row;obtain⟨g,rfl⟩:=oY d.row U;have hd:=d.keep (a_ bn).drew;have E:=(a_ bn).drew.heap a id;obtain⟨y,z⟩:∃ y,y=bQ[i]:=⟨_,rfl⟩;have C:=ie (S:=aG) (w:=bn.drew) hd.hd id;have N:∀ x:gU aG bn.drew,x.to.cell? (ad g (i*12+4) ab)=some (I y.v.cn.cF):=λx=>I7 (enc:=eN.bt) (λ_=>rfl) (b3 hd.row x.keeps (λ_ _=>id)) i av 4 U (by rw[z];rfl);have O:∀ x:gU aG bn.drew,x.to.cell? (ad g (i*12+8) ab)=some (I y.v.cn.le):=λx=>I7 (enc:=eN.bt) (λ_=>rfl) (b3 hd.row x.keeps (λ_ _=>id)) i av 8 U (by rw[z];rfl);have l':=ie (S:=aG) (w:=bn.drew) E id;have zd:(i:aa)<(bQ.length:aa):=U;have ys:decide ((i:aa)<0)=false:=cZ U;have l:=af (bD hd (bD E (bD hk z)));obtain⟨f,L⟩:∃ f,f=y.v.cn.cF:=⟨_,rfl⟩;obtain⟨B,g'⟩:∃ B,B=y.v.cn.le:=⟨_,rfl⟩;rw[<-L]at N;rw[<-g']at O;have Q:=af L;clear hd E hk z d a L g';by_cases bj:f=e.cF
 .subst bj;by_cases H:B=e.le
  .subst H;go_wp2_with fail;refine cB 30 ?_;refine fk (λ_=>False) (.range 30) [] 0 (hC ?_);refine ih ?_;clear C N O l';have p:=l.o.1.keep (a_ bn.drew).drew;have Y:=l.o.2.1;have C:=ie (S:=aG) (w:=bn.drew.drew) p.hd id;have lb:∀ W,(∃ x:gU aG bn.drew.drew,W=x.to)->(Instr.loadAt 45 w.heap.size).run prog W=.ok (aM e) W:=λW ⟨x,vl⟩=>by rw[vl];exact jG (e:=e) (x.keeps.heap Y id)
   obtain⟨CW,gf,fr,G⟩:=U' (P:=prog) (enc:=eN.bt) (T':=45) (m:=9) (c:=(dU e).toList) (λ_=>rfl) (ff.1 (vn e)) sizeOf45 p.row i av (Kg y e R.out Q.o.symm) (by rw[<-l.o.2.2.2];rfl) rfl U;have Z:=(l.o.2.2.1.trans (a_ bn).drew).trans (a_ bn.drew).drew;have r':g≠b:=p.ne g rfl;have cE:=af (hM.lz Z ⟨_,bQ.set i (Kg y e R.out Q.o.symm),⟨G.heap p.hd (λe=>r' e.symm),by rw[qa];exact fr,by rw[qa];exact ps⟩,G.mono λj _ e=>.inr (by rw[e];rfl),λj sd=>.inl sd⟩);clear p Y fr Z;go_wp2_with fail;refine cB 9 ?_;refine oS (λ_=>False) (.range 8) [] 1 ?_
   repeat (first|(refine j7 lb rfl rfl rfl ?_;simp only[Act.put,c_])|go_big_quiet_step (fail))
   refine wpQuiet_nil ?_;refine hC ?_;refine cC (λ_=>True) [8] 0 1 ?_;refine kn 8 λK V=>?_;refine na rfl rfl rfl gf ?_;refine V _ _ (trivial) ?_;clear V K;simp only[Act.put];clear gf G C lb;exact sL
  have hne:(B == e.le)=false:=er.2 H;clear H;exact Mq
 have hne:(f == e.cF)=false:=er.2 bj;have zp:(f != e.cF)=true:=DB.2 bj;have Aw:decide (f=e.cF)=false:=cZ bj;clear bj;exact Mq
def Ob(n:aa)(h:¬ (1<=n/\n<=9))(w:ai):az 230 #[I n] w λe w'=>e=aV #[I 0,I 14]/\w=w':=by
 have aj:fO n 1 9=false:=by unfold fO;rw[<-C0];simpa using h
 go_in
 exact Lw
def Tn(v:j')(h:v.wf)(c b:J)(n:aa)(c7:aw)(hm:w.cell? (ad c 0 ab)=some (.pointer (some (ad b 0 ab))))(aj:w.heap[b]?=some (ae #[I n,I 0,c7] 177 (0,0))):az 233 #[aM v,c] w λr w'=>r=.returned (.bool (mM v))/\Below w w w':=by
 have ca:=(bY w.heap.size w).alloc bA (ae v 175);have a:=aW w (ae v 175);have g:=dK ((ca.cell (p:=ad c 0 ab) (mq w (ad c 0 ab) hm)).trans hm);have d:=af (λx:kz (w.alloc (ae v 175))=>Ks v h x.to);have l:=dK (bb (k:=0) a rfl);have m:=dK (bb (k:=1) a rfl);have q:=dK (bb (k:=2) a rfl);have s:=dK (bb (k:=3) a rfl);have t:=dK (bb (k:=4) a rfl);have u:=dK (bb (k:=5) a rfl);have y:=dK (bb (k:=6) a rfl);have z:=dK (bb (k:=7) a rfl);have A:=dK (bb (k:=8) a rfl);have B:=dK (bb (k:=9) a rfl);have C:=dK (bb (k:=10) a rfl);have D:=dK (bb (k:=11) a rfl);have i:=dK (bb (k:=1) (cm aj (ae v 175)) rfl);generalize mM v=j at *
 go_in
 go_wp2_with fail;refine o9 aH aH ?_
 repeat (go_big_quiet_step (first|(go_at_call 234;exact Calls.ka (d.o _))))
 refine wpQuiet_nil ?_;intro _ e;obtain⟨x,f⟩:=e;subst f;go_wp2_with fail;go_ret;exact⟨rfl,ca.trans (x.below.mono ca.size)⟩
def Hq:∃ i z,prog.info? 175=some i/\i.zero=some z/\i.size=12/\i.bytes=96/\z.cells.size=12:=by
 have h:(prog.info? 175).map (λi=>(i.zero.map λz=>z.cells.size,i.size,i.bytes))=some (some 12,12,96):=aH;cases aR:prog.info? 175 with
 | none=>rw[aR]at h;cases h
 | some i=>
  rw[aR]at h;simp only[pb,hi,jq]at h;cases a:i.zero with
  | none=>rw[a]at h;cases h.1
  | some z=>rw[a]at h;exact⟨i,z,rfl,a,h.2.1,h.2.2,by simpa using h.1⟩
def X6{base:J}{v:aw}{cs:ah eN}(ty:TypeId)(h:w.ownsRow base 175 12 v cs.length (vcs cs))(au:cs.length<=10000)(aj:base<=w.heap.size)(c:eN):∃ v' an,(Builtin.append_ #[71,71] ty #[v,ao (some (ad w 0 ab)) 1 1]).run prog (w.alloc (ae (mo c) 175))=.ok v' an/\an.ownsRow base 175 12 v' (cs++[c]).length (vcs (cs++[c]))/\Keeps (λj=>v.ownBlock=some j) w an/\∀ j,v'.ownBlock=some j->v.ownBlock=some j\/w.heap.size<=j:=by
 have⟨i,z,av,l,h1,h2,d⟩:=Hq
 obtain⟨v',an,k,g,a1,_,f⟩:=wA (P:=prog) (w.alloc (ae (mo c) 175)) base 71 ty 175 i z 12 96 underlying71 av l h1 h2 d bq v cs.length (vcs cs) (h.alloc _) (ad w 0 ab) 1 1 (mo c).toList rfl
  (λj u a=>by
   rw[hN,gv];exact bb (aW w (ae (mo c) 175)) zP) (yU c) jR U bU
 refine⟨v',an,k,?_,((Keeps.refl _ w).alloc _).grown a1 (λj e=>.inl e),λj b=>?_⟩
 .rw[show vcs (cs++[c])=vcs cs++(mo c).toList by simp[vcs,eN.bt],cx,iM];exact g
 rcases f with e|e
 .exact .inl (e▸b)
 rw[b]at e;simp at e;omega
def vP(e:aC)(late:aa)(a:fw e=true)(bj:1<=e.cF/\e.cF<=9)(b:0<=late/\late<=1000000):eN:=⟨⟨e,late*32,-1⟩,⟨a,bj,by show 0<=late*32/\late*32<=1000000000;omega,.inl rfl⟩⟩
def oX{base k m:J}{T:TypeId}{v:aw}{l:ah aw}(h:w.ownsRow base T k v m l){j:J}(e:v.ownBlock=some j):j<w.heap.size:=by
 rcases h.2 with⟨rfl,_⟩|⟨g,cap,a,rfl,_,aR,_⟩
 .cases e
 obtain rfl:g=j:=by simpa[Value.ownBlock]using e
 exact bR aR
def Tj(h:kB w b n c7 bQ)(e:aC)(he:fw e=true)(late:aa)(Y8:0<=late/\late<=1000000):az 158 #[b,aM e,I late] w λr w'=>(∃ c,r=.returned (I c))/\hM w b n c7 w':=by
 have Tq:=((a_ w).alloc (ae #[b] 105)).alloc (ae e 45);have Zf:(w.alloc (ae #[b] 105)).heap.size=w.heap.size+1:=aI;have q:=cm (aW w (ae #[b] 105)) (ae e 45);have g:=aW (w.alloc (ae #[b] 105)) (ae e 45);rw[Zf]at g;have h1:=h.keep Tq;have s:∀ j,c7.ownBlock=some j->j<w.heap.size:=λj l=>oX h.row l;have sd:=aP q;have Y3:=af (he▸vp e ((w.alloc (ae #[b] 105)).alloc (ae e 45)));have Y9:=jG (e:=e) g;have F:=b8 h1 (bD q (bD g (bD Tq s)));have M:=af he;have G:=af Y8;have ys:=af (bR h.hd);have Zg:decide (late<0)=false:=cZ U;have Zh:decide (1073741824<late)=false:=cZ U;have Zi:decide (late>1073741824)=false:=cZ U;clear h q g h1 Tq he Zf Y8 s
 go_in
 go_wp2_with ((with_reducible refine dm Y9 rfl rfl ?_ ?_);exact rfl);generalize World.alloc (World.alloc w _) _=an at *;refine aT Y3.o λaB aj=>?_;have R:=Keeps.bE (S:=aG) aj a7;have h2:=F.o.1.keep R;have q:=R.heap F.o.2.1 id;have g:=R.heap F.o.2.2.1 id;have hk:=F.o.2.2.2.1.trans R;have s:=F.o.2.2.2.2;have sd:=aP q;have Zo:=aP g;have t:=b8 h2 (bD q (bD g (bD hk s)));clear aj R h2 q g hk s Y3 F Y9;by_cases P:1<=e.cF/\e.cF<=9;rotate_left
 .have Y:=af (Ob e.cF P aB);have cE:=af (hM.lz t.o.2.2.2.1 (hM.same t.o.1 (a_ aB)));clear P;go_wp2_with fail;refine br Y.o ?_;exact sL
 have Y:=af (Aa e.cF P aB);have L:=af P;have Y2:=af (Bt t.o.1 e.k);clear P;go_wp2_with fail;refine br Y.o ?_;go_wp2_with fail;refine Y2.o.mono ?_;rintro r bn ⟨V,Zj⟩;clear sd Zo Zg Zh Zi Y Y2;have X:=t.out.1.keep V;have q:=V.heap t.out.2.1 id;have g:=V.heap t.out.2.2.1 id;have hk:=t.out.2.2.2.1.trans V;have s:=t.out.2.2.2.2;clear t V;rcases Zj with rfl|⟨i,av,rfl⟩
 rotate_left
 .have cE:=af (hM.lz hk (hM.same X (a_ bn)));have Zp:decide (0<=(i:aa))=true:=ed U;have Zq:decide ((i:aa) >= 0)=true:=ed U;clear X q g hk s av;exact sL
 have hd:=(a_ bn).drew;have C:=X.keep hd;have D:=hd.heap q id;have Q:=hd.heap g id;have ps:=C.ne;have W':=af (X3 C.row (by have:=C.fX;omega) (λx=>mM x.v) 233 #[w.heap.size] (enters_of func233 aH rfl) (λW Y4 x=>Tn x.v x.ok w.heap.size b n c7 (bb (k:=0) (Y4.heap D (λe=>qd _ (s _ e))) rfl) (Y4.heap C.hd (λe=>ps _ e rfl))));have TS:=ie (S:=(λj=>c7.ownBlock=some j)) (w:=bn.drew) D (λe=>qd _ (s _ e));have Zn:=ie (S:=(λj=>c7.ownBlock=some j)) (w:=bn.drew) C.hd (λe=>ps _ e rfl);have d:=b8 C (bD D (bD Q (bD (hk.trans hd) (bD s ps))));clear X q g hk s hd C D Q ps;go_wp2_with fail;refine cB 10 ?_;refine fk (λj=>c7.ownBlock=some j) (.range 5) [5,6] 3 ?_;refine ig (cX (Keeps.refl _ _)) ?_;refine km λK y=>?_;go_simp;refine W'.o.mono ?_;rintro r B ⟨v',rfl,r',H,gf⟩;refine y _ _ (cX (H)) ?_;clear y K;clear TS Zn W';have V':=d.out.2.2.2.1.mono (T:=λj=>c7.ownBlock=some j) (λ_ _ x=>x.elim) |>.trans H
 have Aw:=H.heap d.out.1.hd (λe=>d.out.2.2.2.2.2 _ e rfl);have D:=H.heap d.out.2.1 (λe=>qd _ (d.out.2.2.2.2.1 _ e));have Q:=H.heap d.out.2.2.1 (λe=>by have:=d.out.2.2.2.2.1 _ e;omega);have St:=bJ Aw;have z:∀ j,v'.ownBlock=some j->j≠b/\j<w.heap.size:=λj l=>⟨d.out.2.2.2.2.2 j (gf▸l),d.out.2.2.2.2.1 j (gf▸l)⟩;have E:(bQ.filter λx=>!mM x.v).length<=64:=b7 (mv _ _) d.out.1.fX;obtain⟨us,Ze⟩:=cQ (bQ.filter λx=>!mM x.v);rw[<-Ze]at r' E;obtain⟨A,cap,rfl,_,_⟩:=cP r';have m:=b8 r' (bD V' (bD Aw (bD D (bD Q (bD z (bD E (bD gf (bD d.out.2.2.2.2.1 d.out.2.2.2.2.2))))))));clear r' V' Aw D Q z E gf d H Ze;have bs:=aP m.o.2.2.1;refine fk (λ_=>False) [7,8] [] 1 (hC ?_);refine cC (λ_=>True) [9] 0 1 ?_;refine hX 9 trivial ?_;clear bs St;have CW:=bW m.o.2.2.1 2 (ao A us.length cap);simp only[c_]at CW;have eI:Keeps (λj=>j=b\/c7.ownBlock=some j) B (B.setCell (ad b 2 ab) (ao A us.length cap)):=(Keeps.refl _ B).setCell (.inl rfl) (ao A us.length cap);have en:Keeps (λj=>j=b) B (B.setCell (ad b 2 ab) (ao A us.length cap)):=(Keeps.refl (λj=>j=b) B).setCell (p:=ad b 2 ab) rfl (ao A us.length cap);have Za:=b3 m.o.1 en (λj l e=>(m.o.2.2.2.2.2.1 j l).1 e);have Z:=en.heap m.o.2.2.2.1 (λe=>by have:=ys.out;omega);have zp:=en.heap m.o.2.2.2.2.1 (λe=>by have:=ys.out;omega);have N:kB (B.setCell (ad b 2 ab) (ao A us.length cap)) b n (ao A us.length cap) us:=⟨CW,Za,m.o.2.2.2.2.2.2.1⟩;have m':=(m.o.2.1.mono (T:=λj=>j=b\/c7.ownBlock=some j) (λ_ _ x=>.inr x)).trans eI;have z:=m.o.2.2.2.2.2.1;have g':=m.o.2.2.2.2.2.2.2.1;clear CW eI en Za m;generalize B.setCell (ad b 2 ab) (ao A us.length cap)=f at *;have sd:=aP Z;have Zl:=aP N.hd;by_cases E:64<=us.length
 .have cE:=af (show hM w b n c7 f from⟨_,us,N,m',λj l=>.inl (g'▸l)⟩);have a1:decide ((64:aa)<=(us.length:aa))=true:=ed U;have T':decide ((us.length:aa) >= (64:aa))=true:=ed U;clear N Z zp m' z g' E;exact sL
 have a1:decide ((64:aa)<=(us.length:aa))=false:=cZ U;have T':decide ((us.length:aa) >= (64:aa))=false:=cZ U;have l':=(a_ f).drew;have O:=N.keep l';have⟨v2,s',a',Zb,Y6,Y5⟩:=X6 71 O.row U (c' _) (vP e late M.out L.out G.out);have Y':=O.ne;have Y_:∀ W,(∃ x:gU (λj=>(ao A us.length cap).ownBlock=some j) f.drew,W=x.to)->(Instr.loadAt 45 (w.heap.size+1:J)).run prog W=.ok (aM e) W:=λW ⟨x,Zk⟩=>by
  rw[Zk];exact jG (e:=e) (x.keeps.heap (l'.heap zp id) (λe=>by have:=(z _ e).2;omega))
 have TS:=ie (S:=(λj=>(ao A us.length cap).ownBlock=some j)) (w:=f.drew) (l'.heap Z id) (λe=>qd _ (z _ e).2);have Zm:=ie (S:=(λj=>(ao A us.length cap).ownBlock=some j)) (w:=f.drew) O.hd (λe=>Y' _ e rfl);have Y7:Keeps (λj=>(ao A us.length cap).ownBlock=some j) f.drew (f.alloc (ae #[I e.k.fr,I e.k.em,I e.k.bN,I e.k.cp,I e.cF,I e.dq,I e.eo,I e.dJ,I e.le,I 0,I (late*32),I (-1)] 175)).drew:=(Keeps.refl (λj=>(ao A us.length cap).ownBlock=some j) f.drew).alloc (ae #[I e.k.fr,I e.k.em,I e.k.bN,I e.k.cp,I e.cF,I e.dq,I e.eo,I e.dJ,I e.le,I 0,I (late*32),I (-1)] 175);have a':(Builtin.append_ #[71,71] 71 #[ao A us.length cap,ao (some (ad f 0 ab)) 1 1]).run prog (f.alloc (ae #[I e.k.fr,I e.k.em,I e.k.bN,I e.k.cp,I e.cF,I e.dq,I e.eo,I e.dJ,I e.le,I 0,I (late*32),I (-1)] 175)).drew=.ok v2 s':=a';have a:=b8 O (bD Zb (bD Y6 (bD Y5 (bD m' (bD z (bD g' E))))));clear N Z zp m' z g' E O Zb Y6 Y5 Y' l';go_wp2_with fail;clear sd Zl a1 T';refine cB 18 ?_;refine oS (λj=>(ao A us.length cap).ownBlock=some j) (.range 13) [13,14] 3 ?_
 repeat (first|(refine j7 Y_ rfl rfl rfl ?_;simp only[Act.put,c_])|go_big_quiet_step (fail))
 refine wpQuiet_nil ?_;refine f_ λK y=>?_;go_simp;have hw:wrap64 (late*32)=late*32:=by have:=G.out;unfold wrap64;omega
 rw[hw];refine y _ _ (cX (Y7)) ?_;clear y K;refine km λK y=>?_;refine Lib.wp_append_run _ (.tmp 55) (.tmp 64) 71 71 rfl _ _ rfl rfl _ _ a' ?_;refine y _ _ (cX (a.o.2.2.1)) ?_;clear y K;clear TS Zm Y_ Y7 hw a';obtain⟨vl,zd,rfl,_,_⟩:=cP a.o.2.1;have lb:=a.o.2.2.1.heap a.o.1.hd (λe=>a.o.1.ne _ e rfl);have St:=bJ lb;have bs:=aP lb;simp only[Act.put,c_];refine fk (λ_=>False) [15,16] [] 1 (hC ?_);refine cC (λ_=>True) [17] 0 1 ?_;refine hX 17 trivial ?_;clear bs St;have eI:Keeps (λj=>j=b\/(ao A us.length cap).ownBlock=some j) f.drew (s'.setCell (ad b 2 ab) (.slice vl (us++[vP e late M.out L.out G.out]).length zd)):=(a.o.2.2.1.mono (λ_ _ x=>.inr x)).trans ((Keeps.refl _ s').setCell (.inl rfl) _);have Q':=bW lb 2 (.slice vl (us++[vP e late M.out L.out G.out]).length zd);simp only[c_]at Q';have Zd:w.heap.size<=f.heap.size:=a.o.2.2.2.2.1.size;have Zc:=b3 (S:=λj=>j=b) a.o.2.1 ((Keeps.refl (λj=>j=b) s').setCell (p:=ad b 2 ab) rfl (.slice vl (us++[vP e late M.out L.out G.out]).length zd)) (λj l e=>by
  subst e;rcases a.out.2.2.2.1 _ l with u|u
  .exact a.out.1.ne _ u rfl
  .have:=ys.out
   simp at u;omega)
 have cE:=af (show hM w b n c7 _ from⟨_,us++[vP e late M.out L.out G.out],⟨Q',Zc,by have:=a.out.2.2.2.2.2.2.2;simp;omega⟩,(a.out.2.2.2.2.1.trans (kQ (a_ f).drew)).trans (eI.mono λj _ x=>x.imp id λu=>a.out.2.2.2.2.2.2.1▸u),λj l=>by
  rcases a.out.2.2.2.1 _ l with u|u
  .exact .inl (a.out.2.2.2.2.2.2.1▸u)
  .exact .inr (b7 Zd u)⟩)
 clear lb eI Q' Zd Zc a;exact Lh
structure k9(w:ai)(b:J)(df:aw)(ps:ah dI):ak where
 hd:w.heap[b]?=some (ae #[df] 291 (0,0))
 row:w.ownsRow 0 296 10 df ps.length (d' ps)
 fX:ps.length<=32
def k9.keep{b:J}{df:aw}{ps:ah dI}(h:k9 w b df ps)(hk:Keeps aG w w'):k9 w' b df ps:=⟨hk.heap h.hd id,b3 h.row hk (λ_ _=>id),h.fX⟩
def k9.ne{b:J}{df:aw}{ps:ah dI}(h:k9 w b df ps):∀ j,df.ownBlock=some j->j≠b:=λj a e=>tN h.row (e▸h.hd) bq a
def im(w:ai)(b:J)(df:aw)(w':ai):ak:=∃ a c,k9 w' b a c/\Keeps (λj=>j=b\/df.ownBlock=some j) w w'/\∀ j,a.ownBlock=some j->df.ownBlock=some j\/w.heap.size<=j
def im.same{b:J}{df:aw}{ps:ah dI}(h:k9 w b df ps)(hk:Keeps aG w w'):im w b df w':=⟨df,ps,h.keep hk,hk.mono λ_ _ x=>x.elim,λ_ a=>.inl a⟩
def im.lz{b:J}{df:aw}{an:ai}(hk:Keeps aG w an)(h:im an b df w'):im w b df w':=by
 exact M7
def P1(p:dI)(k:dp)(en:J)(hk:w.heap[en]?=some (ae k 43 (0,0))):az 299 #[aM p,en] w λr w'=>r=.returned (.bool (decide (p.k=k)))/\Below w w w':=by
 have a:=aW w (ae p 296);have c:=aP (cm hk (ae p 296));have b:=Av p.k k
 go_in
 go_wp2;go_ret;exact⟨rfl,((bY w.heap.size w).alloc bA (ae p 296))⟩
def rW(f:aa)(p:dI):aY:=decide (p.tp<=wrap64 (f-p.k.fr))&&(p.JU == 0 || decide (15<=wrap64 (f-p.k.fr)))
def P2(p:dI)(f:aa)(w:ai):az 155 #[aM p,I f] w λr w'=>r=.returned (.bool (rW f p))/\Below w w w':=by
 have a:=aP (aW w (ae p 296));have gS:=af ((bY w.heap.size w).alloc bA (ae p 296))
 go_in
 go_upto_region 1 with fail
 generalize World.alloc w _=an at *;go_wp2
 all_goals
  go_ret;refine⟨?_,gS.o⟩;unfold rW;simp[*]<;>omega
def kC(w:ai):ak:=∀ j,j<40->∃ v,w.cell? (ad 0 j ab)=some (I v)
def kC.keep{T:J->ak}(h:kC w)(hk:Keeps T w w')(a:¬ T 0):kC w':=λj b=>by
 obtain⟨v,aX⟩:=h j b;exact⟨v,hk.cell aX a⟩
def SJ(h:kC w)(k:J)(hk:k<10):∃ a b c d:aa,∀ o,o=k*4->(Instr.loadAt 294 (.pointer (some (ad 0 o ab)))).run prog w=.ok (aM #[I a,I b,I c,I d]) w:=by
 have⟨a,bj⟩:=h (k*4) U;have⟨b,aj⟩:=h (k*4+1) U;have⟨c,aq⟩:=h (k*4+2) U;have⟨d,hd⟩:=h (k*4+3) U;refine⟨a,b,c,d,λo f=>?_⟩;subst f;have h:=wB (P:=prog) w (ad 0 (k*4) ab) [I a,I b,I c,I d] (λj v e=>by
  rw[hN]
  match j,e with
  | 0,e=>cases e;exact bj
  | 1,e=>cases e;exact aj
  | 2,e=>cases e;exact aq
  | 3,e=>cases e;exact hd)
 simp only[dr,e2]at h;simp only[Instr.loadAt,Instr.sureAddr,loadVar,hz,h5,hg,isAgg294,sizeOf294,if_true];simp only[gv,Nat.reduceAdd]at h;rw[h];rfl
def Gh(h:kC w)(k:aa):az 235 #[I k] w λr w'=>(∃ a b c d:aa,r=.returned (aM #[I a,I b,I c,I d]))/\Below w w w':=by
 have j:(Instr.alloc 294 true (aV #[])).run prog w=.ok w.heap.size (w.alloc (ae z4 294)):=aH;have p:=aW w (ae z4 294);have hne:w.heap.size≠0:=λe=>by
  obtain⟨v,aX⟩:=h 0 U
  have:=mq _ _ aX
  omega
 have fin:∀ a b c d:aa,∃ W,(Instr.storeAt 294 w.heap.size (aM #[I a,I b,I c,I d])).run prog (w.alloc (ae z4 294))=.ok () W/\W.heap[w.heap.size]?=some (ae #[I a,I b,I c,I d] 294 (0,0))/\Below w w W:=λa b c d=>by
  obtain⟨h1,h2,q⟩:=dO (w.alloc (ae z4 294)) 294 4 w.heap.size #[I a,I b,I c,I d] _ sizeOf294 rfl rfl p rfl;exact⟨_,h1,fe _ _ _ _ _ p,(cK ((a_ w).alloc (ae z4 294)) q a7).below bA (λ_ _ e=>e)⟩
 by_cases hk:0<=k/\k<10
 .obtain⟨n,rfl⟩:∃ n:J,k=n:=⟨k.toNat,U⟩;have au:n<10:=U;obtain⟨a,b,c,d,s⟩:=SJ (h.keep ((a_ w).alloc (ae z4 294)) id) n au;obtain⟨W,g,i,l⟩:=fin a b c d;have d1:=cZ U;have d2:=cZ U;have t:=cZ U;have f:=b8 i l;generalize w.alloc (ae z4 294)=an at *
  go_in
  go_wp2_with first|refine ea j rfl rfl ?_|((with_reducible refine dm (s _ rfl) rfl rfl ?_ ?_);exact rfl)|refine c8 g rfl rfl rfl rfl ?_
  have m:=dv _ _ _ _ f.o.1 4 rfl;refine dn (v:=aM #[I a,I b,I c,I d]) m ?_;exact⟨⟨_,_,_,_,rfl⟩,f.o.2⟩
 have⟨W,g,i,l⟩:=fin 0 0 0 0;have f:=b8 i l;generalize w.alloc (ae z4 294)=an at *;by_cases hk:k<0
 .have d1:=ed hk
  go_in
  go_wp2_with first|refine ea j rfl rfl ?_|refine c8 g rfl rfl rfl rfl ?_
  have m:=dv _ _ _ _ f.o.1 4 rfl;refine dn (v:=aM z4) m ?_;exact⟨⟨_,_,_,_,rfl⟩,f.o.2⟩
 have d1:=cZ hk
 go_in
 go_wp2_with first|refine ea j rfl rfl ?_|refine c8 g rfl rfl rfl rfl ?_
 refine dn (v:=aM z4) (dv _ _ _ _ f.o.1 4 rfl) ?_;exact⟨⟨_,_,_,_,rfl⟩,f.o.2⟩
variable{df:aw}{ps:ah dI}
def Gg(h:k9 w b df ps)(k:dp):az 236 #[b,aM k] w λe w'=>Keeps aG w w'/\(e=.returned (I (-1))\/∃ i:J,i<ps.length/\e=.returned (I i)):=by
 have a:=(a_ w).alloc (ae k 43);have h1:=h.keep a;have c:=aP h1.hd;have d:=af (IE h1.row zM (λp=>decide (p.k=k)) 299 #[w.heap.size] (enters_of func299 aH rfl) (λW x aj=>by
  have hk:=Keeps.bE (S:=aG) aj a7;exact(P1 x k w.heap.size (hk.heap (aW w (ae k 43)) id)).mono λ_ _ aR=>⟨aR.1,aj.trans (aR.2.mono aj.size)⟩))
 obtain⟨A,cap,rfl,_,_⟩:=cP h.row
 go_in
 go_wp2_with fail;generalize World.alloc w _=an at *;exact Mu
def PY(w:ai):az 132 #[] w λe w'=>e=.returned w.heap.size/\w'=w.alloc (ae #[ao none 0 0] 291):=by
 go_in
 go_wp2;go_ret;exact⟨rfl,rfl⟩
def Ps(a b c d:aa)(w:ai):∃ r,(binOp .eql 294 (aM #[I a,I b,I c,I d]) (aM z4)).run prog w=.ok (.bool r) w:=by
 refine⟨a == 0&&(b == 0&&(c == 0&&d == 0)),?_⟩;simp[go_sem]
 repeat' split
 all_goals simp_all
def GX:prog.eqGuardType prog.depth 294=false:=aH
def Hp:∃ i z,prog.info? 296=some i/\i.zero=some z/\i.size=10/\i.bytes=72/\z.cells.size=10:=by
 have h:(prog.info? 296).map (λi=>(i.zero.map λz=>z.cells.size,i.size,i.bytes))=some (some 10,10,72):=aH;cases aR:prog.info? 296 with
 | none=>rw[aR]at h;cases h
 | some i=>
  rw[aR]at h;simp only[pb,hi,jq]at h;cases a:i.zero with
  | none=>rw[a]at h;cases h.1
  | some z=>rw[a]at h;exact⟨i,z,rfl,a,h.2.1,h.2.2,by simpa using h.1⟩
def Ue{base:J}{v:aw}{cs:ah dI}(ty:TypeId)(h:w.ownsRow base 296 10 v cs.length (d' cs))(au:cs.length<=10000)(aj:base<=w.heap.size)(c:dI):∃ v' an,(Builtin.append_ #[289,289] ty #[v,ao (some (ad w 0 ab)) 1 1]).run prog (w.alloc (ae (lA c) 296))=.ok v' an/\an.ownsRow base 296 10 v' (cs++[c]).length (d' (cs++[c]))/\Keeps (λj=>v.ownBlock=some j) w an/\∀ j,v'.ownBlock=some j->v.ownBlock=some j\/w.heap.size<=j:=by
 have⟨i,z,av,l,h1,h2,d⟩:=Hp
 obtain⟨v',an,k,g,a1,_,f⟩:=wA (P:=prog) (w.alloc (ae (lA c) 296)) base 289 ty 296 i z 10 72 underlying289 av l h1 h2 d bq v cs.length (d' cs) (h.alloc _) (ad w 0 ab) 1 1 (lA c).toList rfl
  (λj u a=>by
   rw[hN,gv];exact bb (aW w (ae (lA c) 296)) zP) (BM c) jR U bU
 refine⟨v',an,k,?_,((Keeps.refl _ w).alloc _).grown a1 (λj e=>.inl e),λj b=>?_⟩
 .rw[show d' (cs++[c])=d' cs++(lA c).toList by simp[d',dI.bt],cx,iM];exact g
 rcases f with e|e
 .exact .inl (e▸b)
 rw[b]at e;simp at e;omega
structure uX(b:J)(df:aw)(ps:ah dI)(kd:J)(e:aC)(x y:aa)(W:ai):ak where
 dV:k9 W b df ps
 cn:W.heap[kd]?=some (ae e 45 (0,0))
 dH:W.heap[kd+1]?=some (ae #[ag x,ag y] 91 (0,0))
 tz:kC W
theorem uX.keep{kd:J}{e:aC}{x y:aa}(h:uX b df ps kd e x y w)(hk:Keeps aG w w'):uX b df ps kd e x y w':=⟨h.dV.keep hk,hk.heap h.cn id,hk.heap h.dH id,h.tz.keep hk id⟩
def PZ(h:k9 w b df ps)(Y6:kC w)(V':df.ownBlock≠some 0)(e:aC)(he:fw e=true)(x y:aa):az 159 #[b,aM e,aM #[ag x,ag y]] w λr w'=>(∃ c,r=.returned (I c))/\im w b df w':=by
 have Y:=((a_ w).alloc (ae e 45)).alloc (ae #[ag x,ag y] 91);have Y':(w.alloc (ae e 45)).heap.size=w.heap.size+1:=aI;have r':=cm (aW w (ae e 45)) (ae #[ag x,ag y] 91);have ys:=aW (w.alloc (ae e 45)) (ae #[ag x,ag y] 91);rw[Y']at ys;have Y9:=(tU he).1;have W':uX b df ps w.heap.size e x y _:=⟨h.keep Y,r',ys,Y6.keep Y id⟩;have Y2:=af (he▸vp e ((w.alloc (ae e 45)).alloc (ae #[ag x,ag y] 91)));have Y7:=jG (e:=e) r';have Y_:∀ j,df.ownBlock=some j->j<w.heap.size:=λj C=>oX h.row C;have fr:=b8 (bR h.hd) V';have L:=b8 W' (bD Y (bD Y_ Y9))
 go_in
 go_wp2_with ((with_reducible refine dm Y7 rfl rfl ?_ ?_);exact rfl);generalize World.alloc (World.alloc w _) _=an at *;refine aT Y2.o λaB aj=>?_;have Aw:=Keeps.bE (S:=aG) aj a7;have h2:=L.o.1.keep Aw;have Zh:=aP h2.cn;have vl:=af (Gh h2.tz e.k.bN);have M:=b8 h2 (L.o.2.1.trans Aw);have TS:=af L.o.2.2;go_wp2_with fail;refine vl.o.mono ?_;rintro r bn ⟨⟨lb,l',gI,fd,rfl⟩,aj⟩;have Q:=Keeps.bE (S:=aG) aj a7;have m':=M.out.1.keep Q;have Y4:∀ W,(Instr.build 294 #[]).run prog W=.ok (aM z4) W:=λW=>aH;obtain⟨Ze,E⟩:=Ps lb l' gI fd bn;have g:=b8 m' (M.out.2.trans Q);obtain⟨F,f⟩:∃ F:a6 aw,F=#[I lb,I l',I gI,I fd]:=⟨_,rfl⟩;rw[<-f]at E⊢;clear Zh vl aj Q m' M f;cases Ze with
 | true=>
  have cE:=af (im.lz g.out.2 (im.same g.out.1.dV (a_ bn)));go_wp2_with refine uo (tv GX _ _ _ _ _) E uL rfl rfl rfl ?_
  go_ret;exact⟨⟨_,rfl⟩,cE.o⟩
 | false=>
 have Zg:=aP g.out.1.cn;have f:=af (Gg g.out.1.dV e.k);go_wp2_with refine uo (tv GX _ _ _ _ _) E uL rfl rfl rfl ?_
 clear E Y4;refine f.o.mono ?_;rintro r H ⟨R,Y8⟩;have l:=g.out.1.keep R;have q:=b8 l (g.out.2.trans R);clear Zg f g R;rcases Y8 with rfl|⟨i,av,rfl⟩
 rotate_left
 .have cE:=af (im.lz q.out.2 (im.same q.out.1.dV (a_ H)));have Zi:decide (0<=(i:aa))=true:=ed U;have Zj:decide ((i:aa) >= 0)=true:=ed U;clear l av;exact sL
 have Za:=aP l.dV.hd;obtain⟨A,cap,rfl,_,_⟩:=cP l.dV.row;by_cases CW:32<=ps.length
 .have cE:=af (im.lz q.out.2 (im.same q.out.1.dV (a_ H)));have a1:decide ((32:aa)<=(ps.length:aa))=true:=ed U;have Z:decide ((ps.length:aa) >= (32:aa))=true:=ed U;clear l CW;exact sL
 have a1:decide ((32:aa)<=(ps.length:aa))=false:=cZ U;have Z:decide ((ps.length:aa) >= (32:aa))=false:=cZ U;have f:=l.keep (a_ H).drew;have gf:=af (q.out.2.trans (a_ H).drew);clear l q;go_wp2_with fail;clear Za a1 Z;obtain⟨G,m⟩:=hj (F:=λW=>(W.heap[b]?=some (ae #[ao A ps.length cap] 291 (0,0))/\W.heap[w.heap.size]?=some (ae e 45 (0,0))/\W.heap[w.heap.size+1]?=some (ae #[ag x,ag y] 91 (0,0))/\kC W));have Zb:=λx:bp G=>aP (((m _).1 x.held).1);have Zc:=λx:bp G=>aP (((m _).1 x.held).2.1);have Zd:=λx:bp G=>aP (((m _).1 x.held).2.2.1);have D:∀ W,uX b (ao A ps.length cap) ps w.heap.size e x y W->G W:=λW h=>(m W).2 ⟨h.dV.hd,h.cn,h.dH,h.tz⟩;have O:=D _ f;have v':=af (λW (Y3:G W)=>Gh ((m _).1 Y3).2.2.2 e.k.bN);have T':=af (show ps.length<32 by omega);refine cB 18 ?_;refine cC (G) (.range 15) 3 15 ?_;refine de (O) [0,1,2,3,4,5,6,7,9,10,11] 4 ?_;refine dC 8 λK B=>?_;go_simp;refine(v'.o _ O).mono ?_;rintro r Zf ⟨⟨dq,u,v,z,rfl⟩,aj⟩;have V:=Keeps.bE (S:=aG) aj a7;have d:=f.keep V;have N:=D _ d;refine B _ _ (N) ?_;clear B K;refine de (N) [12] 2 ?_;obtain⟨v2,Tq,zd,Q',t,zp⟩:=Ue 289 d.dV.row U (c' _) (dI.mk dq u v z e.k x y);have n:=t.heap d.dV.hd (λe=>d.dV.ne _ e rfl);have X:=TS.out.1;have sd:=(m Tq).2 ⟨n,t.heap d.cn (λe=>qd _ (X _ e)),t.heap d.dH (λe=>by have:=X _ e;omega),d.tz.keep t fr.out.2⟩;have s':=D _ (d.keep ((a_ Zf).alloc (ae (lA (dI.mk dq u v z e.k x y)) 296)));have a:=b8 d (bD Q' (bD t (bD zp (bD (gf.out.trans V) n))));clear Zb Zc Zd O N v' f d aj V Q' t zp CW m gf n X D;refine gZ 13 s' ?_;refine jg 14 λK B=>?_;refine Lib.wp_append_run _ (.tmp 38) (.tmp 47) 289 289 rfl _ _ rfl rfl _ _ zd ?_;refine B _ _ (sd) ?_;clear B K;clear s' sd;clear zd;obtain⟨a',g',rfl,_,_⟩:=cP a.o.2.1;have n:=a.o.2.2.2.2.2;have Y5:=bJ n;have bu:=aP n;clear n;simp only[Act.put,c_];refine fk (λ_=>False) [15,16] [] 1 (hC ?_);refine cC (λ_=>True) [17] 0 1 ?_;refine hX 17 trivial ?_;clear bu Y5;have P:=bW a.o.2.2.2.2.2 0 (.slice a' (ps++[dI.mk dq u v z e.k x y]).length g');simp only[sG,ra]at P;have St:=b3 (S:=λj=>j=b) a.o.2.1 ((Keeps.refl (λj=>j=b) Tq).setCell (p:=ad b 0 ab) rfl (.slice a' (ps++[dI.mk dq u v z e.k x y]).length g')) (λj C e=>by
  subst e;rcases a.out.2.2.2.1 _ C with s|s
  .exact a.out.1.dV.ne _ s rfl
  .have:=fr.out.1
   have:=a.out.2.2.2.2.1.size
   omega)
 have cE:=af (show im w b (ao A ps.length cap) _ from⟨_,ps++[dI.mk dq u v z e.k x y],⟨P,St,by have:=T'.out;simp;omega⟩,((a.out.2.2.2.2.1.mono (λ_ _ x=>x.elim)).trans (a.out.2.2.1.mono (T:=λj=>j=b\/(ao A ps.length cap).ownBlock=some j) λ_ _ x=>.inr x)).setCell (.inl rfl) _,λj C=>by
  rcases a.out.2.2.2.1 _ C with s|s
  .exact .inl s
  .exact .inr (b7 a.out.2.2.2.2.1.size s)⟩)
 clear P St a;exact Lh
def Va{ρ:Go.Shelf.Ren}(L:SlLaysE0.n41 prog ρ){a:TypeInfo}{z:aw}{k bytes:J}(av:prog.info? (ρ.t 23)=some a)(o:a.zero=some z)(h1:a.size=k)(h2:a.bytes=bytes)(i:z.cells.size=k)(hk:0<k)(p:∀ w,(Go.sizeOf (ρ.t 23)).run prog w=.ok k w){base n:J}{v:aw}{xs:ah aw}(h:w.ownsRow base (ρ.t 23) k v n xs)(au:n*bytes<=140737488355328)(m:∀ u∈xs,u.oneCell'=true):Calls prog (ρ.f 41) #[v] w λe w'=>∃ cL,e=.returned cL/\w'.ownsRow w.heap.size (ρ.t 23) k cL n xs/\Below w w w':=by
 rcases h.2 with⟨rfl,b⟩|⟨g,cap,s,rfl,a1,aR,aq,hm,ax,aN⟩
 .subst b;refine DD (AnyE.slices_Clone_nil (P:=prog) (ρ:=ρ) L 0 0 w) ?_;exact⟨_,rfl,(jn.1 (by rw[h.1,wM]))▸gB _ _ _ _,bY _ _⟩
 have⟨A,r,l,aX,_⟩:=cP h;cases l;refine(AnyE.slices_Clone (P:=prog) (ρ:=ρ) L a z k bytes av o h1 h2 i hk p g 0 n cap xs w h.1 (b7 aq hm) au (λj u c=>?_) m).mono ?_
 .have d:0<n:=by
   rcases rf n with e|e
   .have:=(hf.1 c).1
    rw[h.1,e,wM]at this;omega
   exact e
  exact LP
 rintro e w' ⟨v',rfl,h1,_,h2⟩;exact⟨v',rfl,h1,h2⟩
def X_:Go.Shelf.Ren:=⟨fun|41=>80|n=>n,fun|4=>4|22=>71|23=>175|n=>n,fun|n=>n⟩
def X9:SlLaysE0.n41 prog X_:={
 mixed:=aH
 f41:=⟨f80.name,bq,func80.trans (cV some aH)⟩
 t4:=underlying4
 a4:=isAgg4
 z4:=sizeOf4
 v4:=zeroValue4
 t22:=underlying71
 a22:=isAgg71
 z22:=sizeOf71
 v22:=zeroValue71}
def Tl(h:kB w b n c7 bQ):az 53 #[b] w λe w'=>(∃ A c k,e=.returned (ao A k c)/\k<=64)/\Keeps aG w w':=by
 have bs:=aP h.hd;have⟨i,z,av,l,h1,h2,d⟩:=Hq;have aU:=af (Va X9 av l h1 h2 d bq sizeOf175 h.row zM λu g=>by
  obtain⟨x,_,j⟩:=wI.1 g;exact yU x u j)
 go_in
 go_wp2_with fail;refine aU.o.mono ?_;rintro e an ⟨cL,rfl,f,aj⟩;obtain⟨A,c,rfl,_,_⟩:=cP f;have a:=af (Keeps.bE (S:=aG) aj a7);go_wp2;go_ret;exact⟨⟨_,_,_,rfl,h.fX⟩,a.o⟩
def Ie(n:aa)(au:1<=n/\n<=16)(w:ai):az 131 #[I n] w λe w'=>e=aV #[w.heap.size,I 0]/\w'=w.alloc (ae #[I n,I 0,ao none 0 0] 177):=by
 go_in
 go_wp2;go_ret2;exact⟨rfl,rfl⟩
def Ti(n:aa)(au:¬ (1<=n/\n<=16))(w:ai):az 131 #[I n] w λe w'=>e=aV #[.pointer none,I 1]/\w'=w:=by
 by_cases h1:n<1
 .have d1:=ed h1
  go_in
  go_wp2;go_ret2;exact⟨rfl,rfl⟩
 have d1:=cZ h1
 go_in
 go_wp2;go_ret2;exact⟨rfl,rfl⟩
def RMap.clear{P:Program}{k:TypeId}{dw:Type}{C:k_ P k dw}{b:J}{M:ah (dw×aw)}(h:RMap w C b M){t e:TypeId}(aN:P.underlying t=some (.map k e))(ty:TypeId):∃ w',(Builtin.clear_ #[t] ty #[.map (some b)]).run P w=.ok (aV #[]) w'/\RMap w' C b []/\Keeps (λj=>j=b) w w':=by
 obtain⟨c,⟨es,a,aj,F,ax,d⟩,_⟩:=h.own;refine⟨w.putObj b (.map #[] a),?_,⟨⟨[],⟨#[],a,World.putObj_heap_same (j8.1 aj).1,⟨aI,MapKept.stamped_empty a,aI⟩,c9 _,rfl⟩,ze _⟩,(λ_ h=>nomatch h),Pairwise.nil⟩,(Keeps.refl (λj=>j=b) w).putObj (l:=b) rfl _⟩;simp[Builtin.clear_,q3 aN,MapKept.run_getObj_map aj,MapKept.run_setObj_map _ aj,Result.andThen];rfl
def HM{B:dE}{s:cH}(h:IsLd w B s):az 23 #[B.b] w λe w'=>∃ v,e=.returned v/\w'.ownsRow w.heap.size 45 9 v s.bd.length (bX s.bd)/\Keeps aG w w':=by
 exact HL h.fZ h.bd h.ef (by have:=h.cy;omega)
def x'{B:dE}{s:cH}(h:IsLd w B s):az 17 #[B.b] w λe w'=>e=.returned (I s.aS)/\w=w':=by
 have a:=aP h.fZ
 go_in
 go_wp2;go_ret;exact⟨rfl,rfl⟩
def zT(w:ai)(B:dE)(s:cH)(e:Ending)(w':ai):ak:=
 ∃ v,e=.returned v/\w'.ownsRow w.heap.size 47 12 v (kg s).length (eA (kg s))/\w6 w B w' B (gJ s)/\∀ j,v.ownBlock=some j->¬ B.S j
def tf(xs:ah aC):ah cg:=xs.map λo=>⟨3,o,0,false⟩
structure sV(w:ai)(B:dE)(s:cH)(v:aw)(pre:ah aC)(cw:aw)(W:ai):ak where
 out:W.ownsRow w.heap.size 47 12 cw (tf pre).length (eA (tf pre))
 ld:IsLd W B {s with hd:=true}
 cv:Keeps (λj=>j=B.b) w W
 rx:W.ownsRow w.heap.size 45 9 v s.bd.length (bX s.bd)
theorem sV.keep{B:dE}{s:cH}{v:aw}{pre:ah aC}{cw:aw}{W W':ai}(h:sV w B s v pre cw W)(hk:Keeps aG W W'):sV w B s v pre cw W':=
 ⟨b3 h.out hk (λ_ _=>id),h.ld.ki hk,h.cv.trans (hk.mono λ_ _ x=>x.elim),b3 h.rx hk (λ_ _=>id)⟩
def Sj{B:dE}{s:cH}(h:IsLd w B s):az 97 #[B.b] w (zT w B s):=by
 have T':=h.cy;cases aR:s.hd with
 | true=>
  have f:=h.fZ;unfold mI at f;rw[aR]at f;have d4:=aP f;have fr:kg s=[]:=by unfold kg;rw[aR];rfl
  have gf:gJ s=s:=by unfold gJ;rw[aR];rfl
  have Y:=af (show zT w B s (.returned (ao none 0 0)) w from⟨_,rfl,by rw[fr];exact gB _ _ _ _,⟨by rw[gf];exact h,rfl,rfl,rfl,λj a=>.inl a,Keeps.refl _ _⟩,λj a=>by cases a⟩)
  go_in
  go_wp2_with fail;go_ret;exact Y.o
 | false=>
  have f:=h.fZ;unfold mI at f;rw[aR]at f;have d4:=aP f;have f4:=bJ f;have eI:=(Keeps.refl (λj=>j=B.b) w).setCell (p:=ad B.b 4 ab) rfl (.bool true);have h2:IsLd (w.setCell (ad B.b 4 ab) (.bool true)) B {s with hd:=true}:=h.JB (by simpa[mI]using bW h.fZ 4 (.bool true)) eI rfl rfl rfl h.c3;have ps:=af (HM h2);have g':kg s=tf s.bd:=by unfold kg;rw[aR];rfl
  have lb:gJ s={s with hd:=true,bd:=[]}:=by unfold gJ;rw[aR];rfl
  have k:=b8 h2 (bD eI (bD g' lb));have ys:(w.setCell (ad B.b 4 ab) (.bool true)).heap.size=w.heap.size:=aI
  go_in
  go_wp2_with fail;generalize w.setCell _ _=an at *;refine ps.o.mono ?_;rintro e aB ⟨v,rfl,t,G⟩;rw[ys]at t;have m':sV w B s v [] (ao none 0 0) aB:=⟨gB _ _ _ _,k.out.1.ki G,k.out.2.1.trans (G.mono λ_ _ x=>x.elim),t⟩;obtain⟨A,cap,rfl,_,_⟩:=cP t;have W:=af m';go_wp2_with fail;go_loopg [3,20] s.bd.length (λg cw z wr=>∃ pre rest:ah aC,s.bd=pre++rest/\g=rest.length/\z=I pre.length/\(∃ A n cap,cw=ao A n cap)/\sV w B s (ao A s.bd.length cap) pre cw wr)
  case atStart=>exact⟨[],s.bd,rfl,rfl,rfl,⟨_,_,_,rfl⟩,W.o⟩
  obtain⟨pre,rest,i,a1,rfl,⟨V,no,co,rfl⟩,c⟩:=hrel;cases rest with
  | nil=>
   have Tq:¬ (pre.length:aa)<(s.bd.length:aa):=by rw[i];simp
   have zd:s.bd=pre:=by rw[i,eX]
   have d1:=aP c.ld.fZ;have⟨Aw,l,v',q⟩:=c.ld.bd.clear underlying115 0;have r:=c.ld.B' (L:=[]) v' q Pairwise.nil (by have l':=c.ld.n;show((0:J):aa)<=s.most;have St:(s.bd.length:aa)<=s.most:=l'.1;omega);have M:=b3 c.out q (λj a e=>mb c.out c.ld.bd a e);have w':zT w B s (.returned (ao V no co)) Aw:=by
    refine⟨_,rfl,by rw[k.out.2.2.1,zd];exact M,⟨by rw[k.out.2.2.2];exact r,rfl,rfl,rfl,λj a=>.inl a,?_⟩,λj a=>r.AM (r.qC M bq bq a)⟩;exact(c.cv.mono (T:=B.S) (λj _ a=>.inl a)).trans (q.mono (T:=B.S) (λj _ a=>.inr (.inl a)))
   have Z:=af w';go_wp2_with ((with_reducible refine wm l rfl rfl ?_ ?_);exact rfl);go_ret;exact Z.o
  | cons e rest=>
   have vl:pre.length<s.bd.length:=by rw[i];simp
   have TS:(pre.length:aa)<(s.bd.length:aa):=U;have F:s.bd[pre.length]=e:=by simp[i]
   have O:s.bd=(pre++[e])++rest:=by rw[i];simp
   have sd:=a1;simp only[dr]at sd;clear a1;obtain⟨zp,rfl⟩:=oY c.rx U;have K:=nW (P:=prog) (enc:=aC.bt) (λ_=>rfl) isAgg45 sizeOf45 c.rx pre.length vl;rw[F]at K;have dF:=qP wr;obtain⟨Q,N,y,H,V'⟩:=tb wr e;have d:=c.keep H;have l:(tf pre).length<=10000:=by unfold tf;rw[hh];omega
   obtain⟨Q',CW,D,u,m,R,n7,c6,rfl⟩:=xm 32 d.out l d.cv.size ⟨3,e,0,false⟩;have C:sV w B s (ao (some (ad zp 0 ab)) s.bd.length cap) (pre++[e]) (ao R n7 c6) CW:=by
    refine⟨by unfold tf at u⊢;rw[jO];exact u,d.ld.keep m λj a=>d.ld.qC d.out bq bq a,cK d.cv m (λj a e=>by have:=(d.out.lt j e).1;omega),b3 d.rx m (λj a e=>tL d.out d.rx bq e a)⟩
   have X:=af C;have s':=jG y;have r':=Ja e;have E:=yD ⟨3,e,0,false⟩ Q;have a':=af O;generalize wr.alloc (ae z9 45)=W' at dF N;generalize Q.alloc (ae (di ⟨3,e,0,false⟩) 47)=Y2 at D E;clear c d i F y H l u m C O;go_wp2_with first|((with_reducible refine dm K rfl rfl ?_ ?_);exact rfl)|(with_reducible refine ea dF rfl rfl ?_)|((with_reducible refine c8 N rfl rfl ?_ ?_ ?_);exact rfl;exact rfl)|((with_reducible refine dm s' rfl rfl ?_ ?_);exact rfl)|((with_reducible refine su (r' _) rfl rfl ?_ ?_ ?_);exact rfl;exact rfl)|((with_reducible refine y0 E rfl rfl ?_ ?_);exact rfl)|((with_reducible refine wk D rfl rfl ?_ ?_ ?_);exact rfl;exact rfl)
   go_roundg rest.length
   case measure=>omega
   exact⟨pre++[e],rest,a'.o,rfl,qg,⟨_,_,_,rfl⟩,X.o⟩
def cH.new(n:aa):cH:=⟨n,[],λ_=>[],-1,false⟩
def HN(n:aa)(au:1<=n/\n<=256):az 130 #[I n] w λe w'=>e=aV #[.pointer (some (ad (w+2) 0 ab)),I 0]/\IsLd w' ⟨w+2,w.heap.size,w.heap.size+1,[]⟩ (cH.new n)/\Keeps aG w w'/\w'.heap.size=w.heap.size+3:=by
 have d:(w.alloc (.map #[] 0)).heap.size=w.heap.size+1:=aI;have f:((w.alloc (.map #[] 0)).alloc (.map #[] 0)).heap.size=w.heap.size+2:=aI;have b:=(RMap.made (w.alloc (.map #[] 0)) prog 3 rR).keeps (T:=aG) ((a_ _).alloc (ae (mI ⟨w+2,w.heap.size,w.heap.size+1,[]⟩ (cH.new n)) 118)) id;have aj:=aW ((w.alloc (.map #[] 0)).alloc (.map #[] 0)) (ae (mI ⟨w+2,w.heap.size,w.heap.size+1,[]⟩ (cH.new n)) 118);rw[d]at b;rw[f]at aj;have c:IsLd _ ⟨w+2,w.heap.size,w.heap.size+1,[]⟩ (cH.new n):=⟨aj,((RMap.made w prog 43 l8).keeps (T:=aG) (((a_ _).alloc (.map #[] 0)).alloc (ae (mI ⟨w+2,w.heap.size,w.heap.size+1,[]⟩ (cH.new n)) 118)) id),Pairwise.nil,⟨by show((0:J):aa)<=n;omega,au.2⟩,⟨b,λ_=>rfl,λ_ h=>nomatch h⟩,λ_=>⟨Pairwise.nil,by show 0<=64;omega,λ_ h=>nomatch h⟩,by show w.heap.size≠w.heap.size+1;omega,by show(-1:aa)<=-1/\(-1:aa)<=1000000;omega⟩;have a:=b8 c ((((a_ w).alloc (.map #[] 0)).alloc (.map #[] 0)).alloc (ae (mI ⟨w+2,w.heap.size,w.heap.size+1,[]⟩ (cH.new n)) 118));have g:=@run_makeMap prog
 go_in
 go_wp2;go_ret2;exact⟨rfl,a.o.1,a.o.2,aI⟩
end Go.Proofs.YtalagblioepadaaGreatDoor
