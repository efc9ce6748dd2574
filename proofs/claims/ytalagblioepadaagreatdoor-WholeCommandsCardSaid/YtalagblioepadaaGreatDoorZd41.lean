/- The proof, part 41. -/
import Derived.Test.YtalagblioepadaaGreatDoorZd40
namespace Go.Proofs.YtalagblioepadaaGreatDoor
set_option linter.all false
open Proofs.Tryz List Go.RowKit Go.Shelf Go.Maps
set_option maxRecDepth 100000
set_option maxHeartbeats 2000000
def AE{p:al}(h:p:=by have:=h.gn;omega):p:=h
def NH{p:al}(h:p:=by
 go_wp2_with fail;refine cJ 30 ?_;refine fu (λ_=>False) (.range 30) [] 0 (hQ ?_);refine iI ?_;clear C N O lb;have cI:=ag (ig.l5 (l.o.2.2.1.trans (bb bq).drew) (ig.same l.o.1 (Keeps.refl _ _)));go_wp2_with fail;go_ret;exact⟨⟨_,rfl⟩,cI.o⟩
 ):p:=h
def NL{p:al}(h:p:=by
 refine d.o.mono ?_;rintro e aD ⟨ak,j⟩;have hk:=a.trans (Keeps.bJ (S:=aG) ak a8);rcases j with⟨rfl,_⟩|⟨i,ax,rfl,_⟩
 .clear ak;go_wp2;go_ret;exact⟨hk,.inl rfl⟩
 clear ak;go_wp2;go_ret;exact⟨hk,.inr ⟨i,ax,rfl⟩⟩
 ):p:=h
def On{p:al}(h:p:=by
 have⟨a,c,h1,h2,d⟩:=h;exact⟨a,c,h1,(hk.mono λ_ _ x=>x.elim).trans h2,λj e=>(d j e).imp id λaw=>ca hk.size aw⟩
 ):p:=h
def Mr{p:al}(h:p:=by
 go_wp2_with fail;go_ret;exact⟨⟨_,rfl⟩,by simpa only[cx,jd]using cI.out⟩
 ):p:=h
def tf{p:al}(h:p:=by
 go_wp2_with fail;go_ret;exact⟨⟨_,rfl⟩,cI.o⟩
 ):p:=h
variable{w w':aj}
def RMap.I7{P:Program}{k:TypeId}{dI:Type}{C:lK P k dI}{b:J}{M:ah (dI×ay)}[DecidableEq dI](K:Keyed P k)(h:RMap w C b M){x:dI}(c:C.ok x){t e:TypeId}(aK:P.underlying t=some (.map k e)){z:ay}(d:∀ w,(zeroValue e).run P w=.ok z w):(Instr.lookup t (.map (some b)) (C.enc x) false).run P w=.ok ((hO M x).getD z) w:=by
 obtain⟨es,h1,h2⟩:=h.own;obtain⟨v,ps,fE,aU⟩:=h1.look_ok K aK (d w) (zd:=.held z) (zp:=[]) rfl (C.law x c);obtain⟨v2,j,i,g⟩:=h1.lookup K aK (d w) (zd:=.held z) (zp:=[]) rfl (C.law x c);have a:=h.look K c aK d;rw[fE]at a;simp only[Result.ok.injEq,Value.tuple.injEq,Array.mk.injEq,z6,and_true]at a;simp only[oD,hI,jR]at aU g;have f:=aU.1.trans g.1.symm;simp only[zP]at f;rw[i,<-f,a.1]
def IsLd.toldRow{B:dN}{s:cO}(h:IsLd w B s)(fr:aa)(b:0<=fr/\fr<=1000000):∃ v,(Instr.lookup 116 (.map (some B.hA)) (I fr) false).run prog w=.ok v w/\w.ownsRow 0 45 9 v (s.b9 fr).length (b4 (s.b9 fr)):=by
 refine⟨_,(h.b9.1.I7 ua (x:=fr) (wf_i64 U) underlying116 (z:=aq none 0 0) (λw=>aI)),?_⟩;have a:=h.b9.2.1 fr;cases an:hO B.M fr with
 | none=>
  rw[an]at a;rw[a];exact gx _ _ _ _
 | some u=>rw[an]at a;exact a
def IsLd.forget{B:dN}{s:cO}(h:IsLd w B s)(fr:aa)(d:0<=fr/\fr<=1000000)(ty:TypeId):∃ w',(Builtin.delete_ #[116,3] ty #[.map (some B.hA),I fr]).run prog w=.ok (aY #[]) w'/\IsLd w' {B with M:=kE B.M fr} {s with b9:=iC s.b9 fr []}/\Keeps (λj=>j=B.hA) w w':=by
 have⟨w',h1,h2,b⟩:=h.b9.1.drop ua (x:=fr) (wf_i64 U) underlying116 ty;refine⟨w',h1,h.KI h2 b (λx=>?_) (λp au=>h.b9.2.2 p (fx.1 au).1) (λx=>?_),b⟩
 .rw[Hw];unfold iC;by_cases e:x=fr
  .rw[aE e,aE e]
  rw[aB e,aB e];have a:=h.b9.2.1 x;cases an:hO B.M x with
  | none=>rw[an]at a;exact a
  | some u=>rw[an]at a;exact b5 a b λj c e=>mI a h.b9.1 c e
 unfold iC;split
 .exact⟨Pairwise.nil,aM,aM⟩
 exact h.bl x
def uw{base n k:J}{T T':TypeId}{v:ay}{l:ah ay}{j:J}{b:a7 ay}{z:J×J}(h:w.ownsRow base T k v n l)(a:w.heap[j]?=some (af b T' z))(c:T≠T'):¬ v.ownBlock=some j:=λe=>by
 rcases h.2 with⟨rfl,_⟩|⟨g,cap,d,rfl,_,aS,_⟩
 .cases e
 cases e;rw[aS]at a;simp only[hI,w7]at a;exact c a.2.1
def PX(L xs:ah aC):(gZ L xs).2.length<=xs.length:=by
 rw[<-mn xs]
 induction xs.reverse with
 | nil=>simp[gZ]
 | cons e l a=>
  rw[mm,q4,cx,cx,jd,jd];omega
def Fy(w:aj)(B:dN)(s:cO)(fr:aa)(e:Ending)(w':aj):al:=
 ∃ v jT,e=aY #[v,I 0]/\w'.ownsRow w.heap.size 47 12 v (h4 s fr).length (dC (h4 s fr))/\xH w B w' jT (jX s fr)/\∀ j,v.ownBlock=some j->¬ jT.S j
structure r4(w:aj)(B:dN)(s:cO)(xs:ah aC)(v:ay)(pre:ah aC)(cA:ay)(W:aj):al where
 out:W.ownsRow w.heap.size 47 12 cA (gZ s.bc pre).2.length (dC (gZ s.bc pre).2)
 ld:IsLd W B {s with bc:=(gZ s.bc pre).1}
 cu:Keeps (λj=>j=B.cV) w W
 rx:W.ownsRow 0 45 9 v xs.length (b4 xs)
theorem r4.keep{B:dN}{s:cO}{xs:ah aC}{v:ay}{pre:ah aC}{cA:ay}{W W':aj}(h:r4 w B s xs v pre cA W)(hk:Keeps aG W W'):r4 w B s xs v pre cA W':=
 ⟨b5 h.out hk (λ_ _=>id),h.ld.kI hk,h.cu.trans (hk.mono λ_ _ x=>x.elim),b5 h.rx hk (λ_ _=>id)⟩
structure tn(w:aj)(B:dN)(s:cO)(xs:ah aC)(v:ay)(pre:ah aC)(cA:ay)(b:J)(e:aC)(W:aj):al where
 i:r4 w B s xs v pre cA W
 bN:W.heap[b]?=some (af (dD e) 45 (0,0))
theorem tn.keep{B:dN}{s:cO}{xs:ah aC}{v:ay}{pre:ah aC}{cA:ay}{b:J}{e:aC}{W W':aj}(h:tn w B s xs v pre cA b e W)(hk:Keeps aG W W'):tn w B s xs v pre cA b e W':=⟨h.i.keep hk,hk.heap h.bN id⟩
def TE{B:dN}{s:cO}(h:IsLd w B s)(aS:s.hd=false)(fr:aa)(aaK:fr=s.aP+1)(aaV:-1<=s.aP/\s.aP<=999999):aA 147 #[B.b,I fr] w (Fy w B s fr):=by
 have Q:=h.gr;unfold np at Q;rw[aS]at Q;have d2:=aO Q;obtain⟨v,y,V⟩:=h.toldRow fr U;obtain⟨xs,X⟩:=cT (s.b9 fr);rw[<-X]at V;have R:=h.bl fr;rw[<-X]at R;have aaS:=R.2.1;have aay:∀ e∈xs,gb e.k=true:=λe K=>(uC (R.2.2 e K).1).1;have CW:r4 w B s xs v [] (aq none 0 0) w:=⟨gx _ _ _ _,h,Keeps.refl _ _,V⟩;obtain⟨A,cap,rfl,_,_⟩:=cS V;have ys:=ag CW;have Z:=bW aay X;have aaR:=ag (show ∀ j,B.S j->j<w.heap.size from λj a=>h.lt a);clear h aS Q V R aay CW X;subst aaK
 go_in
 go_wp2_with ((with_reducible refine lC y rfl rfl ?_ ?_ ?_);exact rfl;exact rfl);clear d2 y;go_loopg [6,34] xs.length (λg cA z wr=>∃ pre rest:ah aC,xs=pre++rest/\g=rest.length/\z=I pre.length/\(∃ A n cap,cA=aq A n cap)/\r4 w B s xs (aq A xs.length cap) pre cA wr)
 case atStart=>exact⟨[],xs,rfl,rfl,rfl,⟨_,_,_,rfl⟩,ys.o⟩
 obtain⟨pre,rest,f,aZ,rfl,⟨Y,no,co,rfl⟩,d⟩:=hrel;clear ys;cases rest with
 | nil=>
  have aaT:¬ (pre.length:aa)<(xs.length:aa):=by rw[f];simp
  have sd:xs=pre:=by rw[f,eB]
  have d2:=aO d.ld.gr;obtain⟨m,aaL,r,q⟩:=d.ld.forget (s.aP+1) U 0;have d3:=aO r.gr;have f3:=bP r.gr;have eU:=(Keeps.refl (λj=>j=B.b) m).setCell (p:=ae B.b 3 ad) rfl (I (s.aP+1));have N:IsLd (m.setCell (ae B.b 3 ad) (I (s.aP+1))) {B with M:=kE B.M (s.aP+1)} (jX s (s.aP+1)):=by
   have aaF:jX s (s.aP+1)={s with bc:=(gZ s.bc pre).1,b9:=iC s.b9 (s.aP+1) [],aP:=s.aP+1}:=by unfold jX;rw[<-Z.out.2,<-sd]
   rw[aaF];exact r.KG (by simpa[np]using b3 r.gr 3 (I (s.aP+1))) eU rfl rfl rfl (by show -1<=s.aP+1/\s.aP+1<=1000000;omega)
  have l:=b5 d.out q (λj a e=>mI d.out d.ld.b9.1 a e);have lb:=b5 l eU (λj a e=>(r.rb l bt bt a).1 e);have aaw:Fy w B s (s.aP+1) (aY #[aq Y no co,I 0]) (m.setCell (ae B.b 3 ad) (I (s.aP+1))):=by
   have aaG:h4 s (s.aP+1)=(gZ s.bc pre).2:=by unfold h4;rw[<-Z.out.2,<-sd]
   refine⟨_,{B with M:=kE B.M (s.aP+1)},rfl,by rw[aaG];exact lb,⟨N,rfl,rfl,rfl,λj a=>?_,?_⟩,λj a=>N.BB (N.rb lb bt bt a)⟩
   .rcases a with a|a|a|⟨p,au,a⟩
    .exact .inl (.inl a)
    .exact .inl (.inr (.inl a))
    .exact .inl (.inr (.inr (.inl a)))
    exact .inl (.inr (.inr (.inr ⟨p,(fx.1 au).1,a⟩)))
   exact((d.cu.mono (T:=B.S) (λj _ a=>.inr (.inl a))).trans (q.mono (T:=B.S) (λj _ a=>.inr (.inr (.inl a))))).trans (eU.mono (T:=B.S) (λj _ a=>.inl a))
  have aaE:=ag aaw;clear f d r q eU N l lb aaw sd;go_wp2_with ((with_reducible refine w0 aaL rfl rfl ?_ ?_ ?_);exact rfl;exact rfl);go_ret2;exact aaE.o
 | cons e rest=>
  have aaO:pre.length<xs.length:=by rw[f];simp
  have aaU:(pre.length:aa)<(xs.length:aa):=U;have K:xs[pre.length]=e:=by simp[f]
  have aax:=Z.out.1 e vw;have aaB:xs=(pre++[e])++rest:=by rw[f];simp
  have aaM:=aZ;simp only[dy]at aaM;clear aZ;obtain⟨v',rfl⟩:=nw d.rx U;have gf:=mM (P:=prog) (enc:=aC.bu) (λ_=>rfl) isAgg45 sizeOf45 d.rx pre.length aaO;rw[K]at gf;have dp:=qq wr;obtain⟨D,ps,Aw,V',aaW⟩:=r9 wr e;have ab:=bW aaB aax;generalize wr.alloc (af z9 45)=aaY at dp ps;obtain⟨F,E⟩:∃ F:aj->al,F=λW=>tn w B s xs (aq (some (ae v' 0 ad)) xs.length cap) pre (aq Y no co) wr.heap.size e W:=⟨_,rfl⟩;have G:F D.drew:=by rw[E];exact tn.keep ⟨d.keep V',Aw⟩ (bb D).drew
  have C:∀ {W},F W->tn w B s xs (aq (some (ae v' 0 ad)) xs.length cap) pre (aq Y no co) wr.heap.size e W:=λt=>by rw[E]at t;exact t
  have h2:∀ {W W'},F W->Keeps aG W W'->F W':=λt hk=>by rw[E]at t⊢;exact t.keep hk
  clear E;have s':=λx:bs F=>aO ((C x.held).i.ld.gr);have vl:=λx:bs F=>aO ((C x.held).bN);have⟨o,aat⟩:=cT ((eP (gZ s.bc pre).1 e.k).getD sh);have⟨p,au⟩:=cT (eP (gZ s.bc pre).1 e.k).isSome;have y:∀ W,(∃ x:bs F,W=x.to)->(Instr.lookup 115 (.map (some B.cV)) (aL e.k) true).run prog W=.ok (aY #[.agg (dD o),.bool p]) W:=λW ⟨x,f⟩=>by
   rw[f,aat,au];exact(C x.held).i.ld.find e.k ab.o.2
  have zd:=qq D.drew;obtain⟨m,aaz,aaH,q,aaX⟩:=r9 D.drew o;have zp:=h2 G ((bb D.drew).alloc (af z9 45));have H:=h2 G q;have c:=ag (C H);have aav:=ag au;clear d f K aax aaB Aw V' q aaH aat au;go_wp2_with first|((with_reducible refine dn gf rfl rfl ?_ ?_);exact rfl)|(with_reducible refine dU dp rfl rfl ?_)|((with_reducible refine c7 ps rfl rfl ?_ ?_ ?_);exact rfl;exact rfl)
  refine cJ 13 ?_;refine cK (F) (.range 13) 0 13 ?_;refine qg (G) (.range 10) 3 λhne=>?_
  repeat (first|(refine LU y rfl rfl rfl rfl ?_;simp only[Act.put,c8])|go_big_quiet_step (fail))
  refine wpQuiet_nil ?_;clear hne;refine rl 10 zp (qB rfl zd) ?_;refine rl 11 H (nM rfl rfl rfl aaz) ?_;simp only[Act.put];refine h9 12 H ?_;clear s' vl y zp H G C h2 dp zd ps aaz gf;have l:=c.o.i.out;have TS:(gZ s.bc pre).2.length<=10000:=by
   have:=PX s.bc pre
   omega
  obtain⟨aaQ,w',St,aau,u,aaC,n7,c2,rfl⟩:=x0 32 l TS c.o.i.cu.size ⟨4,e,0,p⟩;have aaA:=b5 c.o.i.rx u (λj a e=>uu l c.o.i.rx bt e a);have aar:=c.o.i.ld.keep u λj a=>c.o.i.ld.rb l bt bt a;have a':=u.heap c.o.bN (uw l c.o.bN bt);have aaq:=cN c.o.i.cu u (λj a e=>by have:=(l.lt j e).1;omega);have bA:=(bb w').drew;have O:=aar.kI bA;have aaI:=a';have s':=iG (S:=aG) (w:=w'.drew) O.gr id;have vl:=iG (S:=aG) (w:=w'.drew) a' id;obtain⟨aaP,T',aas,L⟩:=O.La e ab.o.2 0;have g':=O.bc;have l':=b5 aau bA (λ_ _=>id);have r':=b5 aaA bA (λ_ _=>id);have Q':r4 w B s xs (aq (some (ae v' 0 ad)) xs.length cap) (pre++[e]) (aq aaC n7 c2) aaP:=by
   have m':=q4 s.bc pre e;rw[<-aav.o]at m';refine⟨?_,?_,(aaq.trans (bA.mono λ_ _ x=>x.elim)).trans L,b5 r' L (λj a e=>mI r' g' a e)⟩
   .rw[m'];exact b5 l' L (λj a e=>mI l' g' a e)
   rw[m'];exact aas
  have aaD:=ag Q';have aaN:=j6 c.o.bN;have aaJ:=WH e p m;have Tq:=zf ⟨4,e,0,p⟩ m;generalize m.alloc (af (dg ⟨4,e,0,p⟩) 47)=aaZ at St Tq;clear Q' aaA aar a' aaq bA O aaI aas L g' l' r' l TS aau u aav c;go_wp2_with first|((with_reducible refine dn aaN rfl rfl ?_ ?_);exact rfl)|((with_reducible refine DK aaJ rfl rfl ?_ ?_ ?_ ?_);exact rfl;exact rfl;exact rfl)|((with_reducible refine zH Tq rfl rfl ?_ ?_);exact rfl)|((with_reducible refine wY St rfl rfl ?_ ?_ ?_);exact rfl;exact rfl)
  refine cJ 7 ?_;refine fu (λ_=>False) (.range 6) [] 1 (hQ ?_);refine cK (λ_=>True) [6] 0 1 ?_;refine pv 6 trivial (LW rfl rfl rfl T') ?_;simp only[Act.put];clear s' vl T';go_wp2_with fail;go_roundg rest.length
  case measure=>omega
  exact⟨pre++[e],rest,ab.o.1,rfl,qO,⟨_,_,_,rfl⟩,aaD.o⟩
variable{b:J}{n:aa}{dh:ay}{bV:ah eZ}
def Cm(h:k2 w b n dh bV)(k:cU):aA 231 #[b,aL k] w λe w'=>Keeps aG w w'/\(e=.returned (I (-1))\/∃ i:J,i<bV.length/\e=.returned (I i)):=by
 have a:=((bb w).alloc (af #[b] 105)).alloc (af k 43);have f:(w.alloc (af #[b] 105)).heap.size=w.heap.size+1:=aM;have c:=aX (w.alloc (af #[b] 105)) (af k 43);rw[f]at c;have h1:=h.keep a;have g:=bf (k:=0) (cw (aX w (af #[b] 105)) (af k 43)) rfl;have l:=aO h1.hd;have d:=ag (Ly h1.row AE (B5 k) 296 #[.pointer (some (ae (w+1) 0 ad)),w.heap.size] (enters_of func296 aI rfl) (λW x ak=>by
  have hk:=Keeps.bJ (S:=aG) ak a8;exact(UC x.v x.ok k (w.heap.size+1) w.heap.size b n dh (hk.heap c id) (hk.cell g id) (hk.heap h1.hd id)).mono λ_ _ aS=>⟨aS.1,ak.trans (aS.2.mono ak.size)⟩))
 obtain⟨A,cap,rfl,_,_⟩:=cS h.row
 go_in
 go_wp2_with fail;generalize World.alloc (World.alloc w _) _=ao at *;exact NL
def ig(w:aj)(b:J)(n:aa)(dh:ay)(w':aj):al:=∃ a c,k2 w' b n a c/\Keeps (λj=>j=b\/dh.ownBlock=some j) w w'/\∀ j,a.ownBlock=some j->dh.ownBlock=some j\/w.heap.size<=j
def ig.same(h:k2 w b n dh bV)(hk:Keeps aG w w'):ig w b n dh w':=⟨dh,bV,h.keep hk,hk.mono λ_ _ x=>x.elim,λ_ a=>.inl a⟩
def ig.l5{ao:aj}(hk:Keeps aG w ao)(h:ig ao b n dh w'):ig w b n dh w':=by
 exact On
def k2.ne(h:k2 w b n dh bV):∀ j,dh.ownBlock=some j->j≠b:=λj a e=>uw h.row (e▸h.hd) bt a
def G2{x:eZ}:({x.v with cut:=0}:kA).wf:=⟨x.ok.bg,x.ok.cy,x.ok.late,.inr rfl⟩
def Ux(h:k2 w b n dh bV)(k:cU):aA 162 #[b,aL k] w λe w'=>(∃ c,e=.returned (I c))/\ig w b n dh w':=by
 have r:=(bb w).alloc (af k 43);have l:=aX w (af k 43);have h1:=h.keep r;have f:=bW h1 r
 go_in
 go_wp2_with fail;generalize w.alloc _=ao at *;refine(Cm h1 k).mono ?_;rintro e aD ⟨m,E⟩;have h2:=f.out.1.keep m;have hk:=f.out.2.trans m;rcases E with rfl|⟨i,ax,rfl⟩
 .have s:=ag (ig.l5 hk (ig.same h2 (Keeps.refl _ _)));go_wp2;go_ret;exact⟨⟨_,rfl⟩,s.o⟩
 obtain⟨A,cap,rfl,_,_⟩:=cS h2.row;obtain⟨g,rfl⟩:=nw h2.row U;have hd:=h2.keep (bb aD).drew;have H:=iG (S:=aG) (w:=aD.drew) hd.hd id;obtain⟨y,q⟩:=cT bV[i];have C:∀ W,(∃ x:gQ aG aD.drew,W=x.to)->(Instr.loadAt 175 (.pointer (some (ae g (i*12) ad)))).run prog W=.ok (.agg (mT y)) W:=λW ⟨x,G⟩=>by
  rw[G,q];exact mM (P:=prog) (enc:=eZ.bu) (λ_=>rfl) isAgg175 sizeOf175 (b5 hd.row x.keeps (λ_ _=>id)) i ax
 have t:=ag hd;clear hd q h2;go_wp2_with fail;refine cJ 19 ?_;refine ow (λ_=>False) (.range 16) [16] 2 ?_
 repeat (first|(refine jL C rfl rfl rfl ?_;simp only[Act.put,c8])|go_big_quiet_step (fail))
 refine wpQuiet_nil ?_;refine ko λK l=>?_;go_simp;refine aW ((λW=>Zn y.v y.ok W) _) λbq d=>?_;refine l _ _ (c6 (d)) ?_;have a:=t.o.keep d;obtain⟨L,F,D,p⟩:=zc (P:=prog) (enc:=eZ.bu) (λ_=>rfl) zB sizeOf175 a.row i ax ⟨_,G2 (x:=y)⟩;have B:=(hk.trans (bb aD).drew).trans d;have u:=a.ne g rfl;have cI:=ag (ig.l5 B ⟨_,bV.set i ⟨_,G2 (x:=y)⟩,⟨p.heap a.hd (λe=>u e.symm),by rw[qI];exact D,by rw[qI];exact h.gn⟩,p.mono λj _ e=>.inr (by rw[e];rfl),λj z=>.inl z⟩);refine fu (λ_=>False) [17] [] 1 (hQ ?_);refine cK (λ_=>True) [18] 0 1 ?_;refine pv 18 trivial (nM rfl rfl rfl F) ?_;simp only[Act.put];exact tf
section
variable{P:Program}{α:Type}{enc:α->ah ay}{k base n cap g:J}{T T':TypeId}{cn:List α}
def Wr{m:J}{c:ah ay}(hk:∀ x,(enc x).length=k)(h1:∀ v∈c,v.oneCell'=true)(r:∀ w,(Go.sizeOf T').run P w=.ok m w)(h:w.ownsRow base T k (aq (some (ae g 0 ad)) n cap) n (cn.flatMap enc))(i:J)(ax:i<cn.length)(x:α)(q:enc x=c++(enc cn[i]).drop m)(an:c.length=m)(hm:m<=k):∃ w',(Instr.storeAt T' (.pointer (some (ae g (i*k) ad))) (.agg c.toArray)).run P w=.ok () w'/\w'.ownsRow base T k (aq (some (ae g 0 ad)) n cap) n ((cn.set i x).flatMap enc)/\Keeps (λj=>j=g) w w':=by
 have⟨a,rest,aZ,b,ak,av,l,aw⟩:=rr h;have⟨s1,s2⟩:=tS (enc:=enc) hk i ax;have s:a.size=i*k+k+((cn.drop (i+1)).flatMap enc).length+rest.length:=by
  rw[<-pG,b,s1];simp only[cx,s2,hk]
 have o:=ru (P:=P) T' m g (i*k) c.toArray a T r (by simpa using an) aZ U (by simpa using h1);refine⟨_,o,?_,iW w g _⟩;have p:=wT a (i*k) c.toArray (by simp only[hh,an];omega);have f:n*k=i*k+m+((enc cn[i]).drop m++(cn.drop (i+1)).flatMap enc).length:=by rw[<-h.1,s1];simp only[cx,gg,s2,hk];omega
 refine⟨by rw[yk i ax];simp only[cx,s2,hk];rw[<-h.1,s1];simp only[cx,s2,hk],.inr ⟨g,cap,_,rfl,ak,fb w g a _ T aZ,av,l,by rw[p];exact aw,?_⟩⟩;unfold e5;rw[yk i ax,b,s1,f,q];simp only[hh,an];have d:enc cn[i]=(enc cn[i]).take m++(enc cn[i]).drop m:=(mo _ _).symm;have e:=K0 ((cn.take i).flatMap enc) ((enc cn[i]).take m) ((enc cn[i]).drop m++(cn.drop (i+1)).flatMap enc) rest c s2 (by rw[gB,hk];omega) an
 rw[show(cn.take i).flatMap enc++enc cn[i]++(cn.drop (i+1)).flatMap enc++rest=(cn.take i).flatMap enc++(enc cn[i]).take m++((enc cn[i]).drop m++(cn.drop (i+1)).flatMap enc)++rest by
  conv=>lhs;rw[d]
  simp only[dL]]
 rw[e];simp only[dL]
def J'(hk:∀ x,(enc x).length=k)(h:w.ownsRow base T k (aq (some (ae g 0 ad)) n cap) n (cn.flatMap enc))(i:J)(ax:i<cn.length)(j:J)(b:j<k){v:ay}(aU:(enc cn[i])[j]?=some v):w.cell? (ae g (i*k+j) ad)=some v:=by
 have⟨c,rest,aZ,a,_⟩:=rr h;refine bf aZ ?_;have h1:=yj hk cn i ax j b;rw[aU]at h1;rw[<-mh,a,jO (hD.1 h1).1,h1]
end
def Ln(x:eZ)(e:aC)(a:fm e=true)(bh:x.v.bg.cy=e.cy):eZ:=⟨{x.v with bg:=e},⟨a,by show 1<=e.cy/\e.cy<=9;rw[<-bh];exact x.ok.cy,x.ok.late,x.ok.cut⟩⟩
def UB(h:k2 w b n dh bV)(e:aC)(F:fm e=true):aA 161 #[b,aL e] w λr w'=>(∃ c,r=.returned (I c))/\ig w b n dh w':=by
 have M:=(bb w).alloc (af e 45);have D:=aX w (af e 45);have h1:=h.keep M;have X:=ag (F▸vS e (w.alloc (af e 45)));have q:=ag (bD h1 (bD D M));have m':=h.gn;have ab:=j6 (e:=e) D;have R:=ag F;clear h D h1 M F
 go_in
 go_wp2_with ((with_reducible refine dn ab rfl rfl ?_ ?_);exact rfl);generalize w.alloc _=ao at *;refine X.o.mono ?_;rintro r aD ⟨rfl,ak⟩;have t:=Keeps.bJ (S:=aG) ak a8;have h2:=q.out.1.keep t;have a:=t.heap q.out.2.1 id;have hk:=q.out.2.2.trans t;have T:=ag (Cm h2 e.k);have vl:=aO a;have s:=ag (bD h2 (bD a hk));clear ak t h2 a hk X q ab;go_wp2_with fail;clear vl;refine T.o.mono ?_;rintro r bq ⟨u,sd⟩;have d:=s.out.1.keep u;have a:=u.heap s.out.2.1 id;have hk:=s.out.2.2.trans u;clear T s u;rcases sd with rfl|⟨i,ax,rfl⟩
 .have l':=ag (ig.l5 (hk.trans (bb bq).drew) (ig.same (d.keep (bb bq).drew) (Keeps.refl _ _)));clear d hk a;go_wp2_with fail;refine cJ 30 ?_;refine fu (λ_=>False) (.range 30) [] 0 (hQ ?_);refine iI ?_;go_wp2_with fail;go_ret;exact⟨⟨_,rfl⟩,l'.o⟩
 obtain⟨A,cap,rfl,_,_⟩:=cS d.row;obtain⟨g,rfl⟩:=nw d.row U;have hd:=d.keep (bb bq).drew;have E:=(bb bq).drew.heap a id;obtain⟨y,z⟩:∃ y,y=bV[i]:=⟨_,rfl⟩;have C:=iG (S:=aG) (w:=bq.drew) hd.hd id;have N:∀ x:gQ aG bq.drew,x.to.cell? (ae g (i*12+4) ad)=some (I y.v.bg.cy):=λx=>J' (enc:=eZ.bu) (λ_=>rfl) (b5 hd.row x.keeps (λ_ _=>id)) i ax 4 U (by rw[z];rfl);have O:∀ x:gQ aG bq.drew,x.to.cell? (ae g (i*12+8) ad)=some (I y.v.bg.le):=λx=>J' (enc:=eZ.bu) (λ_=>rfl) (b5 hd.row x.keeps (λ_ _=>id)) i ax 8 U (by rw[z];rfl);have lb:=iG (S:=aG) (w:=bq.drew) E id;have ys:(i:aa)<(bV.length:aa):=U;have v':decide ((i:aa)<0)=false:=di U;have l:=ag (bD hd (bD E (bD hk z)));obtain⟨f,L⟩:∃ f,f=y.v.bg.cy:=⟨_,rfl⟩;obtain⟨B,gf⟩:∃ B,B=y.v.bg.le:=⟨_,rfl⟩;rw[<-L]at N;rw[<-gf]at O;have Q:=ag L;clear hd E hk z d a L gf;by_cases bh:f=e.cy
 .subst bh;by_cases H:B=e.le
  .subst H;go_wp2_with fail;refine cJ 30 ?_;refine fu (λ_=>False) (.range 30) [] 0 (hQ ?_);refine iI ?_;clear C N O lb;have p:=l.o.1.keep (bb bq.drew).drew;have Y:=l.o.2.1;have C:=iG (S:=aG) (w:=bq.drew.drew) p.hd id;have g':∀ W,(∃ x:gQ aG bq.drew.drew,W=x.to)->(Instr.loadAt 45 w.heap.size).run prog W=.ok (aL e) W:=λW ⟨x,s'⟩=>by rw[s'];exact j6 (e:=e) (x.keeps.heap Y id)
   obtain⟨Aw,fr,a',G⟩:=Wr (P:=prog) (enc:=eZ.bu) (T':=45) (m:=9) (c:=(dD e).toList) (λ_=>rfl) (fw.1 (tL e)) sizeOf45 p.row i ax (Ln y e R.out Q.o.symm) (by rw[<-l.o.2.2.2];rfl) rfl U;have Z:=(l.o.2.2.1.trans (bb bq).drew).trans (bb bq.drew).drew;have ps:g≠b:=p.ne g rfl;have cI:=ag (ig.l5 Z ⟨_,bV.set i (Ln y e R.out Q.o.symm),⟨G.heap p.hd (λe=>ps e.symm),by rw[qI];exact a',by rw[qI];exact m'⟩,G.mono λj _ e=>.inr (by rw[e];rfl),λj r'=>.inl r'⟩);clear p Y a' Z;go_wp2_with fail;refine cJ 9 ?_;refine ow (λ_=>False) (.range 8) [] 1 ?_
   repeat (first|(refine jL g' rfl rfl rfl ?_;simp only[Act.put,c8])|go_big_quiet_step (fail))
   refine wpQuiet_nil ?_;refine hQ ?_;refine cK (λ_=>True) [8] 0 1 ?_;refine kM 8 λK V=>?_;refine nM rfl rfl rfl fr ?_;refine V _ _ (trivial) ?_;clear V K;simp only[Act.put];clear fr G C g';exact tf
  have hne:(B == e.le)=false:=eA.2 H;clear H;exact NH
 have hne:(f == e.cy)=false:=eA.2 bh;have zd:(f != e.cy)=true:=An.2 bh;have zp:decide (f=e.cy)=false:=di bh;clear bh;exact NH
def PA(n:aa)(h:¬ (1<=n/\n<=9))(w:aj):aA 230 #[I n] w λe w'=>e=aY #[I 0,I 14]/\w=w':=by
 have ak:f_ n 1 9=false:=by unfold f_;rw[<-DU];simpa using h
 go_in
 exact MI
def UD(v:kA)(h:v.wf)(c b:J)(n:aa)(dh:ay)(hm:w.cell? (ae c 0 ad)=some (.pointer (some (ae b 0 ad))))(ak:w.heap[b]?=some (af #[I n,I 0,dh] 177 (0,0))):aA 233 #[aL v,c] w λr w'=>r=.returned (.bool (nv v))/\Below w w w':=by
 have b':=(b7 w.heap.size w).alloc bx (af v 175);have a:=aX w (af v 175);have g:=dX ((b'.cell (p:=ae c 0 ad) (mU w (ae c 0 ad) hm)).trans hm);have d:=ag (λx:k0 (w.alloc (af v 175))=>LA v h x.to);have l:=dX (bf (k:=0) a rfl);have m:=dX (bf (k:=1) a rfl);have q:=dX (bf (k:=2) a rfl);have s:=dX (bf (k:=3) a rfl);have t:=dX (bf (k:=4) a rfl);have u:=dX (bf (k:=5) a rfl);have y:=dX (bf (k:=6) a rfl);have z:=dX (bf (k:=7) a rfl);have A:=dX (bf (k:=8) a rfl);have B:=dX (bf (k:=9) a rfl);have C:=dX (bf (k:=10) a rfl);have D:=dX (bf (k:=11) a rfl);have i:=dX (bf (k:=1) (cw ak (af v 175)) rfl);generalize nv v=j at *
 go_in
 go_wp2_with fail;refine pF aI aI ?_
 repeat (go_big_quiet_step (first|(go_at_call 234;exact Calls.kB (d.o _))))
 refine wpQuiet_nil ?_;intro _ e;obtain⟨x,f⟩:=e;subst f;go_wp2_with fail;go_ret;exact⟨rfl,b'.trans (x.below.mono b'.size)⟩
def Iy:∃ i z,prog.info? 175=some i/\i.zero=some z/\i.size=12/\i.bytes=96/\z.cells.size=12:=by
 have h:(prog.info? 175).map (λi=>(i.zero.map λz=>z.cells.size,i.size,i.bytes))=some (some 12,12,96):=aI;cases aS:prog.info? 175 with
 | none=>rw[aS]at h;cases h
 | some i=>
  rw[aS]at h;simp only[pN,hI,jR]at h;cases a:i.zero with
  | none=>rw[a]at h;cases h.1
  | some z=>rw[a]at h;exact⟨i,z,rfl,a,h.2.1,h.2.2,by simpa using h.1⟩
def Zr{base:J}{v:ay}{cs:ah eZ}(ty:TypeId)(h:w.ownsRow base 175 12 v cs.length (vcs cs))(av:cs.length<=10000)(ak:base<=w.heap.size)(c:eZ):∃ v' ao,(Builtin.append_ #[71,71] ty #[v,aq (some (ae w 0 ad)) 1 1]).run prog (w.alloc (af (mT c) 175))=.ok v' ao/\ao.ownsRow base 175 12 v' (cs++[c]).length (vcs (cs++[c]))/\Keeps (λj=>v.ownBlock=some j) w ao/\∀ j,v'.ownBlock=some j->v.ownBlock=some j\/w.heap.size<=j:=by
 have⟨i,z,ax,l,h1,h2,d⟩:=Iy
 obtain⟨v',ao,k,g,aZ,_,f⟩:=w9 (P:=prog) (w.alloc (af (mT c) 175)) base 71 ty 175 i z 12 96 underlying71 ax l h1 h2 d bt v cs.length (vcs cs) (h.alloc _) (ae w 0 ad) 1 1 (mT c).toList rfl
  (λj u a=>by
   rw[ij,gP];exact bf (aX w (af (mT c) 175)) AI) (zB c) kd U b1
 refine⟨v',ao,k,?_,((Keeps.refl _ w).alloc _).grown aZ (λj e=>.inl e),λj b=>?_⟩
 .rw[show vcs (cs++[c])=vcs cs++(mT c).toList by simp[vcs,eZ.bu],cx,jd];exact g
 rcases f with e|e
 .exact .inl (e▸b)
 rw[b]at e;simp at e;omega
def wC(e:aC)(late:aa)(a:fm e=true)(bh:1<=e.cy/\e.cy<=9)(b:0<=late/\late<=1000000):eZ:=⟨⟨e,late*32,-1⟩,⟨a,bh,by show 0<=late*32/\late*32<=1000000000;omega,.inl rfl⟩⟩
def mH{base k m:J}{T:TypeId}{v:ay}{l:ah ay}(h:w.ownsRow base T k v m l){j:J}(e:v.ownBlock=some j):j<w.heap.size:=by
 rcases h.2 with⟨rfl,_⟩|⟨g,cap,a,rfl,_,aS,_⟩
 .cases e
 obtain rfl:g=j:=by simpa[Value.ownBlock]using e
 exact bT aS
def UA(h:k2 w b n dh bV)(e:aC)(he:fm e=true)(late:aa)(aav:0<=late/\late<=1000000):aA 158 #[b,aL e,I late] w λr w'=>(∃ c,r=.returned (I c))/\ig w b n dh w':=by
 have St:=((bb w).alloc (af #[b] 105)).alloc (af e 45);have aaE:(w.alloc (af #[b] 105)).heap.size=w.heap.size+1:=aM;have q:=cw (aX w (af #[b] 105)) (af e 45);have g:=aX (w.alloc (af #[b] 105)) (af e 45);rw[aaE]at g;have h1:=h.keep St;have s:∀ j,dh.ownBlock=some j->j<w.heap.size:=λj l=>mH h.row l;have r':=aO q;have aaq:=ag (he▸vS e ((w.alloc (af #[b] 105)).alloc (af e 45)));have aaw:=j6 (e:=e) g;have F:=bW h1 (bD q (bD g (bD St s)));have M:=ag he;have G:=ag aav;have vl:=ag (bT h.hd);have aaF:decide (late<0)=false:=di U;have aaG:decide (1073741824<late)=false:=di U;have aaH:decide (late>1073741824)=false:=di U;clear h q g h1 St he aaE aav s
 go_in
 go_wp2_with ((with_reducible refine dn aaw rfl rfl ?_ ?_);exact rfl);generalize World.alloc (World.alloc w _) _=ao at *;refine aW aaq.o λaD ak=>?_;have R:=Keeps.bJ (S:=aG) ak a8;have h2:=F.o.1.keep R;have q:=R.heap F.o.2.1 id;have g:=R.heap F.o.2.2.1 id;have hk:=F.o.2.2.2.1.trans R;have s:=F.o.2.2.2.2;have r':=aO q;have aaN:=aO g;have t:=bW h2 (bD q (bD g (bD hk s)));clear ak R h2 q g hk s aaq F aaw;by_cases P:1<=e.cy/\e.cy<=9;rotate_left
 .have Y:=ag (PA e.cy P aD);have cI:=ag (ig.l5 t.o.2.2.2.1 (ig.same t.o.1 (bb aD)));clear P;go_wp2_with fail;refine bE Y.o ?_;exact tf
 have Y:=ag (AZ e.cy P aD);have L:=ag P;have W':=ag (Cm t.o.1 e.k);clear P;go_wp2_with fail;refine bE Y.o ?_;go_wp2_with fail;refine W'.o.mono ?_;rintro r bq ⟨V,aaI⟩;clear r' aaN aaF aaG aaH Y W';have X:=t.out.1.keep V;have q:=V.heap t.out.2.1 id;have g:=V.heap t.out.2.2.1 id;have hk:=t.out.2.2.2.1.trans V;have s:=t.out.2.2.2.2;clear t V;rcases aaI with rfl|⟨i,ax,rfl⟩
 rotate_left
 .have cI:=ag (ig.l5 hk (ig.same X (bb bq)));have aaO:decide (0<=(i:aa))=true:=ei U;have aaP:decide ((i:aa) >= 0)=true:=ei U;clear X q g hk s ax;exact tf
 have hd:=(bb bq).drew;have C:=X.keep hd;have D:=hd.heap q id;have Q:=hd.heap g id;have m':=C.ne;have V':=ag (Zo C.row (by have:=C.gn;omega) (λx=>nv x.v) 233 #[w.heap.size] (enters_of func233 aI rfl) (λW aar x=>UD x.v x.ok w.heap.size b n dh (bf (k:=0) (aar.heap D (λe=>nW _ (s _ e))) rfl) (aar.heap C.hd (λe=>m' _ e rfl))));have Tq:=iG (S:=(λj=>dh.ownBlock=some j)) (w:=bq.drew) D (λe=>nW _ (s _ e));have aaM:=iG (S:=(λj=>dh.ownBlock=some j)) (w:=bq.drew) C.hd (λe=>m' _ e rfl);have d:=bW C (bD D (bD Q (bD (hk.trans hd) (bD s m'))));clear X q g hk s hd C D Q m';go_wp2_with fail;refine cJ 10 ?_;refine fu (λj=>dh.ownBlock=some j) (.range 5) [5,6] 3 ?_;refine iH (c6 (Keeps.refl _ _)) ?_;refine ko λK y=>?_;go_simp;refine V'.o.mono ?_;rintro r B ⟨v',rfl,ps,H,a'⟩;refine y _ _ (c6 (H)) ?_;clear y K;clear Tq aaM V';have T':=d.out.2.2.2.1.mono (T:=λj=>dh.ownBlock=some j) (λ_ _ x=>x.elim) |>.trans H
 have zp:=H.heap d.out.1.hd (λe=>d.out.2.2.2.2.2 _ e rfl);have D:=H.heap d.out.2.1 (λe=>nW _ (d.out.2.2.2.2.1 _ e));have Q:=H.heap d.out.2.2.1 (λe=>by have:=d.out.2.2.2.2.1 _ e;omega);have Q':=bP zp;have z:∀ j,v'.ownBlock=some j->j≠b/\j<w.heap.size:=λj l=>⟨d.out.2.2.2.2.2 j (a'▸l),d.out.2.2.2.2.1 j (a'▸l)⟩;have E:(bV.filter λx=>!nv x.v).length<=64:=ca (ml _ _) d.out.1.gn;obtain⟨us,aaD⟩:=cT (bV.filter λx=>!nv x.v);rw[<-aaD]at ps E;obtain⟨A,cap,rfl,_,_⟩:=cS ps;have m:=bW ps (bD T' (bD zp (bD D (bD Q (bD z (bD E (bD a' (bD d.out.2.2.2.2.1 d.out.2.2.2.2.2))))))));clear ps T' zp D Q z E a' d H aaD;have bw:=aO m.o.2.2.1;refine fu (λ_=>False) [7,8] [] 1 (hQ ?_);refine cK (λ_=>True) [9] 0 1 ?_;refine h9 9 trivial ?_;clear bw Q';have Aw:=b3 m.o.2.2.1 2 (aq A us.length cap);simp only[c8]at Aw;have eU:Keeps (λj=>j=b\/dh.ownBlock=some j) B (B.setCell (ae b 2 ad) (aq A us.length cap)):=(Keeps.refl _ B).setCell (.inl rfl) (aq A us.length cap);have eD:Keeps (λj=>j=b) B (B.setCell (ae b 2 ad) (aq A us.length cap)):=(Keeps.refl (λj=>j=b) B).setCell (p:=ae b 2 ad) rfl (aq A us.length cap);have aaz:=b5 m.o.1 eD (λj l e=>(m.o.2.2.2.2.2.1 j l).1 e);have Z:=eD.heap m.o.2.2.2.1 (λe=>by have:=vl.out;omega);have zd:=eD.heap m.o.2.2.2.2.1 (λe=>by have:=vl.out;omega);have N:k2 (B.setCell (ae b 2 ad) (aq A us.length cap)) b n (aq A us.length cap) us:=⟨Aw,aaz,m.o.2.2.2.2.2.2.1⟩;have l':=(m.o.2.1.mono (T:=λj=>j=b\/dh.ownBlock=some j) (λ_ _ x=>.inr x)).trans eU;have z:=m.o.2.2.2.2.2.1;have gf:=m.o.2.2.2.2.2.2.2.1;clear Aw eU eD aaz m;generalize B.setCell (ae b 2 ad) (aq A us.length cap)=f at *;have r':=aO Z;have aaK:=aO N.hd;by_cases E:64<=us.length
 .have cI:=ag (show ig w b n dh f from⟨_,us,N,l',λj l=>.inl (gf▸l)⟩);have aZ:decide ((64:aa)<=(us.length:aa))=true:=ei U;have TS:decide ((us.length:aa) >= (64:aa))=true:=ei U;clear N Z zd l' z gf E;exact tf
 have aZ:decide ((64:aa)<=(us.length:aa))=false:=di U;have TS:decide ((us.length:aa) >= (64:aa))=false:=di U;have lb:=(bb f).drew;have O:=N.keep lb;have⟨v2,sd,ab,aaA,aat,aas⟩:=Zr 71 O.row U (de _) (wC e late M.out L.out G.out);have aay:=O.ne;have aax:∀ W,(∃ x:gQ (λj=>(aq A us.length cap).ownBlock=some j) f.drew,W=x.to)->(Instr.loadAt 45 (w.heap.size+1:J)).run prog W=.ok (aL e) W:=λW ⟨x,aaJ⟩=>by
  rw[aaJ];exact j6 (e:=e) (x.keeps.heap (lb.heap zd id) (λe=>by have:=(z _ e).2;omega))
 have Tq:=iG (S:=(λj=>(aq A us.length cap).ownBlock=some j)) (w:=f.drew) (lb.heap Z id) (λe=>nW _ (z _ e).2);have aaL:=iG (S:=(λj=>(aq A us.length cap).ownBlock=some j)) (w:=f.drew) O.hd (λe=>aay _ e rfl);have aau:Keeps (λj=>(aq A us.length cap).ownBlock=some j) f.drew (f.alloc (af #[I e.k.fr,I e.k.em,I e.k.bp,I e.k.cg,I e.cy,I e.dd,I e.dP,I e.dw,I e.le,I 0,I (late*32),I (-1)] 175)).drew:=(Keeps.refl (λj=>(aq A us.length cap).ownBlock=some j) f.drew).alloc (af #[I e.k.fr,I e.k.em,I e.k.bp,I e.k.cg,I e.cy,I e.dd,I e.dP,I e.dw,I e.le,I 0,I (late*32),I (-1)] 175);have ab:(Builtin.append_ #[71,71] 71 #[aq A us.length cap,aq (some (ae f 0 ad)) 1 1]).run prog (f.alloc (af #[I e.k.fr,I e.k.em,I e.k.bp,I e.k.cg,I e.cy,I e.dd,I e.dP,I e.dw,I e.le,I 0,I (late*32),I (-1)] 175)).drew=.ok v2 sd:=ab;have a:=bW O (bD aaA (bD aat (bD aas (bD l' (bD z (bD gf E))))));clear N Z zd l' z gf E O aaA aat aas aay lb;go_wp2_with fail;clear r' aaK aZ TS;refine cJ 18 ?_;refine ow (λj=>(aq A us.length cap).ownBlock=some j) (.range 13) [13,14] 3 ?_
 repeat (first|(refine jL aax rfl rfl rfl ?_;simp only[Act.put,c8])|go_big_quiet_step (fail))
 refine wpQuiet_nil ?_;refine gu λK y=>?_;go_simp;have hw:wrap64 (late*32)=late*32:=by have:=G.out;unfold wrap64;omega
 rw[hw];refine y _ _ (c6 (aau)) ?_;clear y K;refine ko λK y=>?_;refine Lib.wp_append_run _ (.tmp 55) (.tmp 64) 71 71 rfl _ _ rfl rfl _ _ ab ?_;refine y _ _ (c6 (a.o.2.2.1)) ?_;clear y K;clear Tq aaL aax aau hw ab;obtain⟨s',ys,rfl,_,_⟩:=cS a.o.2.1;have g':=a.o.2.2.1.heap a.o.1.hd (λe=>a.o.1.ne _ e rfl);have Q':=bP g';have bw:=aO g';simp only[Act.put,c8];refine fu (λ_=>False) [15,16] [] 1 (hQ ?_);refine cK (λ_=>True) [17] 0 1 ?_;refine h9 17 trivial ?_;clear bw Q';have eU:Keeps (λj=>j=b\/(aq A us.length cap).ownBlock=some j) f.drew (sd.setCell (ae b 2 ad) (.slice s' (us++[wC e late M.out L.out G.out]).length ys)):=(a.o.2.2.1.mono (λ_ _ x=>.inr x)).trans ((Keeps.refl _ sd).setCell (.inl rfl) _);have CW:=b3 g' 2 (.slice s' (us++[wC e late M.out L.out G.out]).length ys);simp only[c8]at CW;have aaC:w.heap.size<=f.heap.size:=a.o.2.2.2.2.1.size;have aaB:=b5 (S:=λj=>j=b) a.o.2.1 ((Keeps.refl (λj=>j=b) sd).setCell (p:=ae b 2 ad) rfl (.slice s' (us++[wC e late M.out L.out G.out]).length ys)) (λj l e=>by
  subst e;rcases a.out.2.2.2.1 _ l with u|u
  .exact a.out.1.ne _ u rfl
  .have:=vl.out
   simp at u;omega)
 have cI:=ag (show ig w b n dh _ from⟨_,us++[wC e late M.out L.out G.out],⟨CW,aaB,by have:=a.out.2.2.2.2.2.2.2;simp;omega⟩,(a.out.2.2.2.2.1.trans (lj (bb f).drew)).trans (eU.mono λj _ x=>x.imp id λu=>a.out.2.2.2.2.2.2.1▸u),λj l=>by
  rcases a.out.2.2.2.1 _ l with u|u
  .exact .inl (a.out.2.2.2.2.2.2.1▸u)
  .exact .inr (ca aaC u)⟩)
 clear g' eU CW aaC aaB a;exact Mr
structure lJ(w:aj)(b:J)(dq:ay)(ps:ah dS):al where
 hd:w.heap[b]?=some (af #[dq] 291 (0,0))
 row:w.ownsRow 0 296 10 dq ps.length (eh ps)
 gn:ps.length<=32
def lJ.keep{b:J}{dq:ay}{ps:ah dS}(h:lJ w b dq ps)(hk:Keeps aG w w'):lJ w' b dq ps:=⟨hk.heap h.hd id,b5 h.row hk (λ_ _=>id),h.gn⟩
def lJ.ne{b:J}{dq:ay}{ps:ah dS}(h:lJ w b dq ps):∀ j,dq.ownBlock=some j->j≠b:=λj a e=>uw h.row (e▸h.hd) bt a
def iP(w:aj)(b:J)(dq:ay)(w':aj):al:=∃ a c,lJ w' b a c/\Keeps (λj=>j=b\/dq.ownBlock=some j) w w'/\∀ j,a.ownBlock=some j->dq.ownBlock=some j\/w.heap.size<=j
def iP.same{b:J}{dq:ay}{ps:ah dS}(h:lJ w b dq ps)(hk:Keeps aG w w'):iP w b dq w':=⟨dq,ps,h.keep hk,hk.mono λ_ _ x=>x.elim,λ_ a=>.inl a⟩
def iP.l5{b:J}{dq:ay}{ao:aj}(hk:Keeps aG w ao)(h:iP ao b dq w'):iP w b dq w':=by
 exact On
def Rl(p:dS)(k:cU)(eD:J)(hk:w.heap[eD]?=some (af k 43 (0,0))):aA 299 #[aL p,eD] w λr w'=>r=.returned (.bool (decide (p.k=k)))/\Below w w w':=by
 have a:=aX w (af p 296);have c:=aO (cw hk (af p 296));have b:=Bk p.k k
 go_in
 go_wp2;go_ret;exact⟨rfl,((b7 w.heap.size w).alloc bx (af p 296))⟩
def sy(f:aa)(p:dS):a1:=decide (p.tU<=wrap64 (f-p.k.fr))&&(p.KZ == 0 || decide (15<=wrap64 (f-p.k.fr)))
def Rm(p:dS)(f:aa)(w:aj):aA 155 #[aL p,I f] w λr w'=>r=.returned (.bool (sy f p))/\Below w w w':=by
 have a:=aO (aX w (af p 296));have hj:=ag ((b7 w.heap.size w).alloc bx (af p 296))
 go_in
 go_upto_region 1 with fail
 generalize World.alloc w _=ao at *;go_wp2
 all_goals
  go_ret;refine⟨?_,hj.o⟩;unfold sy;simp[*]<;>omega
def k3(w:aj):al:=∀ j,j<40->∃ v,w.cell? (ae 0 j ad)=some (I v)
def k3.keep{T:J->al}(h:k3 w)(hk:Keeps T w w')(a:¬ T 0):k3 w':=λj b=>by
 obtain⟨v,aU⟩:=h j b;exact⟨v,hk.cell aU a⟩
def T3(h:k3 w)(k:J)(hk:k<10):∃ a b c d:aa,∀ o,o=k*4->(Instr.loadAt 294 (.pointer (some (ae 0 o ad)))).run prog w=.ok (aL #[I a,I b,I c,I d]) w:=by
 have⟨a,bh⟩:=h (k*4) U;have⟨b,ak⟩:=h (k*4+1) U;have⟨c,an⟩:=h (k*4+2) U;have⟨d,hd⟩:=h (k*4+3) U;refine⟨a,b,c,d,λo f=>?_⟩;subst f;have h:=w_ (P:=prog) w (ae 0 (k*4) ad) [I a,I b,I c,I d] (λj v e=>by
  rw[ij]
  match j,e with
  | 0,e=>cases e;exact bh
  | 1,e=>cases e;exact ak
  | 2,e=>cases e;exact an
  | 3,e=>cases e;exact hd)
 simp only[dy,fg]at h;simp only[Instr.loadAt,Instr.sureAddr,loadVar,hW,iD,hE,isAgg294,sizeOf294,if_true];simp only[gP,Nat.reduceAdd]at h;rw[h];rfl
def Hr(h:k3 w)(k:aa):aA 235 #[I k] w λr w'=>(∃ a b c d:aa,r=.returned (aL #[I a,I b,I c,I d]))/\Below w w w':=by
 have j:(Instr.alloc 294 true (aY #[])).run prog w=.ok w.heap.size (w.alloc (af z4 294)):=aI;have p:=aX w (af z4 294);have hne:w.heap.size≠0:=λe=>by
  obtain⟨v,aU⟩:=h 0 U
  have:=mU _ _ aU
  omega
 have fin:∀ a b c d:aa,∃ W,(Instr.storeAt 294 w.heap.size (aL #[I a,I b,I c,I d])).run prog (w.alloc (af z4 294))=.ok () W/\W.heap[w.heap.size]?=some (af #[I a,I b,I c,I d] 294 (0,0))/\Below w w W:=λa b c d=>by
  obtain⟨h1,h2,q⟩:=dQ (w.alloc (af z4 294)) 294 4 w.heap.size #[I a,I b,I c,I d] _ sizeOf294 rfl rfl p rfl;exact⟨_,h1,fb _ _ _ _ _ p,(cN ((bb w).alloc (af z4 294)) q a8).below bx (λ_ _ e=>e)⟩
 by_cases hk:0<=k/\k<10
 .obtain⟨n,rfl⟩:∃ n:J,k=n:=⟨k.toNat,U⟩;have av:n<10:=U;obtain⟨a,b,c,d,s⟩:=T3 (h.keep ((bb w).alloc (af z4 294)) id) n av;obtain⟨W,g,i,l⟩:=fin a b c d;have d1:=di U;have d2:=di U;have t:=di U;have f:=bW i l;generalize w.alloc (af z4 294)=ao at *
  go_in
  go_wp2_with first|refine dU j rfl rfl ?_|((with_reducible refine dn (s _ rfl) rfl rfl ?_ ?_);exact rfl)|refine c7 g rfl rfl rfl rfl ?_
  have m:=dF _ _ _ _ f.o.1 4 rfl;refine dx (v:=aL #[I a,I b,I c,I d]) m ?_;exact⟨⟨_,_,_,_,rfl⟩,f.o.2⟩
 have⟨W,g,i,l⟩:=fin 0 0 0 0;have f:=bW i l;generalize w.alloc (af z4 294)=ao at *;by_cases hk:k<0
 .have d1:=ei hk
  go_in
  go_wp2_with first|refine dU j rfl rfl ?_|refine c7 g rfl rfl rfl rfl ?_
  have m:=dF _ _ _ _ f.o.1 4 rfl;refine dx (v:=aL z4) m ?_;exact⟨⟨_,_,_,_,rfl⟩,f.o.2⟩
 have d1:=di hk
 go_in
 go_wp2_with first|refine dU j rfl rfl ?_|refine c7 g rfl rfl rfl rfl ?_
 refine dx (v:=aL z4) (dF _ _ _ _ f.o.1 4 rfl) ?_;exact⟨⟨_,_,_,_,rfl⟩,f.o.2⟩
variable{dq:ay}{ps:ah dS}
def Hq(h:lJ w b dq ps)(k:cU):aA 236 #[b,aL k] w λe w'=>Keeps aG w w'/\(e=.returned (I (-1))\/∃ i:J,i<ps.length/\e=.returned (I i)):=by
 have a:=(bb w).alloc (af k 43);have h1:=h.keep a;have c:=aO h1.hd;have d:=ag (JJ h1.row AE (λp=>decide (p.k=k)) 299 #[w.heap.size] (enters_of func299 aI rfl) (λW x ak=>by
  have hk:=Keeps.bJ (S:=aG) ak a8;exact(Rl x k w.heap.size (hk.heap (aX w (af k 43)) id)).mono λ_ _ aS=>⟨aS.1,ak.trans (aS.2.mono ak.size)⟩))
 obtain⟨A,cap,rfl,_,_⟩:=cS h.row
 go_in
 go_wp2_with fail;generalize World.alloc w _=ao at *;exact NL
def Ri(w:aj):aA 132 #[] w λe w'=>e=.returned w.heap.size/\w'=w.alloc (af #[aq none 0 0] 291):=by
 go_in
 go_wp2;go_ret;exact⟨rfl,rfl⟩
def QM(a b c d:aa)(w:aj):∃ r,(binOp .eql 294 (aL #[I a,I b,I c,I d]) (aL z4)).run prog w=.ok (.bool r) w:=by
 refine⟨a == 0&&(b == 0&&(c == 0&&d == 0)),?_⟩;simp[go_sem]
 repeat' split
 all_goals simp_all
def H4:prog.eqGuardType prog.depth 294=false:=aI
def Ix:∃ i z,prog.info? 296=some i/\i.zero=some z/\i.size=10/\i.bytes=72/\z.cells.size=10:=by
 have h:(prog.info? 296).map (λi=>(i.zero.map λz=>z.cells.size,i.size,i.bytes))=some (some 10,10,72):=aI;cases aS:prog.info? 296 with
 | none=>rw[aS]at h;cases h
 | some i=>
  rw[aS]at h;simp only[pN,hI,jR]at h;cases a:i.zero with
  | none=>rw[a]at h;cases h.1
  | some z=>rw[a]at h;exact⟨i,z,rfl,a,h.2.1,h.2.2,by simpa using h.1⟩
def Vu{base:J}{v:ay}{cs:ah dS}(ty:TypeId)(h:w.ownsRow base 296 10 v cs.length (eh cs))(av:cs.length<=10000)(ak:base<=w.heap.size)(c:dS):∃ v' ao,(Builtin.append_ #[289,289] ty #[v,aq (some (ae w 0 ad)) 1 1]).run prog (w.alloc (af (l6 c) 296))=.ok v' ao/\ao.ownsRow base 296 10 v' (cs++[c]).length (eh (cs++[c]))/\Keeps (λj=>v.ownBlock=some j) w ao/\∀ j,v'.ownBlock=some j->v.ownBlock=some j\/w.heap.size<=j:=by
 have⟨i,z,ax,l,h1,h2,d⟩:=Ix
 obtain⟨v',ao,k,g,aZ,_,f⟩:=w9 (P:=prog) (w.alloc (af (l6 c) 296)) base 289 ty 296 i z 10 72 underlying289 ax l h1 h2 d bt v cs.length (eh cs) (h.alloc _) (ae w 0 ad) 1 1 (l6 c).toList rfl
  (λj u a=>by
   rw[ij,gP];exact bf (aX w (af (l6 c) 296)) AI) (CE c) kd U b1
 refine⟨v',ao,k,?_,((Keeps.refl _ w).alloc _).grown aZ (λj e=>.inl e),λj b=>?_⟩
 .rw[show eh (cs++[c])=eh cs++(l6 c).toList by simp[eh,dS.bu],cx,jd];exact g
 rcases f with e|e
 .exact .inl (e▸b)
 rw[b]at e;simp at e;omega
structure vB(b:J)(dq:ay)(ps:ah dS)(kF:J)(e:aC)(x y:aa)(W:aj):al where
 ed:lJ W b dq ps
 bg:W.heap[kF]?=some (af e 45 (0,0))
 dR:W.heap[kF+1]?=some (af #[ai x,ai y] 91 (0,0))
 ub:k3 W
theorem vB.keep{kF:J}{e:aC}{x y:aa}(h:vB b dq ps kF e x y w)(hk:Keeps aG w w'):vB b dq ps kF e x y w':=⟨h.ed.keep hk,hk.heap h.bg id,hk.heap h.dR id,h.ub.keep hk id⟩
def Rj(h:lJ w b dq ps)(aat:k3 w)(T':dq.ownBlock≠some 0)(e:aC)(he:fm e=true)(x y:aa):aA 159 #[b,aL e,aL #[ai x,ai y]] w λr w'=>(∃ c,r=.returned (I c))/\iP w b dq w':=by
 have Y:=((bb w).alloc (af e 45)).alloc (af #[ai x,ai y] 91);have aay:(w.alloc (af e 45)).heap.size=w.heap.size+1:=aM;have m':=cw (aX w (af e 45)) (af #[ai x,ai y] 91);have v':=aX (w.alloc (af e 45)) (af #[ai x,ai y] 91);rw[aay]at v';have aaw:=(uC he).1;have V':vB b dq ps w.heap.size e x y _:=⟨h.keep Y,m',v',aat.keep Y id⟩;have W':=ag (he▸vS e ((w.alloc (af e 45)).alloc (af #[ai x,ai y] 91)));have aau:=j6 (e:=e) m';have aax:∀ j,dq.ownBlock=some j->j<w.heap.size:=λj C=>mH h.row C;have a':=bW (bT h.hd) T';have L:=bW V' (bD Y (bD aax aaw))
 go_in
 go_wp2_with ((with_reducible refine dn aau rfl rfl ?_ ?_);exact rfl);generalize World.alloc (World.alloc w _) _=ao at *;refine aW W'.o λaD ak=>?_;have zp:=Keeps.bJ (S:=aG) ak a8;have h2:=L.o.1.keep zp;have aaG:=aO h2.bg;have s':=ag (Hr h2.ub e.k.bp);have M:=bW h2 (L.o.2.1.trans zp);have Tq:=ag L.o.2.2;go_wp2_with fail;refine s'.o.mono ?_;rintro r bq ⟨⟨g',lb,g_,fd,rfl⟩,ak⟩;have Q:=Keeps.bJ (S:=aG) ak a8;have l':=M.out.1.keep Q;have aar:∀ W,(Instr.build 294 #[]).run prog W=.ok (aL z4) W:=λW=>aI;obtain⟨aaD,E⟩:=QM g' lb g_ fd bq;have g:=bW l' (M.out.2.trans Q);obtain⟨F,f⟩:∃ F:a7 ay,F=#[I g',I lb,I g_,I fd]:=⟨_,rfl⟩;rw[<-f]at E⊢;clear aaG s' ak Q l' M f;cases aaD with
 | true=>
  have cI:=ag (iP.l5 g.out.2 (iP.same g.out.1.ed (bb bq)));go_wp2_with refine uV (tZ H4 _ _ _ _ _) E vp rfl rfl rfl ?_
  go_ret;exact⟨⟨_,rfl⟩,cI.o⟩
 | false=>
 have aaF:=aO g.out.1.bg;have f:=ag (Hq g.out.1.ed e.k);go_wp2_with refine uV (tZ H4 _ _ _ _ _) E vp rfl rfl rfl ?_
 clear E aar;refine f.o.mono ?_;rintro r H ⟨R,aav⟩;have l:=g.out.1.keep R;have q:=bW l (g.out.2.trans R);clear aaF f g R;rcases aav with rfl|⟨i,ax,rfl⟩
 rotate_left
 .have cI:=ag (iP.l5 q.out.2 (iP.same q.out.1.ed (bb H)));have aaH:decide (0<=(i:aa))=true:=ei U;have aaI:decide ((i:aa) >= 0)=true:=ei U;clear l ax;exact tf
 have aaz:=aO l.ed.hd;obtain⟨A,cap,rfl,_,_⟩:=cS l.ed.row;by_cases Aw:32<=ps.length
 .have cI:=ag (iP.l5 q.out.2 (iP.same q.out.1.ed (bb H)));have aZ:decide ((32:aa)<=(ps.length:aa))=true:=ei U;have Z:decide ((ps.length:aa) >= (32:aa))=true:=ei U;clear l Aw;exact tf
 have aZ:decide ((32:aa)<=(ps.length:aa))=false:=di U;have Z:decide ((ps.length:aa) >= (32:aa))=false:=di U;have f:=l.keep (bb H).drew;have fr:=ag (q.out.2.trans (bb H).drew);clear l q;go_wp2_with fail;clear aaz aZ Z;obtain⟨G,m⟩:=h0 (F:=λW=>(W.heap[b]?=some (af #[aq A ps.length cap] 291 (0,0))/\W.heap[w.heap.size]?=some (af e 45 (0,0))/\W.heap[w.heap.size+1]?=some (af #[ai x,ai y] 91 (0,0))/\k3 W));have aaA:=λx:bs G=>aO (((m _).1 x.held).1);have aaB:=λx:bs G=>aO (((m _).1 x.held).2.1);have aaC:=λx:bs G=>aO (((m _).1 x.held).2.2.1);have D:∀ W,vB b (aq A ps.length cap) ps w.heap.size e x y W->G W:=λW h=>(m W).2 ⟨h.ed.hd,h.bg,h.dR,h.ub⟩;have O:=D _ f;have vl:=ag (λW (aaq:G W)=>Hr ((m _).1 aaq).2.2.2 e.k.bp);have TS:=ag (show ps.length<32 by omega);refine cJ 18 ?_;refine cK (G) (.range 15) 3 15 ?_;refine dK (O) [0,1,2,3,4,5,6,7,9,10,11] 4 ?_;refine eH 8 λK B=>?_;go_simp;refine(vl.o _ O).mono ?_;rintro r aaE ⟨⟨dd,u,v,z,rfl⟩,ak⟩;have V:=Keeps.bJ (S:=aG) ak a8;have d:=f.keep V;have N:=D _ d;refine B _ _ (N) ?_;clear B K;refine dK (N) [12] 2 ?_;obtain⟨v2,St,ys,CW,t,zd⟩:=Vu 289 d.ed.row U (de _) (dS.mk dd u v z e.k x y);have n:=t.heap d.ed.hd (λe=>d.ed.ne _ e rfl);have X:=Tq.out.1;have r':=(m St).2 ⟨n,t.heap d.bg (λe=>nW _ (X _ e)),t.heap d.dR (λe=>by have:=X _ e;omega),d.ub.keep t a'.out.2⟩;have sd:=D _ (d.keep ((bb aaE).alloc (af (l6 (dS.mk dd u v z e.k x y)) 296)));have a:=bW d (bD CW (bD t (bD zd (bD (fr.out.trans V) n))));clear aaA aaB aaC O N vl f d ak V CW t zd Aw m fr n X D;refine hs 13 sd ?_;refine jG 14 λK B=>?_;refine Lib.wp_append_run _ (.tmp 38) (.tmp 47) 289 289 rfl _ _ rfl rfl _ _ ys ?_;refine B _ _ (r') ?_;clear B K;clear sd r';clear ys;obtain⟨ab,gf,rfl,_,_⟩:=cS a.o.2.1;have n:=a.o.2.2.2.2.2;have aas:=bP n;have bz:=aO n;clear n;simp only[Act.put,c8];refine fu (λ_=>False) [15,16] [] 1 (hQ ?_);refine cK (λ_=>True) [17] 0 1 ?_;refine h9 17 trivial ?_;clear bz aas;have P:=b3 a.o.2.2.2.2.2 0 (.slice ab (ps++[dS.mk dd u v z e.k x y]).length gf);simp only[tc,rT]at P;have Q':=b5 (S:=λj=>j=b) a.o.2.1 ((Keeps.refl (λj=>j=b) St).setCell (p:=ae b 0 ad) rfl (.slice ab (ps++[dS.mk dd u v z e.k x y]).length gf)) (λj C e=>by
  subst e;rcases a.out.2.2.2.1 _ C with s|s
  .exact a.out.1.ed.ne _ s rfl
  .have:=a'.out.1
   have:=a.out.2.2.2.2.1.size
   omega)
 have cI:=ag (show iP w b (aq A ps.length cap) _ from⟨_,ps++[dS.mk dd u v z e.k x y],⟨P,Q',by have:=TS.out;simp;omega⟩,((a.out.2.2.2.2.1.mono (λ_ _ x=>x.elim)).trans (a.out.2.2.1.mono (T:=λj=>j=b\/(aq A ps.length cap).ownBlock=some j) λ_ _ x=>.inr x)).setCell (.inl rfl) _,λj C=>by
  rcases a.out.2.2.2.1 _ C with s|s
  .exact .inl s
  .exact .inr (ca a.out.2.2.2.2.1.size s)⟩)
 clear P Q' a;exact Mr
def Ws{ρ:Go.Shelf.Ren}(L:SlLaysE0.n41 prog ρ){a:TypeInfo}{z:ay}{k bytes:J}(ax:prog.info? (ρ.t 23)=some a)(o:a.zero=some z)(h1:a.size=k)(h2:a.bytes=bytes)(i:z.cells.size=k)(hk:0<k)(p:∀ w,(Go.sizeOf (ρ.t 23)).run prog w=.ok k w){base n:J}{v:ay}{xs:ah ay}(h:w.ownsRow base (ρ.t 23) k v n xs)(av:n*bytes<=140737488355328)(m:∀ u∈xs,u.oneCell'=true):Calls prog (ρ.f 41) #[v] w λe w'=>∃ cQ,e=.returned cQ/\w'.ownsRow w.heap.size (ρ.t 23) k cQ n xs/\Below w w w':=by
 rcases h.2 with⟨rfl,b⟩|⟨g,cap,s,rfl,aZ,aS,an,hm,aw,aK⟩
 .subst b;refine Ez (AnyE.slices_Clone_nil (P:=prog) (ρ:=ρ) L 0 0 w) ?_;exact⟨_,rfl,(jP.1 (by rw[h.1,xn]))▸gx _ _ _ _,b7 _ _⟩
 have⟨A,r,l,aU,_⟩:=cS h;cases l;refine(AnyE.slices_Clone (P:=prog) (ρ:=ρ) L a z k bytes ax o h1 h2 i hk p g 0 n cap xs w h.1 (ca an hm) av (λj u c=>?_) m).mono ?_
 .have d:0<n:=by
   rcases rW n with e|e
   .have:=(hD.1 c).1
    rw[h.1,e,xn]at this;omega
   exact e
  exact M4
 rintro e w' ⟨v',rfl,h1,_,h2⟩;exact⟨v',rfl,h1,h2⟩
def Zv:Go.Shelf.Ren:=⟨fun|41=>80|n=>n,fun|4=>4|22=>71|23=>175|n=>n,fun|n=>n⟩
def Zu:SlLaysE0.n41 prog Zv:={
 mixed:=aI
 f41:=⟨f80.name,bt,func80.trans (c5 some aI)⟩
 t4:=underlying4
 a4:=isAgg4
 z4:=sizeOf4
 v4:=zeroValue4
 t22:=underlying71
 a22:=isAgg71
 z22:=sizeOf71
 v22:=zeroValue71}
def aaj(h:k2 w b n dh bV):aA 53 #[b] w λe w'=>(∃ A c k,e=.returned (aq A k c)/\k<=64)/\Keeps aG w w':=by
 have bw:=aO h.hd;have⟨i,z,ax,l,h1,h2,d⟩:=Iy;have aV:=ag (Ws Zu ax l h1 h2 d bt sizeOf175 h.row AE λu g=>by
  obtain⟨x,_,j⟩:=xj.1 g;exact zB x u j)
 go_in
 go_wp2_with fail;refine aV.o.mono ?_;rintro e ao ⟨cQ,rfl,f,ak⟩;obtain⟨A,c,rfl,_,_⟩:=cS f;have a:=ag (Keeps.bJ (S:=aG) ak a8);go_wp2;go_ret;exact⟨⟨_,_,_,rfl,h.gn⟩,a.o⟩
def Jk(n:aa)(av:1<=n/\n<=16)(w:aj):aA 131 #[I n] w λe w'=>e=aY #[w.heap.size,I 0]/\w'=w.alloc (af #[I n,I 0,aq none 0 0] 177):=by
 go_in
 go_wp2;go_ret2;exact⟨rfl,rfl⟩
def Uz(n:aa)(av:¬ (1<=n/\n<=16))(w:aj):aA 131 #[I n] w λe w'=>e=aY #[.pointer none,I 1]/\w'=w:=by
 by_cases h1:n<1
 .have d1:=ei h1
  go_in
  go_wp2;go_ret2;exact⟨rfl,rfl⟩
 have d1:=di h1
 go_in
 go_wp2;go_ret2;exact⟨rfl,rfl⟩
def RMap.clear{P:Program}{k:TypeId}{dI:Type}{C:lK P k dI}{b:J}{M:ah (dI×ay)}(h:RMap w C b M){t e:TypeId}(aK:P.underlying t=some (.map k e))(ty:TypeId):∃ w',(Builtin.clear_ #[t] ty #[.map (some b)]).run P w=.ok (aY #[]) w'/\RMap w' C b []/\Keeps (λj=>j=b) w w':=by
 obtain⟨c,⟨es,a,ak,F,aw,d⟩,_⟩:=h.own;refine⟨w.putObj b (.map #[] a),?_,⟨⟨[],⟨#[],a,World.putObj_heap_same (jv.1 ak).1,⟨aM,MapKept.stamped_empty a,aM⟩,df _,rfl⟩,zX _⟩,(λ_ h=>nomatch h),Pairwise.nil⟩,(Keeps.refl (λj=>j=b) w).putObj (l:=b) rfl _⟩;simp[Builtin.clear_,rM aK,MapKept.run_getObj_map ak,MapKept.run_setObj_map _ ak,Result.andThen];rfl
def IU{B:dN}{s:cO}(h:IsLd w B s):aA 23 #[B.b] w λe w'=>∃ v,e=.returned v/\w'.ownsRow w.heap.size 45 9 v s.bc.length (b4 s.bc)/\Keeps aG w w':=by
 exact IT h.gr h.bc h.dz (by have:=h.cv;omega)
def wu{B:dN}{s:cO}(h:IsLd w B s):aA 17 #[B.b] w λe w'=>e=.returned (I s.aP)/\w=w':=by
 have a:=aO h.gr
 go_in
 go_wp2;go_ret;exact⟨rfl,rfl⟩
def AL(w:aj)(B:dN)(s:cO)(e:Ending)(w':aj):al:=
 ∃ v,e=.returned v/\w'.ownsRow w.heap.size 47 12 v (j4 s).length (dC (j4 s))/\xH w B w' B (gq s)/\∀ j,v.ownBlock=some j->¬ B.S j
def tI(xs:ah aC):ah bI:=xs.map λo=>⟨3,o,0,false⟩
structure tp(w:aj)(B:dN)(s:cO)(v:ay)(pre:ah aC)(cA:ay)(W:aj):al where
 out:W.ownsRow w.heap.size 47 12 cA (tI pre).length (dC (tI pre))
 ld:IsLd W B {s with hd:=true}
 cu:Keeps (λj=>j=B.b) w W
 rx:W.ownsRow w.heap.size 45 9 v s.bc.length (b4 s.bc)
theorem tp.keep{B:dN}{s:cO}{v:ay}{pre:ah aC}{cA:ay}{W W':aj}(h:tp w B s v pre cA W)(hk:Keeps aG W W'):tp w B s v pre cA W':=
 ⟨b5 h.out hk (λ_ _=>id),h.ld.kI hk,h.cu.trans (hk.mono λ_ _ x=>x.elim),b5 h.rx hk (λ_ _=>id)⟩
def TF{B:dN}{s:cO}(h:IsLd w B s):aA 97 #[B.b] w (AL w B s):=by
 have TS:=h.cv;cases aS:s.hd with
 | true=>
  have f:=h.gr;unfold np at f;rw[aS]at f;have d4:=aO f;have a':j4 s=[]:=by unfold j4;rw[aS];rfl
  have fr:gq s=s:=by unfold gq;rw[aS];rfl
  have Y:=ag (show AL w B s (.returned (aq none 0 0)) w from⟨_,rfl,by rw[a'];exact gx _ _ _ _,⟨by rw[fr];exact h,rfl,rfl,rfl,λj a=>.inl a,Keeps.refl _ _⟩,λj a=>by cases a⟩)
  go_in
  go_wp2_with fail;go_ret;exact Y.o
 | false=>
  have f:=h.gr;unfold np at f;rw[aS]at f;have d4:=aO f;have f4:=bP f;have eU:=(Keeps.refl (λj=>j=B.b) w).setCell (p:=ae B.b 4 ad) rfl (.bool true);have h2:IsLd (w.setCell (ae B.b 4 ad) (.bool true)) B {s with hd:=true}:=h.KG (by simpa[np]using b3 h.gr 4 (.bool true)) eU rfl rfl rfl h.c0;have m':=ag (IU h2);have gf:j4 s=tI s.bc:=by unfold j4;rw[aS];rfl
  have g':gq s={s with hd:=true,bc:=[]}:=by unfold gq;rw[aS];rfl
  have k:=bW h2 (bD eU (bD gf g'));have w':(w.setCell (ae B.b 4 ad) (.bool true)).heap.size=w.heap.size:=aM
  go_in
  go_wp2_with fail;generalize w.setCell _ _=ao at *;refine m'.o.mono ?_;rintro e aD ⟨v,rfl,t,G⟩;rw[w']at t;have l':tp w B s v [] (aq none 0 0) aD:=⟨gx _ _ _ _,k.out.1.kI G,k.out.2.1.trans (G.mono λ_ _ x=>x.elim),t⟩;obtain⟨A,cap,rfl,_,_⟩:=cS t;have W:=ag l';go_wp2_with fail;go_loopg [3,20] s.bc.length (λg cA z wr=>∃ pre rest:ah aC,s.bc=pre++rest/\g=rest.length/\z=I pre.length/\(∃ A n cap,cA=aq A n cap)/\tp w B s (aq A s.bc.length cap) pre cA wr)
  case atStart=>exact⟨[],s.bc,rfl,rfl,rfl,⟨_,_,_,rfl⟩,W.o⟩
  obtain⟨pre,rest,i,aZ,rfl,⟨V,no,co,rfl⟩,c⟩:=hrel;cases rest with
  | nil=>
   have St:¬ (pre.length:aa)<(s.bc.length:aa):=by rw[i];simp
   have ys:s.bc=pre:=by rw[i,eB]
   have d1:=aO c.ld.gr;have⟨zp,l,vl,q⟩:=c.ld.bc.clear underlying115 0;have r:=c.ld.C4 (L:=[]) vl q Pairwise.nil (by have lb:=c.ld.n;show((0:J):aa)<=s.most;have Q':(s.bc.length:aa)<=s.most:=lb.1;omega);have M:=b5 c.out q (λj a e=>mI c.out c.ld.bc a e);have v':AL w B s (.returned (aq V no co)) zp:=by
    refine⟨_,rfl,by rw[k.out.2.2.1,ys];exact M,⟨by rw[k.out.2.2.2];exact r,rfl,rfl,rfl,λj a=>.inl a,?_⟩,λj a=>r.BB (r.rb M bt bt a)⟩;exact(c.cu.mono (T:=B.S) (λj _ a=>.inl a)).trans (q.mono (T:=B.S) (λj _ a=>.inr (.inl a)))
   have Z:=ag v';go_wp2_with ((with_reducible refine wZ l rfl rfl ?_ ?_);exact rfl);go_ret;exact Z.o
  | cons e rest=>
   have s':pre.length<s.bc.length:=by rw[i];simp
   have Tq:(pre.length:aa)<(s.bc.length:aa):=U;have F:s.bc[pre.length]=e:=by simp[i]
   have O:s.bc=(pre++[e])++rest:=by rw[i];simp
   have r':=aZ;simp only[dy]at r';clear aZ;obtain⟨zd,rfl⟩:=nw c.rx U;have K:=mM (P:=prog) (enc:=aC.bu) (λ_=>rfl) isAgg45 sizeOf45 c.rx pre.length s';rw[F]at K;have dp:=qq wr;obtain⟨Q,N,y,H,T'⟩:=r9 wr e;have d:=c.keep H;have l:(tI pre).length<=10000:=by unfold tI;rw[hG];omega
   obtain⟨CW,Aw,D,u,m,R,n7,c2,rfl⟩:=x0 32 d.out l d.cu.size ⟨3,e,0,false⟩;have C:tp w B s (aq (some (ae zd 0 ad)) s.bc.length cap) (pre++[e]) (aq R n7 c2) Aw:=by
    refine⟨by unfold tI at u⊢;rw[jx];exact u,d.ld.keep m λj a=>d.ld.rb d.out bt bt a,cN d.cu m (λj a e=>by have:=(d.out.lt j e).1;omega),b5 d.rx m (λj a e=>uu d.out d.rx bt e a)⟩
   have X:=ag C;have sd:=j6 y;have ps:=Kf e;have E:=zf ⟨3,e,0,false⟩ Q;have ab:=ag O;generalize wr.alloc (af z9 45)=V' at dp N;generalize Q.alloc (af (dg ⟨3,e,0,false⟩) 47)=W' at D E;clear c d i F y H l u m C O;go_wp2_with first|((with_reducible refine dn K rfl rfl ?_ ?_);exact rfl)|(with_reducible refine dU dp rfl rfl ?_)|((with_reducible refine c7 N rfl rfl ?_ ?_ ?_);exact rfl;exact rfl)|((with_reducible refine dn sd rfl rfl ?_ ?_);exact rfl)|((with_reducible refine s0 (ps _) rfl rfl ?_ ?_ ?_);exact rfl;exact rfl)|((with_reducible refine zH E rfl rfl ?_ ?_);exact rfl)|((with_reducible refine wY D rfl rfl ?_ ?_ ?_);exact rfl;exact rfl)
   go_roundg rest.length
   case measure=>omega
   exact⟨pre++[e],rest,ab.o,rfl,qO,⟨_,_,_,rfl⟩,X.o⟩
def cO.new(n:aa):cO:=⟨n,[],λ_=>[],-1,false⟩
def IV(n:aa)(av:1<=n/\n<=256):aA 130 #[I n] w λe w'=>e=aY #[.pointer (some (ae (w+2) 0 ad)),I 0]/\IsLd w' ⟨w+2,w.heap.size,w.heap.size+1,[]⟩ (cO.new n)/\Keeps aG w w'/\w'.heap.size=w.heap.size+3:=by
 have d:(w.alloc (.map #[] 0)).heap.size=w.heap.size+1:=aM;have f:((w.alloc (.map #[] 0)).alloc (.map #[] 0)).heap.size=w.heap.size+2:=aM;have b:=(RMap.made (w.alloc (.map #[] 0)) prog 3 sq).keeps (T:=aG) ((bb _).alloc (af (np ⟨w+2,w.heap.size,w.heap.size+1,[]⟩ (cO.new n)) 118)) id;have ak:=aX ((w.alloc (.map #[] 0)).alloc (.map #[] 0)) (af (np ⟨w+2,w.heap.size,w.heap.size+1,[]⟩ (cO.new n)) 118);rw[d]at b;rw[f]at ak;have c:IsLd _ ⟨w+2,w.heap.size,w.heap.size+1,[]⟩ (cO.new n):=⟨ak,((RMap.made w prog 43 km).keeps (T:=aG) (((bb _).alloc (.map #[] 0)).alloc (af (np ⟨w+2,w.heap.size,w.heap.size+1,[]⟩ (cO.new n)) 118)) id),Pairwise.nil,⟨by show((0:J):aa)<=n;omega,av.2⟩,⟨b,λ_=>rfl,λ_ h=>nomatch h⟩,λ_=>⟨Pairwise.nil,by show 0<=64;omega,λ_ h=>nomatch h⟩,by show w.heap.size≠w.heap.size+1;omega,by show(-1:aa)<=-1/\(-1:aa)<=1000000;omega⟩;have a:=bW c ((((bb w).alloc (.map #[] 0)).alloc (.map #[] 0)).alloc (af (np ⟨w+2,w.heap.size,w.heap.size+1,[]⟩ (cO.new n)) 118));have g:=@run_makeMap prog
 go_in
 go_wp2;go_ret2;exact⟨rfl,a.o.1,a.o.2,aM⟩
end Go.Proofs.YtalagblioepadaaGreatDoor
