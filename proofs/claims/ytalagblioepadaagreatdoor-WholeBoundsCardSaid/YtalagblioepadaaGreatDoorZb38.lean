/- The proof, part 38. -/
import Derived.Test.YtalagblioepadaaGreatDoorZb37
import Derived.Shelf.SlicesQ.IndexFunc
namespace Go.Proofs.YtalagblioepadaaGreatDoor
set_option linter.all false
open Proofs.Tryz List Go.RowKit Go.Shelf Go.Maps
set_option maxRecDepth 100000
set_option maxHeartbeats 1000000
def Nr{p:ak}(h:p:=by
 rintro pre x a' a t ⟨Y,rfl,C,g,f,c⟩ q hk;exact⟨Y,rfl,C,hk.heap g U,f,c.keep hk a7⟩
 ):p:=h
variable{w w':ai}
instance:Inhabited aC:=⟨⟨⟨0,0,0,0⟩,0,0,0,0,0⟩⟩
def AD:Go.Shelf.Ren:=⟨fun|6=>339|8=>316|n=>n,fun|0=>0|3=>3|4=>4|22=>66|23=>45|25=>162|n=>n,fun|n=>n⟩
def Ga:SlLaysH0.n8 prog AD:={
 mixed:=aH
 f6:=⟨f339.name,bq,func339.trans (cV some aH)⟩
 f8:=⟨f316.name,bq,func316.trans (cV some aH)⟩
 t0:=underlying0
 a0:=isAgg0
 z0:=sizeOf0
 v0:=zeroValue0
 t3:=underlying3
 a3:=isAgg3
 z3:=sizeOf3
 v3:=zeroValue3
 t4:=underlying4
 a4:=isAgg4
 z4:=sizeOf4
 v4:=zeroValue4
 t22:=underlying66
 a22:=isAgg66
 z22:=sizeOf66
 v22:=zeroValue66
 t25:=underlying162
 a25:=isAgg162
 z25:=sizeOf162
 v25:=zeroValue162}
abbrev zW(g:J)(lb:a6 aw)(p:aC->aY)(w:ai):ak:=PredBelow prog g lb (λx:aC=>.agg x.bt.toArray) p w
def AB{base:J}{v:aw}{xs:ah aC}(h:w.ownsRow base 45 9 v xs.length (bX xs))(au:xs.length<=1000)(p:aC->aY)(g:J)(lb:a6 aw)(d:∀ args w,(callFunc g args).run prog w=.ok (.enter g args) w)(ar:zW g lb p w):az 316 #[v,.func (.func g) #[] lb] w λe w'=>e=.returned (.bool (xs.any p))/\Below w w w':=by
 rcases h.2 with⟨rfl,f⟩|⟨b,cap,q,rfl,a1,aR,aq,hm,ax,aN⟩
 .obtain rfl:=jn.1 f;refine br (Py _ w) ?_;exact⟨rfl,bY _ _⟩
 obtain⟨A,n,l,aX,_⟩:=cP h;cases l;refine(AnyQ.slices_ContainsFunc (P:=prog) (ρ:=AD) Ga 9 isAgg45 sizeOf45 aC.bt (λ_=>rfl) p g lb d b 0 xs.length cap xs w ar bA U (bR aR) (λj a i u c=>?_)).mono ?_
 .have av:i<9:=by
   have:=(hf.1 c).1
   exact this
  have⟨m,o,e,k⟩:=aX.at' U;cases e;rw[show 0+j*9+i=0+(j*9+i)by omega];refine k (j*9+i) u ?_;rw[th xs j a i av]
  rwa [jb xs j a]at c
 rintro e w' ⟨rfl,h2⟩;rw[nk];exact⟨rfl,h2⟩
def PO(e:aC)(w:ai):az 336 #[aM e] w λr w'=>r=.returned (.bool (!fw e))/\Below w w w':=by
 have a:=af (vp e);have ca:=(bY w.heap.size w).alloc bA (ae e 45);generalize fw e=r at *
 go_in
 go_wp2_with fail;refine aT (a.o _) λan h1=>?_;go_wp2;go_ret;exact⟨rfl,(ca.trans (h1.mono ca.size))⟩
def Ua(w:ai):zW 336 #[] (λe=>!fw e) w:=λW e aj=>(PO e W).mono λ_ _ h=>⟨h.1,aj.trans (h.2.mono aj.size)⟩
section
attribute [local go_sem] Oper.semAt_some
variable{w w':ai}
def kR(k:dp):a6 aw:=k
def PS(A:b4 Addr)(n c:J)(w:ai):az 338 #[ao A n c] w λe w'=>e=.returned (.func (.func 358) #[] #[w.heap.size])/\w.alloc (ae #[ao A n c] 66)=w':=by
 go_in
 go_wp2;go_ret;exact⟨rfl,rfl⟩
def PT{xs:ah aC}{A:b4 Addr}{cap:J}(b:J)(aq:w.cell? (ad b 0 ab)=some (ao A xs.length cap))(D:dQ w 9 A xs.length cap (bX xs))(au:xs.length<=1000)(s:J->ak)(V:0<xs.length->∀ y,A=some y->¬ s y.block):pt prog 358 #[b] (λe:aC=>#[.agg (kR e.k)]) xs s (λ_=>False) w:=by
 intro l S W a' hk w' T X t;subst a';have Y:=hk.cell aq id;have E:=D.keeps hk (λ_ _ _=>id);have G:=λar x c=>D.lt U ar (x:=x) c;clear hk aq;refine gD.2 ?_
 go_in
 go_wp2_with fail;clear Y;go_loopg [7] xs.length (λg z wr=>∃ pre rest:ah aC,xs=pre++rest/\g=rest.length/\z=I pre.length/\dQ wr 9 A xs.length cap (bX xs)/\S pre wr/\w.heap.size+2<=wr.heap.size)
 case atStart=>exact⟨[],xs,rfl,rfl,rfl,E,t,U⟩
 obtain⟨pre,rest,c,a1,rfl,aX,f,v'⟩:=hrel;clear E t;cases rest with
 | nil=>
  have vl:¬ (pre.length:aa)<(xs.length:aa):=by rw[c];simp
  have O:xs=pre:=by rw[c,eX]
  have P:=af f;have d:=af O;clear c O f aX;go_wp2_with fail;go_end0;exact⟨⟨_,rfl⟩,by rw[d.o];exact P.o⟩
 | cons e rest=>
  have gf:pre.length<xs.length:=by rw[c];simp
  have L:xs[pre.length]=e:=by simp[c]
  obtain⟨m,o,rfl,K⟩:=aX.at' U;have a:∀ j u,j<9->e.bt[j]?=some u->wr.cell? (ad m (o+pre.length*9+j) ab)=some u:=λj u Z hu=>by
   rw[iN];exact K _ u (by rw[th xs pre.length gf j Z,L];exact hu)
  have z0:wr.cell? (ad m (o+pre.length*9) ab)=some (I e.k.fr):=a 0 _ U rfl;have l':=a 1 (I e.k.em) U rfl;have z2:=a 2 (I e.k.bN) U rfl;have z3:=a 3 (I e.k.cp) U rfl;have z4:=a 4 (I e.cF) U rfl;have z5:=a 5 (I e.dq) U rfl;have m':=a 6 (I e.eo) U rfl;have ps:=a 7 (I e.dJ) U rfl;have r':=a 8 (I e.le) U rfl;have B:=T _ _ _ f ((a_ wr).alloc (ae e 45));have M:=aX.keeps ((a_ wr).alloc (ae e 45)) (λ_ _ _=>id);have H:=G U _ rfl;have d:=af c;have q:=af B;have r:=af M;have Q:=af H;clear K a L c B M aX f G H;go_upto_region 3 with fail
  clear z0 l' z2 z3 z4 z5 m' ps r';have F:=aW wr (ae e 45);have lb:=aP F;have g':w.heap.size+2<=(wr.alloc (ae e 45)).heap.size:=bU;clear F;generalize wr.alloc (ae e 45)=h2 at *;refine(ob (n:=0)).1 ?_;obtain⟨fn,tmps,assign,body,h,C⟩:=X pre e rest h2 d.o q.o;unfold kR at h;gi_wp2;refine⟨rfl,C.mono ?_⟩;rintro s' sd ⟨rfl,v,i⟩;have N:=r.out.keeps i (λ_ y h e=>by cases h;exact e.elim (V U _ rfl) (λe=>by have:=Q.out;dsimp only at e this;omega));have hd:=b7 g' i.size;have R:=af (show xs=(pre++[e])++rest by rw[d.out];simp);have p:=af (bD v N);clear h C lb i v N q r;gi_wp2;go_wp2;go_roundg rest.length
  case measure=>simp at a1;omega
  exact⟨pre++[e],rest,R.o,rfl,aI,p.o.2,p.o.1,hd⟩
end
section
attribute [local go_sem] Oper.semAt_some
variable{w w':ai}
def YI{α:Type}{P:Program}{gf:J}{lb:a6 aw}{encs:α->a6 aw}{xs:List α}{b a:J->ak}(h:pt P gf lb encs xs b a w):s8 P gf lb encs (λ_ pre x _=>∃ rest,xs=pre++x :: rest) (λys _=>ys=xs) b a w:=λl c W i hk j e f d=>
 (h l c W i hk j e (λpre x rest A k g=>f pre x A A g (Keeps.refl _ _) ⟨rest,k⟩) d).mono λ_ _ ⟨h1,h2⟩=>⟨h1,xs,h2,rfl⟩
def tC(pre:ah aC):dp:=(pre.getLast?.map aC.k).getD ⟨-1,0,0,0⟩
def HJ(pre:ah aC)(e:aC):tC (pre++[e])=e.k:=by simp[tC]
def R2{fr:aa}{xs pre rest:ah aC}{e:aC}(h:eH fr xs)(f:xs=pre++e :: rest):eC (tC pre) e.k<0:=by
 rw[kL];have a:=(h.2.2 e uS).1;unfold fw ht fO at a;simp only[ee,gg]at a;unfold tC;cases b:pre.getLast? with
 | none=>exact .inl (by show(-1:aa)<e.k.fr;omega)
 | some d=>
  have bj:=h.1;rw[f]at bj;exact(q_.1 bj).2.2 d (mem_of_getLast? b) e aI
def vd(w:ai)(pre:ah aC)(W:ai):ak:=
 W.heap[w.heap.size]?=some (ae #[false] 4 (0,0))/\W.heap[w.heap.size+1]?=some (ae (kR (tC pre)) 43 (0,0))/\Keeps aG w W/\w.heap.size+2<=W.heap.size
theorem vd.keep{pre:ah aC}{T:J->ak}{W W':ai}(h:vd w pre W)(hk:Keeps T W W')(C:∀ k,T k->w.heap.size+2<=k):vd w pre W':=
 ⟨hk.heap h.1 (λe=>rl),hk.heap h.2.1 (λe=>rl),cK h.2.2.1 hk (λk hk e=>rl),b7 h.2.2.2 hk.size⟩
def Vh(w:ai):(Instr.alloc 43 true (aV #[])).run prog w=.ok w.heap.size (w.alloc (ae z4 43)):=aH
def PU{fr:aa}{xs:ah aC}{A:b4 Addr}{cap:J}(h:eH fr xs)(b:J)(aq:w.cell? (ad b 0 ab)=some (ao A xs.length cap))(R:dQ w 9 A xs.length cap (bX xs)):az 337 #[.func (.func 358) #[] #[b]] w λe w'=>e=.returned (.bool true)/\Keeps aG w w':=by
 have H:=af h;have h2:=af (λar y M=>R.lt U ar (x:=y) M);refine(gD (n:=0)).1 ?_;refine callsIn_of_wp_marks func337 rfl trivial ?_ rfl;simp only[ntmps337,gR,dr,e2,Nat.reduceAdd,Nat.reduceSub,sx,sy,sF,sA,oi,ku];gi_wp2_with (fail);have X:Keeps aG w ((w.alloc (ae #[false] 4)).alloc (ae #[I (-1),I 0,I 0,I 0] 43)):=((Keeps.refl _ w).alloc _).alloc _;have Aw:((w.alloc (ae #[false] 4)).alloc (ae #[I (-1),I 0,I 0,I 0] 43)).heap[w.heap.size]?=some (ae #[false] 4 (0,0)):=cm (aW w _) _;have zp:((w.alloc (ae #[false] 4)).alloc (ae #[I (-1),I 0,I 0,I 0] 43)).heap[w.heap.size+1]?=some (ae #[I (-1),I 0,I 0,I 0] 43 (0,0)):=by
  have:=aW (w.alloc (ae #[false] 4)) (ae #[I (-1),I 0,I 0,I 0] 43)
  rwa [fF]at this
 have V:((w.alloc (ae #[false] 4)).alloc (ae #[I (-1),I 0,I 0,I 0] 43)).heap.size=w.heap.size+2:=aI;generalize (w.alloc (ae #[false] 4)).alloc (ae #[I (-1),I 0,I 0,I 0] 43)=bl at *
 refine CJ (gf:=358) (lb:=#[b]) rfl (enters_of func358 aH rfl) (encs:=λe:aC=>#[.agg (kR e.k)]) (λ_=>rfl) (λ_ pre x _=>∃ rest,xs=pre++x :: rest) (λys _=>ys=xs) (λk=>k=w.heap.size+1\/w.heap.size+3<k) (λ_=>False)
  (YI (((λ(W:ai) (hk:Keeps aG w W)=>PT (w:=W) b (hk.cell aq id) (R.keeps hk (λ_ _ _=>id)) (by have:=h.2.1;omega))) bl X _ (λar y M e=>by have:=h2.o ar y M;omega)))
  (λ_ _ _ h _ _=>h) (by rw[V];omega) aI (λpre W=>vd w pre W) (λpre Y Z C q hk=>C.keep hk (λk hk=>by rw[V]at hk;simp at hk;omega))
  ⟨Aw,zp,X,U⟩
  (λpre x a' W=>∃ Y,a'={tmps:=#[.func (.func 358) #[] #[.pointer (some (ad b 0 ab))],undef,.pointer (some (ad w 0 ab)),.pointer (some (ad (w+1) 0 ab)),.pointer (some (ad Y 0 ab)),aM #[I (-1),I 0,I 0,I 0],.func (.func 358) #[] #[.pointer (some (ad b 0 ab))],.agg (kR x.k),undef,undef,undef,undef,undef,undef,undef,undef,undef,undef],defers:=[]}/\w.heap.size+4<=Y/\W.heap[Y]?=some (ae (kR x.k) 43 (0,0))/\(∃ rest,xs=pre++x :: rest)/\vd w pre W)
  ?ass ?assign ?body ?done
 case ass=>
  exact Nr
 case assign=>
  intro l' pre x Y7 a K T' v' Za TS W' q zd;have c:=v'.keep TS (λk hk=>hk.elim);have T:=aW a (ae z4 43);obtain⟨Y5,_,L⟩:=dO (a.alloc (ae z4 43)) 43 4 a.heap.size (kR x.k) _ sizeOf43 rfl rfl T rfl;have CW:=fe (a.alloc (ae z4 43)) a.heap.size _ (kR x.k) 43 T;have s:=cK ((a_ a).alloc (ae z4 43)) L a7;generalize (a.alloc (ae z4 43)).setRow a.heap.size (kR x.k)=Y8 at *;refine Db ?_;simp only[zw,zu,zv,zl,od,q9,c_];refine yY (Vh a) rfl rfl ?_;refine yZ (p:=.pointer (some (ad a 0 ab))) (u:=.agg (kR x.k)) Y5 rfl rfl rfl rfl ?_;refine Dc ?_;exact zd _ _ ⟨a,rfl,U,CW,W',c.keep s (λk hk=>hk.elim)⟩ (s.mono λ_ _ x=>x.elim)
 case body=>
  rintro l' pre x a' a T' ⟨Y,rfl,C,g,⟨rest,f⟩,c⟩ q;have Y':=R2 H.out f;have Y4:ht x.k=true:=by
   have:=(H.out.2.2 x uS).1
   unfold fw at this;simp only[ee]at this;exact this.1.1.1.1.1
  have Q:=af (F9 x.k);rw[Y4]at Q;have sd:=af (AA (tC pre) x.k);have g':=af c;have m':=af g;have B:a.cell? (ad Y 0 ab)=some (I x.k.fr):=bb g rfl;have D:a.cell? (ad Y 1 ab)=some (I x.k.em):=bb g rfl;have E:a.cell? (ad Y 2 ab)=some (I x.k.bN):=bb g rfl;have F:a.cell? (ad Y 3 ab)=some (I x.k.cp):=bb g rfl;gi_wp2_with (fail);refine⟨trivial,rfl,gD.2 ((Q.o _).mono ?_)⟩;rintro e t ⟨rfl,St⟩;have d:=Keeps.bE (S:=aG) St a7;have P:=g'.out.keep d (λk hk=>hk.elim);have Q':=d.heap m'.out id;rw[<-HJ pre x]at Q';have V':=HJ pre x;have bu:=aP P.2.1;have B:t.cell? (ad Y 0 ab)=some (I x.k.fr):=d.cell B id;have D:t.cell? (ad Y 1 ab)=some (I x.k.em):=d.cell D id;have E:t.cell? (ad Y 2 ab)=some (I x.k.bN):=d.cell E id;have F:t.cell? (ad Y 3 ab)=some (I x.k.cp):=d.cell F id;have hd:=af P;have ps:=af V';gi_wp2_with (fail);refine⟨trivial,rfl,gD.2 ((sd.out _).mono ?_)⟩;rintro e i ⟨rfl,Tq⟩;have m:=Keeps.bE (S:=aG) Tq a7;have G:=hd.out.keep m (λk hk=>hk.elim);have bu:=aP G.2.1;have g0:=bJ G.2.1;have B:i.cell? (ad Y 0 ab)=some (I x.k.fr):=m.cell B id;have D:i.cell? (ad Y 1 ab)=some (I x.k.em):=m.cell D id;have E:i.cell? (ad Y 2 ab)=some (I x.k.bN):=m.cell E id;have F:i.cell? (ad Y 3 ab)=some (I x.k.cp):=m.cell F id;have r:=af G;have Y6:=d.trans m;gi_wp2_with (fail);have ax:=xj r.o.2.1 (I x.k.fr) (I x.k.em) (I x.k.bN) (I x.k.cp);have z:Keeps (λj=>j=w+1) i _:=((((Keeps.refl (λj=>j=w+1) i).setCell (p:=ad (w+1) 0 ab) rfl (I x.k.fr)).setCell (p:=ad (w+1) 1 ab) rfl (I x.k.em)).setCell (p:=ad (w+1) 2 ab) rfl (I x.k.bN)).setCell (p:=ad (w+1) 3 ab) rfl (I x.k.cp);refine⟨((Y6.mono λ_ _ x=>x.elim).trans z).mono (λk _ e=>.inl e),z.heap r.o.1 U,?_,cK r.o.2.2.1 z a7,b7 r.o.2.2.2 z.size⟩;rw[ps.out];exact ax
 rintro ys W ⟨N,i2,i3,i4⟩ _ Zb s';have Y9:=jl N;have Y_:=nf N;gi_wp2;have vl:=(Keeps.setCell (S:=λj=>j=w.heap.size) (Keeps.refl _ W) (p:=ad w 0 ab) rfl (.bool true)).heap s' U;have Y2:=bW N 0 (.bool true);have L:=cK i3 (Keeps.setCell (S:=λj=>j=w.heap.size) (Keeps.refl _ W) (p:=ad w 0 ab) rfl (.bool true)) a7;generalize W.setCell (ad w 0 ab) (.bool true)=O at *;refine⟨aI,.inl ⟨_,_,rfl,run_takeDeferred vl,?_⟩⟩;have Y3:=((Keeps.refl (λj=>j=bl) O).putObj (l:=bl.heap.size) rfl (.deferred none)).heap Y2 U;have s:=cK L ((Keeps.refl (λj=>j=bl) O).putObj (l:=bl.heap.size) rfl (.deferred none)) a7;have r':=jl (v:=.bool true) (by simpa using Y3);refine⟨.bool true,by simp[results,results337,asAddr,loadVar,isAgg4,go_sem,r'],rfl,s⟩
def PI{base:J}{fr:aa}{xs:ah aC}{v:aw}(h:eH fr xs)(aX:w.ownsRow base 45 9 v xs.length (bX xs)):az 315 #[v] w λe w'=>e=.returned (.bool true)/\Keeps aG w w':=by
 obtain⟨A,cap,rfl,g,_⟩:=cP aX;have au:=h.2.1;have aU:=af (AB aX U (λe=>!fw e) 336 #[] (enters_of func336 aH rfl) (Ua w));have i:xs.any (λe=>!fw e)=false:=by
  rw[zf];intro e l;simp[(h.2.2 e l).1]
 rw[i]at aU;have d:=af g
 go_in
 go_wp2_with fail;refine aT aU.o λan j=>?_;have b:=Keeps.bE (S:=aG) j a7;go_wp2_with fail;refine aT (PS _ _ _ _) λaB a=>?_;have c:Keeps aG an aB:=by rw[<-a];exact(Keeps.refl _ an).alloc _
 have f:=af (PU (w:=aB) h an.heap.size (by rw[<-a];exact bb (k:=0) (aW an _) rfl) (d.o.keeps (b.trans c) (λ_ _ _=>id)));go_wp2_with fail;refine aT f.o λbn hk=>?_;go_wp2;go_ret;exact⟨rfl,(b.trans c).trans hk⟩
end
def rR:k_ prog 3 Int where
 enc x:=.int .i64 x
 lit x:=.int .i64 x
 ok x:=(Lit.int .i64 x).wf=true
 law x h:=keyOf_int_mk underlying3 h
 inj a b _ _ h:=by simpa using h
def R1(d:J)(k:dp)(h1:(Lit.int .i64 k.fr).wf=true)(h2:(Lit.int .i64 k.em).wf=true)(a:(Lit.int .i64 k.bN).wf=true)(b:(Lit.int .i64 k.cp).wf=true):prog.keyLits (d+2) 43 [.int .i64 k.fr,.int .i64 k.em,.int .i64 k.bN,.int .i64 k.cp]=some [.int .i64 k.fr,.int .i64 k.em,.int .i64 k.bN,.int .i64 k.cp]:=by
 have b0:prog.cellsOf 3=1:=aH;have dR:prog.cellsOf 43=4:=aH;have av:∀ n,(Lit.int .i64 n).wf=true->prog.keyLits (d+1) 3 [.int .i64 n]=some [.int .i64 n]:=λn au=>by
  unfold Program.keyLits;simp only[underlying3,au,and_self,if_true]
 unfold Program.keyLits;simp only[underlying43,dR];rw[aD ⟨rfl,aH⟩];simp[mapM_cons,b0,av _ h1,av _ h2,av _ a,av _ b]
def RY(k:dp)(h1:(Lit.int .i64 k.fr).wf=true)(h2:(Lit.int .i64 k.em).wf=true)(b:(Lit.int .i64 k.bN).wf=true)(c:(Lit.int .i64 k.cp).wf=true):keyOf prog 43 (.agg (kR k))=some (.string (keyBytes [.int .i64 k.fr,.int .i64 k.em,.int .i64 k.bN,.int .i64 k.cp])):=by
 have ax:=ri (show decide (0<prog.types.size)=true by kernel_rfl);have d:(prog.keyType 43&&(Value.agg (kR k)).formed prog 43)=true:=aH;have a:=R1 (prog.types.size-1) k h1 h2 b c;rw[show prog.types.size-1+2=prog.types.size+1 by omega]at a;have aq:(Value.agg (kR k)).cells.toList=[.int .i64 k.fr,.int .i64 k.em,.int .i64 k.bN,.int .i64 k.cp]:=rfl;unfold keyOf;simp only[underlying43];rw[d,aq,a];rfl
def wf_i64{n:aa}(h:-9223372036854775808<=n/\n<=9223372036854775807):(Lit.int .i64 n).wf=true:=by
 show(decide (-9223372036854775808<=n)&&decide (n<=9223372036854775807))=true;simp[h]
def yx{k:dp}(h:ht k=true):(Lit.int .i64 k.fr).wf=true/\(Lit.int .i64 k.em).wf=true/\(Lit.int .i64 k.bN).wf=true/\(Lit.int .i64 k.cp).wf=true:=by
 unfold ht fO at h;simp only[ee,gg]at h;exact⟨wf_i64 U,wf_i64 U,wf_i64 U,wf_i64 U⟩
def l8:k_ prog 43 dp where
 enc k:=.agg (kR k)
 lit k:=.string (keyBytes [.int .i64 k.fr,.int .i64 k.em,.int .i64 k.bN,.int .i64 k.cp])
 ok k:=ht k=true
 law k h:=RY k (yx h).1 (yx h).2.1 (yx h).2.2.1 (yx h).2.2.2
 inj a b _ _ h:=by
  simp only[kR,Value.agg.injEq,Array.mk.injEq,zh,Value.int.injEq,true_and,and_true]at h;obtain⟨h1,h2,c,d⟩:=h;cases a;cases b;simp only at h1 h2 c d;subst h1 h2 c d;rfl
section
open Go.RowKit Go.Maps
attribute [local go_sem] Oper.semAt_some
variable{w w':ai}
def h_(L:ah aC):ah (dp×aw):=L.map λe=>(e.k,.agg e.bt.toArray)
def pK(D:DataW Value)(pre:ah aC)(z:Lit):aY:=Maps.has D z&&!pre.any λq=>z.sameKey (l8.lit q.k)
def Sc(D:DataW Value)(pre:ah aC)(e:aC):(λz=>pK D pre z&&!z.sameKey (l8.lit e.k))=pK D (pre++[e]):=by
 funext z
 unfold pK;rw[any_append,any_cons,any_nil,wv];cases Maps.has D z<;>cases pre.any (λq=>z.sameKey (l8.lit q.k))<;>cases z.sameKey (l8.lit e.k)<;>rfl
def UC{H:Type}{P:Program}{k:TypeId}{R:aw->b4 (DataW H×ah MemPlace)}{b r n:J}{D:DataW H}{left:Lit->aY}{e6:J}{T:J->ak}(h:w.ranges P k R b r n D left e6)(hk:Keeps T w w')(aj:¬ T b)(g:¬ T r):w'.ranges P k R b r n D left e6:=by
 have⟨es,a,i,seen,bu,h1,h2,c,d,e,f⟩:=h;exact⟨es,a,i,seen,bu,hk.heap h1 aj,h2,c,d,hk.heap e g,f⟩
def Sb(D:DataW Value):pK D []=Maps.has D:=by
 funext z
 simp[pK]
def atKey_mem{es:ah (Lit×DataW Value)}{b:Lit}{u:aw}(h:(DataW.map es).atKey b .nil=.held u):∃ p∈es,p.1=b/\p.2=.held u:=by
 unfold DataW.atKey at h;simp only at h;cases a:es.find? (λp=>p.1.sameKey b)with
 | none=>rw[a]at h;cases h
 | some p=>rw[a]at h;exact⟨p,zo a,C5 (find?_some (p:=λp:Lit×DataW Value=>p.1.sameKey b) a),h⟩
def Au{L:ah aC}(h:(h_ L).Pairwise λp q=>p.1≠q.1):L.Pairwise λa b=>a.k≠b.k:=by
 unfold h_ at h
 rwa [uA]at h
def nodup_keys{L:ah aC}(h:L.Pairwise λa b=>a.k≠b.k):L.Nodup:=h.imp λc e=>c (by rw[e])
def HH{L:ah aC}(h:L.Pairwise λa b=>a.k≠b.k){a b:aC}(bj:a∈L)(aj:b∈L)(e:a.k=b.k):a=b:=by
 induction L with
 | nil=>cases bj
 | cons x l f=>
  obtain⟨h1,h2⟩:=jP.1 h;rcases e3.1 bj with dT|d
  .rcases e3.1 aj with kd|c
   .rw[dT,kd]
   exact absurd (by rw[<-dT];exact e) (h1 b c)
  rcases e3.1 aj with kd|c
  .exact absurd (by rw[<-kd];exact e.symm) (h1 a d)
  exact f h2 d c
def S3{L:ah aC}{b c:J}(G:RMap w l8 b (h_ L))(aq:w.cell? (ad c 0 ab)=some (.map (some b)))(t:J->ak)(H:¬ t b/\¬ t (w.heap.size+2)):s8 prog 73 #[c] (λe:aC=>#[.agg e.bt.toArray]) (λ_ pre x _=>x∈L/\pre.length<L.length) (λys _=>ys.Perm L) t (λk=>k=w.heap.size+2) w:=by
 intro l X W s' hk TS y g' Y;subst s';have Y5:=hk.cell aq id;have z:=G.keeps hk id;have Y3:=G.lt;have⟨es,v',w'⟩:=z.own;have r:=af z.ok;have D:=af z.pz;have s:=af w';refine gD.2 ?_
 go_in
 go_wp2_with (refine wpList_range_own _ rfl _ _ rfl _ _ qE underlying115 nU b _ _ rfl v' ?_;intro an A m' CW);have T':size (.map es)=L.length:=by rw[Maps.size_eq,s.o.length_eq];simp[h_]
 rw[<-Sb,T']at A;have Z:=y _ _ _ Y ((Keeps.refl (λk=>k=w+2) W).grown m' (λk hk=>by cases hk));rw[TS]at A CW;have C:=b8 A Z;go_loopg [] L.length (λg wr=>∃ (pre:ah aC) (e6:J),g=e6/\wr.ranges prog 43 nU b (w.heap.size+2) (h_ L).length (.map es) (pK (.map es) pre) e6/\pre.length+e6<=L.length/\(∀ e∈pre,e∈L)/\(pre.Pairwise λp q=>p.k≠q.k)/\X pre wr/\w.heap.size+3<=wr.heap.size)
 case atStart=>exact⟨[],_,rfl,C.o.1,aI,aI,Pairwise.nil,C.o.2,U⟩
 obtain⟨pre,e6,a1,R,Y6,Tq,h2,fr,Y8⟩:=hrel;have f:=b8 Tq (bD h2 fr);go_wp2_with (at_next;refine wpList_next_ranges _ rfl _ rfl _ qE nU id id (λkey _ _=>⟨key,rfl⟩) (λv _ _=>⟨v,rfl⟩) b (w.heap.size+2) _ _ _ e6 rfl R ?_ ?_)
 .intro Y4 vl;have zd:pre.Perm L:=by
   refine(perm_ext_iff_of_nodup (nodup_keys f.o.2.1) (nodup_keys (Au D.o))).2 λe=>⟨f.o.1 e,λi=>?_⟩;have O:=r.o _ (fu.2 ⟨e,i,rfl⟩:(e.k,Value.agg e.bt.toArray)∈h_ L);have sd:=qE.key (l8.law e.k O);have ps:Maps.has (.map es) (l8.lit e.k)=true:=zg.2 ⟨_,(s.o.mem_iff.2 (fu.2 ⟨(e.k,.agg e.bt.toArray),fu.2 ⟨e,i,rfl⟩,rfl⟩)),y_ sd⟩;have h1:=vl (l8.lit e.k);unfold pK at h1;rw[ps,sz,Bool.not_eq_false',zg]at h1;obtain⟨q,a,ax⟩:=h1;have Q:=f.o.1 q a;have l':=k_.ya qE O (r.o _ (fu.2 ⟨q,Q,rfl⟩:(q.k,Value.agg q.bt.toArray)∈h_ L)) (C5 ax);rw[HH (Au D.o) i Q l'];exact a
  go_wp2_with fail;go_end0;exact⟨⟨_,rfl⟩,pre,f.o.2.2,zd⟩
 intro x bs Y_ Za Zb aB u r' m aX K S Y7 N Q' lb;simp only[nU,hi,jq]at aX;obtain⟨rfl,rfl⟩:=aX;obtain⟨p,ar,rfl,P⟩:=atKey_mem (K .nil);obtain⟨q,a,rfl⟩:=fu.1 (s.o.mem_iff.1 ar);obtain⟨e,i,rfl⟩:=fu.1 a;simp only[y7]at P;subst P;have M:∀ q∈pre,q.k≠e.k:=λq zp Aw=>by
  unfold pK at m;simp only[ee,nd,zf]at m;refine m.2 q zp ?_;rw[Aw];exact y_ (qE.key (l8.law e.k (r.o _ a)))
 have T:aB.ranges prog 43 nU b (w.heap.size+2) (h_ L).length (.map es) (pK (.map es) (pre++[e])) u:=by
  rw[<-Sc];exact S
 have Y9:w.heap.size+3<=aB.heap.size:=U;simp only[aC.bt]at lb⊢;have E:=y _ _ _ (y _ _ _ f.o.2.2 ((Keeps.refl (λk=>k=w+2) wr).grown N (λk hk=>.inl (by cases hk;rfl)))) ((Keeps.refl (λk=>k=w+2) aB).alloc (ae e 45));have j:=b8 i (bD M (bD E (T.alloc (ae e 45))));clear Q' N r' m S K ar a i M E T R;go_upto_region 3 with fail
 have Y':=aP (aW aB (ae e 45));have St:w.heap.size+3<=(aB.alloc (ae e 45)).heap.size:=bU;generalize aB.alloc (ae e 45)=V at *;refine(ob (n:=0)).1 ?_;obtain⟨fn,tmps,assign,body,V',gf⟩:=g' pre e V V j.o.2.2.1 (Keeps.refl _ _) ⟨j.o.1,U⟩;simp only[aC.bt]at V';gi_wp2;refine⟨rfl,gf.mono ?_⟩;rintro Y2 W' ⟨rfl,a',F⟩;have B:=b8 a' (UC j.out.2.2.2 F (λh=>h.elim H.1 a7) (λh=>h.elim H.2 a7));gi_wp2;go_wp2;go_roundg u
 case measure=>omega
 refine⟨pre++[e],u,rfl,B.o.2,by rw[cx,iM];omega,λq a=>?_,?_,B.o.1,(b7 St F.size)⟩
 .rcases ft.1 a with a|a
  .exact f.out.1 q a
  simp at a;subst a;exact j.out.1
 refine q_.2 ⟨f.out.2.1,Dq _ _,λq a d hd=>?_⟩;simp at hd;subst hd;exact j.out.2.1 q a
end
section
open Go.RowKit Go.Maps
attribute [local go_sem] Oper.semAt_some
variable{w w':ai}
def dU(e:aC):a6 aw:=e
def vn(e:aC):(dU e).toList.all (λv=>v.oneCell')=true:=rfl
def qP(w:ai):(Instr.alloc 45 true (aV #[])).run prog w=.ok w.heap.size (w.alloc (ae z9 45)):=aH
structure uV(w:ai)(pre:ah aC)(W:ai):ak where
 row:∃ v,W.heap[w.heap.size]?=some (ae #[v] 66 (0,0))/\W.ownsRow (w.heap.size+4) 45 9 v pre.length (bX pre)
 cv:Keeps aG w W
 cD:w.heap.size+1<=W.heap.size
def uV.keep{pre:ah aC}{T:J->ak}{W W':ai}(h:uV w pre W)(hk:Keeps T W W')(C:∀ k,T k->w.heap.size<k/\k<w.heap.size+4):uV w pre W':=by
 have⟨v,h1,h2⟩:=h.row;exact⟨⟨v,hk.heap h1 (λe=>rl),b3 h2 hk (λb aj e=>by have:=(h2.lt b aj).1;have:=C _ e;omega)⟩,cK h.cv hk (λk hk e=>rl),b7 h.cD hk.size⟩
def Pw{L:ah aC}(gf:J)(lb:a6 aw)(r':∀ args w,(callFunc gf args).run prog w=.ok (.enter gf args) w)(Y6:L.length<=1000)(s':s8 prog gf lb (λe:aC=>#[.agg (dU e)]) (λ_ pre x _=>x∈L/\pre.length<L.length) (λys _=>ys.Perm L) (λk=>k=w.heap.size\/w.heap.size+3<k) (λk=>k=w.heap.size+3) (w.alloc (ae #[ao none 0 0] 66))):az 120 #[ao none 0 0,.func (.func gf) #[] lb] w λe w'=>∃ v ys,e=.returned v/\ys.Perm L/\w'.ownsRow (w.heap.size+4) 45 9 v ys.length (bX ys)/\Keeps aG w w':=by
 obtain⟨i0,sd,TS,T',V'⟩:=x1;refine(gD (n:=0)).1 ?_;refine callsIn_of_wp_marks func120 rfl trivial ?_ rfl;simp only[ntmps120,gR,dr,e2,Nat.reduceAdd,Nat.reduceSub,sx,sy,sF,sA,oi,ku];gi_wp2_with (fail);have W':Keeps aG w (w.alloc (ae #[ao none 0 0] 66)):=(Keeps.refl _ w).alloc _;have X:=aW w (ae #[ao none 0 0] 66);have r:(w.alloc (ae #[ao none 0 0] 66)).heap.size=w.heap.size+1:=aI;generalize w.alloc (ae #[ao none 0 0] 66)=bl at *
 refine CJ (gf:=gf) (lb:=lb) rfl r' (encs:=λe:aC=>#[.agg (dU e)]) (λ_=>rfl) _ _ (λk=>k=w.heap.size\/w.heap.size+3<k) (λk=>k=w.heap.size+3) s'
  (λys A B h _ _=>h) w0 w0 (λpre W=>uV w pre W) (λpre A B h q hk=>h.keep hk (λk hk=>by rw[r]at hk;omega))
  ⟨⟨_,X,gB _ _ _ _⟩,W',U⟩
  (λpre x a' W=>∃ Y,a'={tmps:=#[ao none 0 0,.func (.func gf) #[] lb,.pointer (some (ad w 0 ab)),undef,ao none 0 0,.pointer (some (ad Y 0 ab)),.func (.func gf) #[] lb,.agg (dU x),undef,undef,undef,undef,undef],defers:=[]}/\w.heap.size+3<=Y/\W.heap[Y]?=some (ae (dU x) 45 (0,0))/\pre.length<L.length/\uV w pre W)
  ?ass ?assign ?body ?done
 case ass=>
  exact Nr
 case assign=>
  intro l' pre x Y2 a K Aw hd Y8 vl CW q m';have c:=hd.keep vl a7;have F:=aW a (ae z9 45);obtain⟨Tq,_,zp⟩:=dO (a.alloc (ae z9 45)) 45 9 a.heap.size (dU x) _ sizeOf45 rfl rfl F (vn x);have ps:=fe (a.alloc (ae z9 45)) a.heap.size _ (dU x) 45 F;have H:=cK ((a_ a).alloc (ae z9 45)) zp a7;generalize (a.alloc (ae z9 45)).setRow a.heap.size (dU x)=Y3 at *;refine Db ?_;simp only[zw,zu,zv,zl,od,q9,c_];refine yY (qP a) rfl rfl ?_;refine yZ (p:=.pointer (some (ad a 0 ab))) (u:=.agg (dU x)) Tq rfl rfl rfl rfl ?_;refine Dc ?_;exact m' _ _ ⟨a,rfl,U,ps,CW.2,c.keep H (λk hk=>hk.elim)⟩ (H.mono λ_ _ x=>x.elim)
 case body=>
  rintro l' pre x a' A Aw ⟨Y,rfl,C,g,Y7,c⟩ q;obtain⟨v,i,d⟩:=c.row;have M:=gq (P:=prog) 45 9 Y 0 (dU x) _ _ isAgg45 sizeOf45 rfl g (λj u z=>jS);have Q':=ff.1 (vn x);have St:bX (pre++[x])=bX pre++(dU x).toList:=by simp[bX,aC.bt,dU]
  have V:=jl i;have O:=af i;have T:=af c;have G:=Fv A (dU x) 45;have N:=d.alloc (ae (dU x) 45);unfold dU at M G N;gi_wp2_with (first|(refine CK M rfl rfl rfl ?_)|(gi_at_builtin;refine wpListIn_append_own _ rfl _ _ 66 rfl (w.heap.size+4) 45 i0 (aM z9) 9 72 underlying66 sd TS T' V' rfl bq _ _ _ rfl N (ad A 0 ab) 1 1 (dU x).toList rfl rfl G Q' pj U bU ?_;intro v' an s m _;have zd:Keeps (λk=>k=w.heap.size\/w.heap.size+3<k) A an:=((Keeps.refl _ A).alloc _).grown m (λk hk=>.inl (.inr uJ));obtain⟨g',D,rfl⟩:=ownsRow_succ s;have h2:=(m.block w.heap.size bU (λe=>wV)).trans (cm O.o _);have Y4:=jl h2;have Y5:=nf h2;have Q:=af h2;clear h2 m));have y:=zd.setCell (p:=ad w 0 ab) (.inl rfl) (ao (some (ad g' 0 ab)) (pre.length+1) D);have E:=T.o;refine⟨y,⟨⟨ao (some (ad g' 0 ab)) (pre.length+1) D,wW,?_⟩,cK E.cv y a7,b7 E.cD y.size⟩⟩;rw[cx,iM,St];exact Nc
 rintro ys W c fr Y9 Z;obtain⟨v,i,d⟩:=c.row;have V:=jl i;have S:=af c;have R:=af fr;obtain⟨A,cap,rfl,_,_⟩:=cP d;gi_wp2;refine⟨aI,.inl ⟨_,_,rfl,run_takeDeferred Z,?_⟩⟩;have ar:=(Keeps.refl (λk=>k=bl) W).putObj (l:=bl.heap.size) rfl (.deferred none);refine⟨_,zb rfl _ _ _,⟨_,ys,rfl,R.o,b3 d ar (λb aj h=>by have:=(d.lt b aj).1;omega),cK S.o.cv ar a7⟩⟩
end
end Go.Proofs.YtalagblioepadaaGreatDoor
