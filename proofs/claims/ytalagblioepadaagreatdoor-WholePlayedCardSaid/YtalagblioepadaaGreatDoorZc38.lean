/- The proof, part 38. -/
import Derived.Test.YtalagblioepadaaGreatDoorZc37
import Derived.Shelf.SlicesQ.IndexFunc
namespace Go.Proofs.YtalagblioepadaaGreatDoor
set_option linter.all false
open Proofs.Tryz List Go.RowKit Go.Shelf Go.Maps
set_option maxRecDepth 100000
set_option maxHeartbeats 1000000
def N0{p:ak}(h:p:=by
 rintro pre x a' a t ⟨Y,rfl,C,g,f,c⟩ q hk;exact⟨Y,rfl,C,hk.heap g U,f,c.keep hk a7⟩
 ):p:=h
variable{w w':ai}
instance:Inhabited aB:=⟨⟨⟨0,0,0,0⟩,0,0,0,0,0⟩⟩
def AX:Go.Shelf.Ren:=⟨fun|6=>339|8=>316|n=>n,fun|0=>0|3=>3|4=>4|22=>66|23=>45|25=>162|n=>n,fun|n=>n⟩
def GH:SlLaysH0.n8 prog AX:={
 mixed:=aH
 f6:=⟨f339.name,bq,func339.trans (cV some aH)⟩
 f8:=⟨f316.name,bq,func316.trans (cV some aH)⟩
 t0:=underlying0
 a0:=isAgg0
 z0:=sizeOf0
 v0:=zeroValue0
 t3:=underlying3
 a3:=isAgg3
 z3:=sizeOf3
 v3:=zeroValue3
 t4:=underlying4
 a4:=isAgg4
 z4:=sizeOf4
 v4:=zeroValue4
 t22:=underlying66
 a22:=isAgg66
 z22:=sizeOf66
 v22:=zeroValue66
 t25:=underlying162
 a25:=isAgg162
 z25:=sizeOf162
 v25:=zeroValue162}
abbrev Ak(g:J)(lb:a6 ax)(p:aB->aY)(w:ai):ak:=PredBelow prog g lb (λx:aB=>.agg x.br.toArray) p w
def AW{base:J}{v:ax}{xs:ah aB}(h:w.ownsRow base 45 9 v xs.length (bX xs))(ar:xs.length<=1000)(p:aB->aY)(g:J)(lb:a6 ax)(d:∀ args w,(callFunc g args).run prog w=.ok (.enter g args) w)(au:Ak g lb p w):aA 316 #[v,.func (.func g) #[] lb] w λe w'=>e=.returned (.bool (xs.any p))/\Below w w w':=by
 rcases h.2 with⟨rfl,f⟩|⟨b,cap,q,rfl,aZ,aJ,al,hm,av,aO⟩
 .obtain rfl:=jx.1 f;refine bA (P' _ w) ?_;exact⟨rfl,b3 _ _⟩
 obtain⟨A,n,l,aW,_⟩:=cS h;cases l;refine(AnyQ.slices_ContainsFunc (P:=prog) (ρ:=AX) GH 9 isAgg45 sizeOf45 aB.br (λ_=>rfl) p g lb d b 0 xs.length cap xs w au bs U (bP aJ) (λj a i u c=>?_)).mono ?_
 .have aw:i<9:=by
   have:=(hp.1 c).1
   exact this
  have⟨m,o,e,k⟩:=aW.at' U;cases e;rw[show 0+j*9+i=0+(j*9+i)by omega];refine k (j*9+i) u ?_;rw[tw xs j a i aw]
  rwa [ji xs j a]at c
 rintro e w' ⟨rfl,h2⟩;rw[nE];exact⟨rfl,h2⟩
def Qp(e:aB)(w:ai):aA 336 #[aQ e] w λr w'=>r=.returned (.bool (!fz e))/\Below w w w':=by
 have a:=af (vE e);have cb:=(b3 w.heap.size w).alloc bs (ae e 45);generalize fz e=r at *
 go_in
 go_wp2_with fail;refine aU (a.o _) λao h1=>?_;go_wp2;go_ret;exact⟨rfl,(cb.trans (h1.mono cb.size))⟩
def UM(w:ai):Ak 336 #[] (λe=>!fz e) w:=λW e aj=>(Qp e W).mono λ_ _ h=>⟨h.1,aj.trans (h.2.mono aj.size)⟩
section
attribute [local go_sem] Oper.semAt_some
variable{w w':ai}
def k3(k:de):a6 ax:=k
def Qs(A:b5 Addr)(n c:J)(w:ai):aA 338 #[aq A n c] w λe w'=>e=.returned (.func (.func 358) #[] #[w.heap.size])/\w.alloc (ae #[aq A n c] 66)=w':=by
 go_in
 go_wp2;go_ret;exact⟨rfl,rfl⟩
def Qt{xs:ah aB}{A:b5 Addr}{cap:J}(b:J)(al:w.cell? (ad b 0 ab)=some (aq A xs.length cap))(D:dR w 9 A xs.length cap (bX xs))(ar:xs.length<=1000)(s:J->ak)(V:0<xs.length->∀ y,A=some y->¬ s y.block):pI prog 358 #[b] (λe:aB=>#[.agg (k3 e.k)]) xs s (λ_=>False) w:=by
 intro l S W a' hk v' T X t;subst a';have Y:=hk.cell al id;have E:=D.keeps hk (λ_ _ _=>id);have G:=λau x c=>D.lt U au (x:=x) c;clear hk al;refine gK.2 ?_
 go_in
 go_wp2_with fail;clear Y;go_loopg [7] xs.length (λg z wr=>∃ pre rest:ah aB,xs=pre++rest/\g=rest.length/\z=I pre.length/\dR wr 9 A xs.length cap (bX xs)/\S pre wr/\w.heap.size+2<=wr.heap.size)
 case atStart=>exact⟨[],xs,rfl,rfl,rfl,E,t,U⟩
 obtain⟨pre,rest,c,aZ,rfl,aW,f,vl⟩:=hrel;clear E t;cases rest with
 | nil=>
  have s':¬ (pre.length:aa)<(xs.length:aa):=by rw[c];simp
  have O:xs=pre:=by rw[c,e4]
  have P:=af f;have d:=af O;clear c O f aW;go_wp2_with fail;go_end0;exact⟨⟨_,rfl⟩,by rw[d.o];exact P.o⟩
 | cons e rest=>
  have gf:pre.length<xs.length:=by rw[c];simp
  have L:xs[pre.length]=e:=by simp[c]
  obtain⟨m,o,rfl,K⟩:=aW.at' U;have a:∀ j u,j<9->e.br[j]?=some u->wr.cell? (ad m (o+pre.length*9+j) ab)=some u:=λj u Z hu=>by
   rw[ih];exact K _ u (by rw[tw xs pre.length gf j Z,L];exact hu)
  have z0:wr.cell? (ad m (o+pre.length*9) ab)=some (I e.k.fr):=a 0 _ U rfl;have l':=a 1 (I e.k.em) U rfl;have z2:=a 2 (I e.k.bL) U rfl;have z3:=a 3 (I e.k.cq) U rfl;have z4:=a 4 (I e.cG) U rfl;have z5:=a 5 (I e.dr) U rfl;have mv:=a 6 (I e.et) U rfl;have m':=a 7 (I e.dJ) U rfl;have ps:=a 8 (I e.le) U rfl;have B:=T _ _ _ f ((ba wr).alloc (ae e 45));have M:=aW.keeps ((ba wr).alloc (ae e 45)) (λ_ _ _=>id);have H:=G U _ rfl;have d:=af c;have q:=af B;have r:=af M;have Q:=af H;clear K a L c B M aW f G H;go_upto_region 3 with fail
  clear z0 l' z2 z3 z4 z5 mv m' ps;have F:=aX wr (ae e 45);have lb:=aS F;have g':w.heap.size+2<=(wr.alloc (ae e 45)).heap.size:=bT;clear F;generalize wr.alloc (ae e 45)=h2 at *;refine(oz (n:=0)).1 ?_;obtain⟨fn,tmps,assign,body,h,C⟩:=X pre e rest h2 d.o q.o;unfold k3 at h;gi_wp2;refine⟨rfl,C.mono ?_⟩;rintro sd r' ⟨rfl,v,i⟩;have N:=r.out.keeps i (λ_ y h e=>by cases h;exact e.elim (V U _ rfl) (λe=>by have:=Q.out;dsimp only at e this;omega));have hd:=b7 g' i.size;have R:=af (show xs=(pre++[e])++rest by rw[d.out];simp);have p:=af (bB v N);clear h C lb i v N q r;gi_wp2;go_wp2;go_roundg rest.length
  case measure=>simp at aZ;omega
  exact⟨pre++[e],rest,R.o,rfl,aK,p.o.2,p.o.1,hd⟩
end
section
attribute [local go_sem] Oper.semAt_some
variable{w w':ai}
def Zk{α:Type}{P:Program}{gf:J}{lb:a6 ax}{encs:α->a6 ax}{xs:List α}{b a:J->ak}(h:pI P gf lb encs xs b a w):tl P gf lb encs (λ_ pre x _=>∃ rest,xs=pre++x :: rest) (λys _=>ys=xs) b a w:=λl c W i hk j e f d=>
 (h l c W i hk j e (λpre x rest A k g=>f pre x A A g (Keeps.refl _ _) ⟨rest,k⟩) d).mono λ_ _ ⟨h1,h2⟩=>⟨h1,xs,h2,rfl⟩
def tR(pre:ah aB):de:=(pre.getLast?.map aB.k).getD ⟨-1,0,0,0⟩
def H'(pre:ah aB)(e:aB):tR (pre++[e])=e.k:=by simp[tR]
def SF{fr:aa}{xs pre rest:ah aB}{e:aB}(h:eL fr xs)(f:xs=pre++e :: rest):eE (tR pre) e.k<0:=by
 rw[kV];have a:=(h.2.2 e vf).1;unfold fz hC fU at a;simp only[d',fZ]at a;unfold tR;cases b:pre.getLast? with
 | none=>exact .inl (by show(-1:aa)<e.k.fr;omega)
 | some d=>
  have bd:=h.1;rw[f]at bd;exact(pq.1 bd).2.2 d (mem_of_getLast? b) e aK
def vt(w:ai)(pre:ah aB)(W:ai):ak:=
 W.heap[w.heap.size]?=some (ae #[false] 4 (0,0))/\W.heap[w.heap.size+1]?=some (ae (k3 (tR pre)) 43 (0,0))/\Keeps aI w W/\w.heap.size+2<=W.heap.size
theorem vt.keep{pre:ah aB}{T:J->ak}{W W':ai}(h:vt w pre W)(hk:Keeps T W W')(C:∀ k,T k->w.heap.size+2<=k):vt w pre W':=
 ⟨hk.heap h.1 (λe=>rJ),hk.heap h.2.1 (λe=>rJ),cL h.2.2.1 hk (λk hk e=>rJ),b7 h.2.2.2 hk.size⟩
def VR(w:ai):(Instr.alloc 43 true (aV #[])).run prog w=.ok w.heap.size (w.alloc (ae z4 43)):=aH
def Qu{fr:aa}{xs:ah aB}{A:b5 Addr}{cap:J}(h:eL fr xs)(b:J)(al:w.cell? (ad b 0 ab)=some (aq A xs.length cap))(R:dR w 9 A xs.length cap (bX xs)):aA 337 #[.func (.func 358) #[] #[b]] w λe w'=>e=.returned (.bool true)/\Keeps aI w w':=by
 have H:=af h;have h2:=af (λau y M=>R.lt U au (x:=y) M);refine(gK (n:=0)).1 ?_;refine callsIn_of_wp_marks func337 rfl trivial ?_ rfl;simp only[ntmps337,gW,ds,e_,Nat.reduceAdd,Nat.reduceSub,sJ,sK,sT,sM,nD,kF];gi_wp2_with (fail);have X:Keeps aI w ((w.alloc (ae #[false] 4)).alloc (ae #[I (-1),I 0,I 0,I 0] 43)):=((Keeps.refl _ w).alloc _).alloc _;have zp:((w.alloc (ae #[false] 4)).alloc (ae #[I (-1),I 0,I 0,I 0] 43)).heap[w.heap.size]?=some (ae #[false] 4 (0,0)):=cm (aX w _) _;have zd:((w.alloc (ae #[false] 4)).alloc (ae #[I (-1),I 0,I 0,I 0] 43)).heap[w.heap.size+1]?=some (ae #[I (-1),I 0,I 0,I 0] 43 (0,0)):=by
  have:=aX (w.alloc (ae #[false] 4)) (ae #[I (-1),I 0,I 0,I 0] 43)
  rwa [fK]at this
 have V:((w.alloc (ae #[false] 4)).alloc (ae #[I (-1),I 0,I 0,I 0] 43)).heap.size=w.heap.size+2:=aK;generalize (w.alloc (ae #[false] 4)).alloc (ae #[I (-1),I 0,I 0,I 0] 43)=bk at *
 refine C' (gf:=358) (lb:=#[b]) rfl (enters_of func358 aH rfl) (encs:=λe:aB=>#[.agg (k3 e.k)]) (λ_=>rfl) (λ_ pre x _=>∃ rest,xs=pre++x :: rest) (λys _=>ys=xs) (λk=>k=w.heap.size+1\/w.heap.size+3<k) (λ_=>False)
  (Zk (((λ(W:ai) (hk:Keeps aI w W)=>Qt (w:=W) b (hk.cell al id) (R.keeps hk (λ_ _ _=>id)) (by have:=h.2.1;omega))) bk X _ (λau y M e=>by have:=h2.o au y M;omega)))
  (λ_ _ _ h _ _=>h) (by rw[V];omega) aK (λpre W=>vt w pre W) (λpre Y Z C q hk=>C.keep hk (λk hk=>by rw[V]at hk;simp at hk;omega))
  ⟨zp,zd,X,U⟩
  (λpre x a' W=>∃ Y,a'={tmps:=#[.func (.func 358) #[] #[.pointer (some (ad b 0 ab))],undef,.pointer (some (ad w 0 ab)),.pointer (some (ad (w+1) 0 ab)),.pointer (some (ad Y 0 ab)),aQ #[I (-1),I 0,I 0,I 0],.func (.func 358) #[] #[.pointer (some (ad b 0 ab))],.agg (k3 x.k),undef,undef,undef,undef,undef,undef,undef,undef,undef,undef],defers:=[]}/\w.heap.size+4<=Y/\W.heap[Y]?=some (ae (k3 x.k) 43 (0,0))/\(∃ rest,xs=pre++x :: rest)/\vt w pre W)
  ?ass ?assign ?body ?done
 case ass=>
  exact N0
 case assign=>
  intro l' pre x ZK a K TS vl ZP Tq V' q v';have c:=vl.keep Tq (λk hk=>hk.elim);have T:=aX a (ae z4 43);obtain⟨ZI,_,L⟩:=dP (a.alloc (ae z4 43)) 43 4 a.heap.size (k3 x.k) _ sizeOf43 rfl rfl T rfl;have Aw:=fl (a.alloc (ae z4 43)) a.heap.size _ (k3 x.k) 43 T;have s:=cL ((ba a).alloc (ae z4 43)) L a7;generalize (a.alloc (ae z4 43)).setRow a.heap.size (k3 x.k)=ZL at *;refine DC ?_;simp only[zQ,zO,zP,zH,oC,rz,c7];refine zi (VR a) rfl rfl ?_;refine zj (p:=.pointer (some (ad a 0 ab))) (u:=.agg (k3 x.k)) ZI rfl rfl rfl rfl ?_;refine DD ?_;exact v' _ _ ⟨a,rfl,U,Aw,V',c.keep s (λk hk=>hk.elim)⟩ (s.mono λ_ _ x=>x.elim)
 case body=>
  rintro l' pre x a' a TS ⟨Y,rfl,C,g,⟨rest,f⟩,c⟩ q;have ZO:=SF H.out f;have ZH:hC x.k=true:=by
   have:=(H.out.2.2 x vf).1
   unfold fz at this;simp only[d']at this;exact this.1.1.1.1.1
  have Q:=af (GD x.k);rw[ZH]at Q;have r':=af (AV (tR pre) x.k);have g':=af c;have mv:=af g;have B:a.cell? (ad Y 0 ab)=some (I x.k.fr):=bb g rfl;have D:a.cell? (ad Y 1 ab)=some (I x.k.em):=bb g rfl;have E:a.cell? (ad Y 2 ab)=some (I x.k.bL):=bb g rfl;have F:a.cell? (ad Y 3 ab)=some (I x.k.cq):=bb g rfl;gi_wp2_with (fail);refine⟨trivial,rfl,gK.2 ((Q.o _).mono ?_)⟩;rintro e t ⟨rfl,Q'⟩;have d:=Keeps.bD (S:=aI) Q' a7;have P:=g'.out.keep d (λk hk=>hk.elim);have CW:=d.heap mv.out id;rw[<-H' pre x]at CW;have T':=H' pre x;have bt:=aS P.2.1;have B:t.cell? (ad Y 0 ab)=some (I x.k.fr):=d.cell B id;have D:t.cell? (ad Y 1 ab)=some (I x.k.em):=d.cell D id;have E:t.cell? (ad Y 2 ab)=some (I x.k.bL):=d.cell E id;have F:t.cell? (ad Y 3 ab)=some (I x.k.cq):=d.cell F id;have hd:=af P;have m':=af T';gi_wp2_with (fail);refine⟨trivial,rfl,gK.2 ((r'.out _).mono ?_)⟩;rintro e i ⟨rfl,St⟩;have m:=Keeps.bD (S:=aI) St a7;have G:=hd.out.keep m (λk hk=>hk.elim);have bt:=aS G.2.1;have g0:=bI G.2.1;have B:i.cell? (ad Y 0 ab)=some (I x.k.fr):=m.cell B id;have D:i.cell? (ad Y 1 ab)=some (I x.k.em):=m.cell D id;have E:i.cell? (ad Y 2 ab)=some (I x.k.bL):=m.cell E id;have F:i.cell? (ad Y 3 ab)=some (I x.k.cq):=m.cell F id;have r:=af G;have ZJ:=d.trans m;gi_wp2_with (fail);have av:=xF r.o.2.1 (I x.k.fr) (I x.k.em) (I x.k.bL) (I x.k.cq);have z:Keeps (λj=>j=w+1) i _:=((((Keeps.refl (λj=>j=w+1) i).setCell (p:=ad (w+1) 0 ab) rfl (I x.k.fr)).setCell (p:=ad (w+1) 1 ab) rfl (I x.k.em)).setCell (p:=ad (w+1) 2 ab) rfl (I x.k.bL)).setCell (p:=ad (w+1) 3 ab) rfl (I x.k.cq);refine⟨((ZJ.mono λ_ _ x=>x.elim).trans z).mono (λk _ e=>.inl e),z.heap r.o.1 U,?_,cL r.o.2.2.1 z a7,b7 r.o.2.2.2 z.size⟩;rw[m'.out];exact av
 rintro ys W ⟨N,i2,i3,i4⟩ _ ZQ sd;have ZM:=jv N;have ZN:=nx N;gi_wp2;have s':=(Keeps.setCell (S:=λj=>j=w.heap.size) (Keeps.refl _ W) (p:=ad w 0 ab) rfl (.bool true)).heap sd U;have W':=bV N 0 (.bool true);have L:=cL i3 (Keeps.setCell (S:=λj=>j=w.heap.size) (Keeps.refl _ W) (p:=ad w 0 ab) rfl (.bool true)) a7;generalize W.setCell (ad w 0 ab) (.bool true)=O at *;refine⟨aK,.inl ⟨_,_,rfl,run_takeDeferred s',?_⟩⟩;have ZG:=((Keeps.refl (λj=>j=bk) O).putObj (l:=bk.heap.size) rfl (.deferred none)).heap W' U;have s:=cL L ((Keeps.refl (λj=>j=bk) O).putObj (l:=bk.heap.size) rfl (.deferred none)) a7;have ps:=jv (v:=.bool true) (by simpa using ZG);refine⟨.bool true,by simp[results,results337,asAddr,loadVar,isAgg4,go_sem,ps],rfl,s⟩
def Qj{base:J}{fr:aa}{xs:ah aB}{v:ax}(h:eL fr xs)(aW:w.ownsRow base 45 9 v xs.length (bX xs)):aA 315 #[v] w λe w'=>e=.returned (.bool true)/\Keeps aI w w':=by
 obtain⟨A,cap,rfl,g,_⟩:=cS aW;have ar:=h.2.1;have aT:=af (AW aW U (λe=>!fz e) 336 #[] (enters_of func336 aH rfl) (UM w));have i:xs.any (λe=>!fz e)=false:=by
  rw[zC];intro e l;simp[(h.2.2 e l).1]
 rw[i]at aT;have d:=af g
 go_in
 go_wp2_with fail;refine aU aT.o λao j=>?_;have b:=Keeps.bD (S:=aI) j a7;go_wp2_with fail;refine aU (Qs _ _ _ _) λaC a=>?_;have c:Keeps aI ao aC:=by rw[<-a];exact(Keeps.refl _ ao).alloc _
 have f:=af (Qu (w:=aC) h ao.heap.size (by rw[<-a];exact bb (k:=0) (aX ao _) rfl) (d.o.keeps (b.trans c) (λ_ _ _=>id)));go_wp2_with fail;refine aU f.o λbm hk=>?_;go_wp2;go_ret;exact⟨rfl,(b.trans c).trans hk⟩
end
def r4:lu prog 3 Int where
 enc x:=.int .i64 x
 lit x:=.int .i64 x
 ok x:=(Lit.int .i64 x).wf=true
 law x h:=keyOf_int_mk underlying3 h
 inj a b _ _ h:=by simpa using h
def SE(d:J)(k:de)(h1:(Lit.int .i64 k.fr).wf=true)(h2:(Lit.int .i64 k.em).wf=true)(a:(Lit.int .i64 k.bL).wf=true)(b:(Lit.int .i64 k.cq).wf=true):prog.keyLits (d+2) 43 [.int .i64 k.fr,.int .i64 k.em,.int .i64 k.bL,.int .i64 k.cq]=some [.int .i64 k.fr,.int .i64 k.em,.int .i64 k.bL,.int .i64 k.cq]:=by
 have bY:prog.cellsOf 3=1:=aH;have dM:prog.cellsOf 43=4:=aH;have aw:∀ n,(Lit.int .i64 n).wf=true->prog.keyLits (d+1) 3 [.int .i64 n]=some [.int .i64 n]:=λn ar=>by
  unfold Program.keyLits;simp only[underlying3,ar,and_self,if_true]
 unfold Program.keyLits;simp only[underlying43,dM];rw[aD ⟨rfl,aH⟩];simp[mapM_cons,bY,aw _ h1,aw _ h2,aw _ a,aw _ b]
def SB(k:de)(h1:(Lit.int .i64 k.fr).wf=true)(h2:(Lit.int .i64 k.em).wf=true)(b:(Lit.int .i64 k.bL).wf=true)(c:(Lit.int .i64 k.cq).wf=true):keyOf prog 43 (.agg (k3 k))=some (.string (keyBytes [.int .i64 k.fr,.int .i64 k.em,.int .i64 k.bL,.int .i64 k.cq])):=by
 have av:=rG (show decide (0<prog.types.size)=true by kernel_rfl);have d:(prog.keyType 43&&(Value.agg (k3 k)).formed prog 43)=true:=aH;have a:=SE (prog.types.size-1) k h1 h2 b c;rw[show prog.types.size-1+2=prog.types.size+1 by omega]at a;have al:(Value.agg (k3 k)).cells.toList=[.int .i64 k.fr,.int .i64 k.em,.int .i64 k.bL,.int .i64 k.cq]:=rfl;unfold keyOf;simp only[underlying43];rw[d,al,a];rfl
def wf_i64{n:aa}(h:-9223372036854775808<=n/\n<=9223372036854775807):(Lit.int .i64 n).wf=true:=by
 show(decide (-9223372036854775808<=n)&&decide (n<=9223372036854775807))=true;simp[h]
def yT{k:de}(h:hC k=true):(Lit.int .i64 k.fr).wf=true/\(Lit.int .i64 k.em).wf=true/\(Lit.int .i64 k.bL).wf=true/\(Lit.int .i64 k.cq).wf=true:=by
 unfold hC fU at h;simp only[d',fZ]at h;exact⟨wf_i64 U,wf_i64 U,wf_i64 U,wf_i64 U⟩
def mj:lu prog 43 de where
 enc k:=.agg (k3 k)
 lit k:=.string (keyBytes [.int .i64 k.fr,.int .i64 k.em,.int .i64 k.bL,.int .i64 k.cq])
 ok k:=hC k=true
 law k h:=SB k (yT h).1 (yT h).2.1 (yT h).2.2.1 (yT h).2.2.2
 inj a b _ _ h:=by
  simp only[k3,Value.agg.injEq,Array.mk.injEq,zD,Value.int.injEq,true_and,and_true]at h;obtain⟨h1,h2,c,d⟩:=h;cases a;cases b;simp only at h1 h2 c d;subst h1 h2 c d;rfl
section
open Go.RowKit Go.Maps
attribute [local go_sem] Oper.semAt_some
variable{w w':ai}
def il(L:ah aB):ah (de×ax):=L.map λe=>(e.k,.agg e.br.toArray)
def pY(D:DataW Value)(pre:ah aB)(z:Lit):aY:=Maps.has D z&&!pre.any λq=>z.sameKey (mj.lit q.k)
def SP(D:DataW Value)(pre:ah aB)(e:aB):(λz=>pY D pre z&&!z.sameKey (mj.lit e.k))=pY D (pre++[e]):=by
 funext z
 unfold pY;rw[any_append,any_cons,any_nil,wP];cases Maps.has D z<;>cases pre.any (λq=>z.sameKey (mj.lit q.k))<;>cases z.sameKey (mj.lit e.k)<;>rfl
def Vd{H:Type}{P:Program}{k:TypeId}{R:ax->b5 (DataW H×ah MemPlace)}{b r n:J}{D:DataW H}{left:Lit->aY}{fb:J}{T:J->ak}(h:w.ranges P k R b r n D left fb)(hk:Keeps T w w')(aj:¬ T b)(g:¬ T r):w'.ranges P k R b r n D left fb:=by
 have⟨es,a,i,seen,bt,h1,h2,c,d,e,f⟩:=h;exact⟨es,a,i,seen,bt,hk.heap h1 aj,h2,c,d,hk.heap e g,f⟩
def SO(D:DataW Value):pY D []=Maps.has D:=by
 funext z
 simp[pY]
def atKey_mem{es:ah (Lit×DataW Value)}{b:Lit}{u:ax}(h:(DataW.map es).atKey b .nil=.held u):∃ p∈es,p.1=b/\p.2=.held u:=by
 unfold DataW.atKey at h;simp only at h;cases a:es.find? (λp=>p.1.sameKey b)with
 | none=>rw[a]at h;cases h
 | some p=>rw[a]at h;exact⟨p,zJ a,Du (find?_some (p:=λp:Lit×DataW Value=>p.1.sameKey b) a),h⟩
def AQ{L:ah aB}(h:(il L).Pairwise λp q=>p.1≠q.1):L.Pairwise λa b=>a.k≠b.k:=by
 unfold il at h
 rwa [sS]at h
def nodup_keys{L:ah aB}(h:L.Pairwise λa b=>a.k≠b.k):L.Nodup:=h.imp λc e=>c (by rw[e])
def H9{L:ah aB}(h:L.Pairwise λa b=>a.k≠b.k){a b:aB}(bd:a∈L)(aj:b∈L)(e:a.k=b.k):a=b:=by
 induction L with
 | nil=>cases bd
 | cons x l f=>
  obtain⟨h1,h2⟩:=jg.1 h;rcases e6.1 bd with dS|d
  .rcases e6.1 aj with kn|c
   .rw[dS,kn]
   exact absurd (by rw[<-dS];exact e) (h1 b c)
  rcases e6.1 aj with kn|c
  .exact absurd (by rw[<-kn];exact e.symm) (h1 a d)
  exact f h2 d c
def TE{L:ah aB}{b c:J}(G:RMap w mj b (il L))(al:w.cell? (ad c 0 ab)=some (.map (some b)))(t:J->ak)(H:¬ t b/\¬ t (w.heap.size+2)):tl prog 73 #[c] (λe:aB=>#[.agg e.br.toArray]) (λ_ pre x _=>x∈L/\pre.length<L.length) (λys _=>ys.Perm L) t (λk=>k=w.heap.size+2) w:=by
 intro l X W sd hk Tq y g' Y;subst sd;have ZI:=hk.cell al id;have z:=G.keeps hk id;have ZG:=G.lt;have⟨es,vl,v'⟩:=z.own;have r:=af z.ok;have D:=af z.pN;have s:=af v';refine gK.2 ?_
 go_in
 go_wp2_with (refine wpList_range_own _ rfl _ _ rfl _ _ qX underlying115 oc b _ _ rfl vl ?_;intro ao A mv Aw);have TS:size (.map es)=L.length:=by rw[Maps.size_eq,s.o.length_eq];simp[il]
 rw[<-SO,TS]at A;have Z:=y _ _ _ Y ((Keeps.refl (λk=>k=w+2) W).grown mv (λk hk=>by cases hk));rw[Tq]at A Aw;have C:=b6 A Z;go_loopg [] L.length (λg wr=>∃ (pre:ah aB) (fb:J),g=fb/\wr.ranges prog 43 oc b (w.heap.size+2) (il L).length (.map es) (pY (.map es) pre) fb/\pre.length+fb<=L.length/\(∀ e∈pre,e∈L)/\(pre.Pairwise λp q=>p.k≠q.k)/\X pre wr/\w.heap.size+3<=wr.heap.size)
 case atStart=>exact⟨[],_,rfl,C.o.1,aK,aK,Pairwise.nil,C.o.2,U⟩
 obtain⟨pre,fb,aZ,R,ZJ,St,h2,fr,ZL⟩:=hrel;have f:=b6 St (bB h2 fr);go_wp2_with (at_next;refine wpList_next_ranges _ rfl _ rfl _ qX oc id id (λkey _ _=>⟨key,rfl⟩) (λv _ _=>⟨v,rfl⟩) b (w.heap.size+2) _ _ _ fb rfl R ?_ ?_)
 .intro ZH s';have w':pre.Perm L:=by
   refine(perm_ext_iff_of_nodup (nodup_keys f.o.2.1) (nodup_keys (AQ D.o))).2 λe=>⟨f.o.1 e,λi=>?_⟩;have O:=r.o _ (e3.2 ⟨e,i,rfl⟩:(e.k,Value.agg e.br.toArray)∈il L);have r':=qX.key (mj.law e.k O);have m':Maps.has (.map es) (mj.lit e.k)=true:=wV.2 ⟨_,(s.o.mem_iff.2 (e3.2 ⟨(e.k,.agg e.br.toArray),e3.2 ⟨e,i,rfl⟩,rfl⟩)),zw r'⟩;have h1:=s' (mj.lit e.k);unfold pY at h1;rw[m',sL,Bool.not_eq_false',wV]at h1;obtain⟨q,a,av⟩:=h1;have Q:=f.o.1 q a;have l':=lu.yw qX O (r.o _ (e3.2 ⟨q,Q,rfl⟩:(q.k,Value.agg q.br.toArray)∈il L)) (Du av);rw[H9 (AQ D.o) i Q l'];exact a
  go_wp2_with fail;go_end0;exact⟨⟨_,rfl⟩,pre,f.o.2.2,w'⟩
 intro x bo ZN ZP ZQ aC u ps m aW K S ZK N CW lb;simp only[oc,hr,jA]at aW;obtain⟨rfl,rfl⟩:=aW;obtain⟨p,au,rfl,P⟩:=atKey_mem (K .nil);obtain⟨q,a,rfl⟩:=e3.1 (s.o.mem_iff.1 au);obtain⟨e,i,rfl⟩:=e3.1 a;simp only[zt]at P;subst P;have M:∀ q∈pre,q.k≠e.k:=λq zd zp=>by
  unfold pY at m;simp only[d',ll,zC]at m;refine m.2 q zd ?_;rw[zp];exact zw (qX.key (mj.law e.k (r.o _ a)))
 have T:aC.ranges prog 43 oc b (w.heap.size+2) (il L).length (.map es) (pY (.map es) (pre++[e])) u:=by
  rw[<-SP];exact S
 have ZM:w.heap.size+3<=aC.heap.size:=U;simp only[aB.br]at lb⊢;have E:=y _ _ _ (y _ _ _ f.o.2.2 ((Keeps.refl (λk=>k=w+2) wr).grown N (λk hk=>.inl (by cases hk;rfl)))) ((Keeps.refl (λk=>k=w+2) aC).alloc (ae e 45));have j:=b6 i (bB M (bB E (T.alloc (ae e 45))));clear CW N ps m S K au a i M E T R;go_upto_region 3 with fail
 have ZO:=aS (aX aC (ae e 45));have Q':w.heap.size+3<=(aC.alloc (ae e 45)).heap.size:=bT;generalize aC.alloc (ae e 45)=V at *;refine(oz (n:=0)).1 ?_;obtain⟨fn,tmps,assign,body,T',gf⟩:=g' pre e V V j.o.2.2.1 (Keeps.refl _ _) ⟨j.o.1,U⟩;simp only[aB.br]at T';gi_wp2;refine⟨rfl,gf.mono ?_⟩;rintro W' V' ⟨rfl,a',F⟩;have B:=b6 a' (Vd j.out.2.2.2 F (λh=>h.elim H.1 a7) (λh=>h.elim H.2 a7));gi_wp2;go_wp2;go_roundg u
 case measure=>omega
 refine⟨pre++[e],u,rfl,B.o.2,by rw[cx,iT];omega,λq a=>?_,?_,B.o.1,(b7 Q' F.size)⟩
 .rcases e5.1 a with a|a
  .exact f.out.1 q a
  simp at a;subst a;exact j.out.1
 refine pq.2 ⟨f.out.2.1,DQ _ _,λq a d hd=>?_⟩;simp at hd;subst hd;exact j.out.2.1 q a
end
section
open Go.RowKit Go.Maps
attribute [local go_sem] Oper.semAt_some
variable{w w':ai}
def dT(e:aB):a6 ax:=e
def vC(e:aB):(dT e).toList.all (λv=>v.oneCell')=true:=rfl
def q7(w:ai):(Instr.alloc 45 true (aV #[])).run prog w=.ok w.heap.size (w.alloc (ae z9 45)):=aH
structure vi(w:ai)(pre:ah aB)(W:ai):ak where
 row:∃ v,W.heap[w.heap.size]?=some (ae #[v] 66 (0,0))/\W.ownsRow (w.heap.size+4) 45 9 v pre.length (bX pre)
 cv:Keeps aI w W
 cE:w.heap.size+1<=W.heap.size
def vi.keep{pre:ah aB}{T:J->ak}{W W':ai}(h:vi w pre W)(hk:Keeps T W W')(C:∀ k,T k->w.heap.size<k/\k<w.heap.size+4):vi w pre W':=by
 have⟨v,h1,h2⟩:=h.row;exact⟨⟨v,hk.heap h1 (λe=>rJ),b4 h2 hk (λb aj e=>by have:=(h2.lt b aj).1;have:=C _ e;omega)⟩,cL h.cv hk (λk hk e=>rJ),b7 h.cE hk.size⟩
def P9{L:ah aB}(gf:J)(lb:a6 ax)(ps:∀ args w,(callFunc gf args).run prog w=.ok (.enter gf args) w)(ZJ:L.length<=1000)(sd:tl prog gf lb (λe:aB=>#[.agg (dT e)]) (λ_ pre x _=>x∈L/\pre.length<L.length) (λys _=>ys.Perm L) (λk=>k=w.heap.size\/w.heap.size+3<k) (λk=>k=w.heap.size+3) (w.alloc (ae #[aq none 0 0] 66))):aA 120 #[aq none 0 0,.func (.func gf) #[] lb] w λe w'=>∃ v ys,e=.returned v/\ys.Perm L/\w'.ownsRow (w.heap.size+4) 45 9 v ys.length (bX ys)/\Keeps aI w w':=by
 obtain⟨i0,r',Tq,TS,T'⟩:=ym;refine(gK (n:=0)).1 ?_;refine callsIn_of_wp_marks func120 rfl trivial ?_ rfl;simp only[ntmps120,gW,ds,e_,Nat.reduceAdd,Nat.reduceSub,sJ,sK,sT,sM,nD,kF];gi_wp2_with (fail);have V':Keeps aI w (w.alloc (ae #[aq none 0 0] 66)):=(Keeps.refl _ w).alloc _;have X:=aX w (ae #[aq none 0 0] 66);have r:(w.alloc (ae #[aq none 0 0] 66)).heap.size=w.heap.size+1:=aK;generalize w.alloc (ae #[aq none 0 0] 66)=bk at *
 refine C' (gf:=gf) (lb:=lb) rfl ps (encs:=λe:aB=>#[.agg (dT e)]) (λ_=>rfl) _ _ (λk=>k=w.heap.size\/w.heap.size+3<k) (λk=>k=w.heap.size+3) sd
  (λys A B h _ _=>h) xi xi (λpre W=>vi w pre W) (λpre A B h q hk=>h.keep hk (λk hk=>by rw[r]at hk;omega))
  ⟨⟨_,X,gI _ _ _ _⟩,V',U⟩
  (λpre x a' W=>∃ Y,a'={tmps:=#[aq none 0 0,.func (.func gf) #[] lb,.pointer (some (ad w 0 ab)),undef,aq none 0 0,.pointer (some (ad Y 0 ab)),.func (.func gf) #[] lb,.agg (dT x),undef,undef,undef,undef,undef],defers:=[]}/\w.heap.size+3<=Y/\W.heap[Y]?=some (ae (dT x) 45 (0,0))/\pre.length<L.length/\vi w pre W)
  ?ass ?assign ?body ?done
 case ass=>
  exact N0
 case assign=>
  intro l' pre x W' a K zp hd ZL s' Aw q mv;have c:=hd.keep s' a7;have F:=aX a (ae z9 45);obtain⟨St,_,zd⟩:=dP (a.alloc (ae z9 45)) 45 9 a.heap.size (dT x) _ sizeOf45 rfl rfl F (vC x);have m':=fl (a.alloc (ae z9 45)) a.heap.size _ (dT x) 45 F;have H:=cL ((ba a).alloc (ae z9 45)) zd a7;generalize (a.alloc (ae z9 45)).setRow a.heap.size (dT x)=ZG at *;refine DC ?_;simp only[zQ,zO,zP,zH,oC,rz,c7];refine zi (q7 a) rfl rfl ?_;refine zj (p:=.pointer (some (ad a 0 ab))) (u:=.agg (dT x)) St rfl rfl rfl rfl ?_;refine DD ?_;exact mv _ _ ⟨a,rfl,U,m',Aw.2,c.keep H (λk hk=>hk.elim)⟩ (H.mono λ_ _ x=>x.elim)
 case body=>
  rintro l' pre x a' A zp ⟨Y,rfl,C,g,ZK,c⟩ q;obtain⟨v,i,d⟩:=c.row;have M:=gz (P:=prog) 45 9 Y 0 (dT x) _ _ isAgg45 sizeOf45 rfl g (λj u z=>jZ);have CW:=fg.1 (vC x);have Q':bX (pre++[x])=bX pre++(dT x).toList:=by simp[bX,aB.br,dT]
  have V:=jv i;have O:=af i;have T:=af c;have G:=FX A (dT x) 45;have N:=d.alloc (ae (dT x) 45);unfold dT at M G N;gi_wp2_with (first|(refine Da M rfl rfl rfl ?_)|(gi_at_builtin;refine wpListIn_append_own _ rfl _ _ 66 rfl (w.heap.size+4) 45 i0 (aQ z9) 9 72 underlying66 r' Tq TS T' rfl bq _ _ _ rfl N (ad A 0 ab) 1 1 (dT x).toList rfl rfl G CW pB U bT ?_;intro v' ao s m _;have vl:Keeps (λk=>k=w.heap.size\/w.heap.size+3<k) A ao:=((Keeps.refl _ A).alloc _).grown m (λk hk=>.inl (.inr uY));obtain⟨g',D,rfl⟩:=ownsRow_succ s;have h2:=(m.block w.heap.size bT (λe=>xe)).trans (cm O.o _);have ZH:=jv h2;have ZI:=nx h2;have Q:=af h2;clear h2 m));have y:=vl.setCell (p:=ad w 0 ab) (.inl rfl) (aq (some (ad g' 0 ab)) (pre.length+1) D);have E:=T.o;refine⟨y,⟨⟨aq (some (ad g' 0 ab)) (pre.length+1) D,xf,?_⟩,cL E.cv y a7,b7 E.cE y.size⟩⟩;rw[cx,iT,Q'];exact NN
 rintro ys W c fr ZM Z;obtain⟨v,i,d⟩:=c.row;have V:=jv i;have S:=af c;have R:=af fr;obtain⟨A,cap,rfl,_,_⟩:=cS d;gi_wp2;refine⟨aK,.inl ⟨_,_,rfl,run_takeDeferred Z,?_⟩⟩;have au:=(Keeps.refl (λk=>k=bk) W).putObj (l:=bk.heap.size) rfl (.deferred none);refine⟨_,zz rfl _ _ _,⟨_,ys,rfl,R.o,b4 d au (λb aj h=>by have:=(d.lt b aj).1;omega),cL S.o.cv au a7⟩⟩
end
end Go.Proofs.YtalagblioepadaaGreatDoor
