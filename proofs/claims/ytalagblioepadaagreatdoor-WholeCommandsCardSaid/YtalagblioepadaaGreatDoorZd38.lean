/- The proof, part 38. -/
import Derived.Test.YtalagblioepadaaGreatDoorZd37
import Derived.Shelf.SlicesQ.IndexFunc
namespace Go.Proofs.YtalagblioepadaaGreatDoor
set_option linter.all false
open Proofs.Tryz List Go.RowKit Go.Shelf Go.Maps
set_option maxRecDepth 100000
set_option maxHeartbeats 1000000
def OM{p:al}(h:p:=by
 rintro pre x a' a t ⟨Y,rfl,C,g,f,c⟩ q hk;exact⟨Y,rfl,C,hk.heap g U,f,c.keep hk a8⟩
 ):p:=h
def MQ{p:al}(h:p:=by
 unfold fm at this;simp only[ep]at this;exact this.1.1.1.1.1
 ):p:=h
variable{w w':aj}
instance:Inhabited aC:=⟨⟨⟨0,0,0,0⟩,0,0,0,0,0⟩⟩
def Bq:Go.Shelf.Ren:=⟨fun|6=>339|8=>316|n=>n,fun|0=>0|3=>3|4=>4|22=>66|23=>45|25=>162|n=>n,fun|n=>n⟩
def Hk:SlLaysH0.n8 prog Bq:={
 mixed:=aI
 f6:=⟨f339.name,bt,func339.trans (c5 some aI)⟩
 f8:=⟨f316.name,bt,func316.trans (c5 some aI)⟩
 t0:=underlying0
 a0:=isAgg0
 z0:=sizeOf0
 v0:=zeroValue0
 t3:=underlying3
 a3:=isAgg3
 z3:=sizeOf3
 v3:=zeroValue3
 t4:=underlying4
 a4:=isAgg4
 z4:=sizeOf4
 v4:=zeroValue4
 t22:=underlying66
 a22:=isAgg66
 z22:=sizeOf66
 v22:=zeroValue66
 t25:=underlying162
 a25:=isAgg162
 z25:=sizeOf162
 v25:=zeroValue162}
abbrev AO(g:J)(lb:a7 ay)(p:aC->a1)(w:aj):al:=PredBelow prog g lb (λx:aC=>.agg x.bu.toArray) p w
def Bp{base:J}{v:ay}{xs:ah aC}(h:w.ownsRow base 45 9 v xs.length (b4 xs))(av:xs.length<=1000)(p:aC->a1)(g:J)(lb:a7 ay)(d:∀ args w,(callFunc g args).run prog w=.ok (.enter g args) w)(au:AO g lb p w):aA 316 #[v,.func (.func g) #[] lb] w λe w'=>e=.returned (.bool (xs.any p))/\Below w w w':=by
 rcases h.2 with⟨rfl,f⟩|⟨b,cap,q,rfl,aZ,aS,an,hm,aw,aK⟩
 .obtain rfl:=jP.1 f;refine bE (QS _ w) ?_;exact⟨rfl,b7 _ _⟩
 obtain⟨A,n,l,aU,_⟩:=cS h;cases l;refine(AnyQ.slices_ContainsFunc (P:=prog) (ρ:=Bq) Hk 9 isAgg45 sizeOf45 aC.bu (λ_=>rfl) p g lb d b 0 xs.length cap xs w au bx U (bT aS) (λj a i u c=>?_)).mono ?_
 .have ax:i<9:=by
   have:=(hD.1 c).1
   exact this
  have⟨m,o,e,k⟩:=aU.at' U;cases e;rw[show 0+j*9+i=0+(j*9+i)by omega];refine k (j*9+i) u ?_;rw[tM xs j a i ax]
  rwa [jz xs j a]at c
 rintro e w' ⟨rfl,h2⟩;rw[nU];exact⟨rfl,h2⟩
def Q8(e:aC)(w:aj):aA 336 #[aL e] w λr w'=>r=.returned (.bool (!fm e))/\Below w w w':=by
 have a:=ag (vS e);have b':=(b7 w.heap.size w).alloc bx (af e 45);generalize fm e=r at *
 go_in
 go_wp2_with fail;refine aW (a.o _) λao h1=>?_;go_wp2;go_ret;exact⟨rfl,(b'.trans (h1.mono b'.size))⟩
def Vq(w:aj):AO 336 #[] (λe=>!fm e) w:=λW e ak=>(Q8 e W).mono λ_ _ h=>⟨h.1,ak.trans (h.2.mono ak.size)⟩
section
attribute [local go_sem] Oper.semAt_some
variable{w w':aj}
def h7(k:cU):a7 ay:=k
def Ra(A:b_ Addr)(n c:J)(w:aj):aA 338 #[aq A n c] w λe w'=>e=.returned (.func (.func 358) #[] #[w.heap.size])/\w.alloc (af #[aq A n c] 66)=w':=by
 go_in
 go_wp2;go_ret;exact⟨rfl,rfl⟩
def Rb{xs:ah aC}{A:b_ Addr}{cap:J}(b:J)(an:w.cell? (ae b 0 ad)=some (aq A xs.length cap))(D:eb w 9 A xs.length cap (b4 xs))(av:xs.length<=1000)(s:J->al)(V:0<xs.length->∀ y,A=some y->¬ s y.block):p0 prog 358 #[b] (λe:aC=>#[.agg (h7 e.k)]) xs s (λ_=>False) w:=by
 intro l S W ab hk v' T X t;subst ab;have Y:=hk.cell an id;have E:=D.keeps hk (λ_ _ _=>id);have G:=λau x c=>D.lt U au (x:=x) c;clear hk an;refine gU.2 ?_
 go_in
 go_wp2_with fail;clear Y;go_loopg [7] xs.length (λg z wr=>∃ pre rest:ah aC,xs=pre++rest/\g=rest.length/\z=I pre.length/\eb wr 9 A xs.length cap (b4 xs)/\S pre wr/\w.heap.size+2<=wr.heap.size)
 case atStart=>exact⟨[],xs,rfl,rfl,rfl,E,t,U⟩
 obtain⟨pre,rest,c,aZ,rfl,aU,f,vl⟩:=hrel;clear E t;cases rest with
 | nil=>
  have s':¬ (pre.length:aa)<(xs.length:aa):=by rw[c];simp
  have O:xs=pre:=by rw[c,eB]
  have P:=ag f;have d:=ag O;clear c O f aU;go_wp2_with fail;go_end0;exact⟨⟨_,rfl⟩,by rw[d.o];exact P.o⟩
 | cons e rest=>
  have a':pre.length<xs.length:=by rw[c];simp
  have L:xs[pre.length]=e:=by simp[c]
  obtain⟨m,o,rfl,K⟩:=aU.at' U;have a:∀ j u,j<9->e.bu[j]?=some u->wr.cell? (ae m (o+pre.length*9+j) ad)=some u:=λj u Z hu=>by
   rw[hZ];exact K _ u (by rw[tM xs pre.length a' j Z,L];exact hu)
  have z0:wr.cell? (ae m (o+pre.length*9) ad)=some (I e.k.fr):=a 0 _ U rfl;have lb:=a 1 (I e.k.em) U rfl;have z2:=a 2 (I e.k.bp) U rfl;have z3:=a 3 (I e.k.cg) U rfl;have z4:=a 4 (I e.cy) U rfl;have z5:=a 5 (I e.dd) U rfl;have l':=a 6 (I e.dP) U rfl;have m':=a 7 (I e.dw) U rfl;have ps:=a 8 (I e.le) U rfl;have B:=T _ _ _ f ((bb wr).alloc (af e 45));have M:=aU.keeps ((bb wr).alloc (af e 45)) (λ_ _ _=>id);have H:=G U _ rfl;have d:=ag c;have q:=ag B;have r:=ag M;have Q:=ag H;clear K a L c B M aU f G H;go_upto_region 3 with fail
  clear z0 lb z2 z3 z4 z5 l' m' ps;have F:=aX wr (af e 45);have h2:=aO F;have gf:w.heap.size+2<=(wr.alloc (af e 45)).heap.size:=b1;clear F;generalize wr.alloc (af e 45)=hd at *;refine(oR (n:=0)).1 ?_;obtain⟨fn,tmps,assign,body,h,C⟩:=X pre e rest hd d.o q.o;unfold h7 at h;gi_wp2;refine⟨rfl,C.mono ?_⟩;rintro sd r' ⟨rfl,v,i⟩;have N:=r.out.keeps i (λ_ y h e=>by cases h;exact e.elim (V U _ rfl) (λe=>by have:=Q.out;dsimp only at e this;omega));have g':=ca gf i.size;have R:=ag (show xs=(pre++[e])++rest by rw[d.out];simp);have p:=ag (bD v N);clear h C h2 i v N q r;gi_wp2;go_wp2;go_roundg rest.length
  case measure=>simp at aZ;omega
  exact⟨pre++[e],rest,R.o,rfl,aM,p.o.2,p.o.1,g'⟩
end
section
attribute [local go_sem] Oper.semAt_some
variable{w w':aj}
def Z5{α:Type}{P:Program}{gf:J}{lb:a7 ay}{encs:α->a7 ay}{xs:List α}{b a:J->al}(h:p0 P gf lb encs xs b a w):tB P gf lb encs (λ_ pre x _=>∃ rest,xs=pre++x :: rest) (λys _=>ys=xs) b a w:=λl c W i hk j e f d=>
 (h l c W i hk j e (λpre x rest A k g=>f pre x A A g (Keeps.refl _ _) ⟨rest,k⟩) d).mono λ_ _ ⟨h1,h2⟩=>⟨h1,xs,h2,rfl⟩
def ue(pre:ah aC):cU:=(pre.getLast?.map aC.k).getD ⟨-1,0,0,0⟩
def IP(pre:ah aC)(e:aC):ue (pre++[e])=e.k:=by simp[ue]
def Tm{fr:aa}{xs pre rest:ah aC}{e:aC}(h:eL fr xs)(f:xs=pre++e :: rest):eN (ue pre) e.k<0:=by
 rw[la];have a:=(h.2.2 e vw).1;unfold fm gb f_ at a;simp only[ep,gh]at a;unfold ue;cases b:pre.getLast? with
 | none=>exact .inl (by show(-1:aa)<e.k.fr;omega)
 | some d=>
  have bh:=h.1;rw[f]at bh;exact(pJ.1 bh).2.2 d (mem_of_getLast? b) e aM
def vJ(w:aj)(pre:ah aC)(W:aj):al:=
 W.heap[w.heap.size]?=some (af #[false] 4 (0,0))/\W.heap[w.heap.size+1]?=some (af (h7 (ue pre)) 43 (0,0))/\Keeps aG w W/\w.heap.size+2<=W.heap.size
theorem vJ.keep{pre:ah aC}{T:J->al}{W W':aj}(h:vJ w pre W)(hk:Keeps T W W')(C:∀ k,T k->w.heap.size+2<=k):vJ w pre W':=
 ⟨hk.heap h.1 (λe=>r2),hk.heap h.2.1 (λe=>r2),cN h.2.2.1 hk (λk hk e=>r2),ca h.2.2.2 hk.size⟩
def Ke(w:aj):(Instr.alloc 43 true (aY #[])).run prog w=.ok w.heap.size (w.alloc (af z4 43)):=aI
def Rc{fr:aa}{xs:ah aC}{A:b_ Addr}{cap:J}(h:eL fr xs)(b:J)(an:w.cell? (ae b 0 ad)=some (aq A xs.length cap))(R:eb w 9 A xs.length cap (b4 xs)):aA 337 #[.func (.func 358) #[] #[b]] w λe w'=>e=.returned (.bool true)/\Keeps aG w w':=by
 have H:=ag h;have hd:=ag (λau y M=>R.lt U au (x:=y) M);refine(gU (n:=0)).1 ?_;refine callsIn_of_wp_marks func337 rfl trivial ?_ rfl;simp only[ntmps337,hh,dy,fg,Nat.reduceAdd,Nat.reduceSub,s5,s6,tb,s8,nT,kV];gi_wp2_with (fail);have X:Keeps aG w ((w.alloc (af #[false] 4)).alloc (af #[I (-1),I 0,I 0,I 0] 43)):=((Keeps.refl _ w).alloc _).alloc _;have zp:((w.alloc (af #[false] 4)).alloc (af #[I (-1),I 0,I 0,I 0] 43)).heap[w.heap.size]?=some (af #[false] 4 (0,0)):=cw (aX w _) _;have zd:((w.alloc (af #[false] 4)).alloc (af #[I (-1),I 0,I 0,I 0] 43)).heap[w.heap.size+1]?=some (af #[I (-1),I 0,I 0,I 0] 43 (0,0)):=by
  have:=aX (w.alloc (af #[false] 4)) (af #[I (-1),I 0,I 0,I 0] 43)
  rwa [fH]at this
 have V:((w.alloc (af #[false] 4)).alloc (af #[I (-1),I 0,I 0,I 0] 43)).heap.size=w.heap.size+2:=aM;generalize (w.alloc (af #[false] 4)).alloc (af #[I (-1),I 0,I 0,I 0] 43)=bn at *
 refine DG (gf:=358) (lb:=#[b]) rfl (enters_of func358 aI rfl) (encs:=λe:aC=>#[.agg (h7 e.k)]) (λ_=>rfl) (λ_ pre x _=>∃ rest,xs=pre++x :: rest) (λys _=>ys=xs) (λk=>k=w.heap.size+1\/w.heap.size+3<k) (λ_=>False)
  (Z5 (((λ(W:aj) (hk:Keeps aG w W)=>Rb (w:=W) b (hk.cell an id) (R.keeps hk (λ_ _ _=>id)) (by have:=h.2.1;omega))) bn X _ (λau y M e=>by have:=hd.o au y M;omega)))
  (λ_ _ _ h _ _=>h) (by rw[V];omega) aM (λpre W=>vJ w pre W) (λpre Y Z C q hk=>C.keep hk (λk hk=>by rw[V]at hk;simp at hk;omega))
  ⟨zp,zd,X,U⟩
  (λpre x a' W=>∃ Y,a'={tmps:=#[.func (.func 358) #[] #[.pointer (some (ae b 0 ad))],undef,.pointer (some (ae w 0 ad)),.pointer (some (ae (w+1) 0 ad)),.pointer (some (ae Y 0 ad)),aL #[I (-1),I 0,I 0,I 0],.func (.func 358) #[] #[.pointer (some (ae b 0 ad))],.agg (h7 x.k),undef,undef,undef,undef,undef,undef,undef,undef,undef,undef],defers:=[]}/\w.heap.size+4<=Y/\W.heap[Y]?=some (af (h7 x.k) 43 (0,0))/\(∃ rest,xs=pre++x :: rest)/\vJ w pre W)
  ?ass ?assign ?body ?done
 case ass=>
  exact OM
 case assign=>
  intro l' pre x aau a K TS vl aaz Tq V' q v';have c:=vl.keep Tq (λk hk=>hk.elim);have T:=aX a (af z4 43);obtain⟨aas,_,L⟩:=dQ (a.alloc (af z4 43)) 43 4 a.heap.size (h7 x.k) _ sizeOf43 rfl rfl T rfl;have Aw:=fb (a.alloc (af z4 43)) a.heap.size _ (h7 x.k) 43 T;have s:=cN ((bb a).alloc (af z4 43)) L a8;generalize (a.alloc (af z4 43)).setRow a.heap.size (h7 x.k)=aav at *;refine D7 ?_;simp only[Ai,Ag,Ah,z_,oU,rS,c8];refine zF (Ke a) rfl rfl ?_;refine zG (p:=.pointer (some (ae a 0 ad))) (u:=.agg (h7 x.k)) aas rfl rfl rfl rfl ?_;refine D8 ?_;exact v' _ _ ⟨a,rfl,U,Aw,V',c.keep s (λk hk=>hk.elim)⟩ (s.mono λ_ _ x=>x.elim)
 case body=>
  rintro l' pre x a' a TS ⟨Y,rfl,C,g,⟨rest,f⟩,c⟩ q;have aay:=Tm H.out f;have aar:gb x.k=true:=by
   have:=(H.out.2.2 x vw).1
   exact MQ
  have Q:=ag (Hh x.k);rw[aar]at Q;have r':=ag (Bo (ue pre) x.k);have ab:=ag c;have h2:=ag g;have B:a.cell? (ae Y 0 ad)=some (I x.k.fr):=bf g rfl;have D:a.cell? (ae Y 1 ad)=some (I x.k.em):=bf g rfl;have E:a.cell? (ae Y 2 ad)=some (I x.k.bp):=bf g rfl;have F:a.cell? (ae Y 3 ad)=some (I x.k.cg):=bf g rfl;gi_wp2_with (fail);refine⟨trivial,rfl,gU.2 ((Q.o _).mono ?_)⟩;rintro e t ⟨rfl,Q'⟩;have d:=Keeps.bJ (S:=aG) Q' a8;have P:=ab.out.keep d (λk hk=>hk.elim);have CW:=d.heap h2.out id;rw[<-IP pre x]at CW;have T':=IP pre x;have bz:=aO P.2.1;have B:t.cell? (ae Y 0 ad)=some (I x.k.fr):=d.cell B id;have D:t.cell? (ae Y 1 ad)=some (I x.k.em):=d.cell D id;have E:t.cell? (ae Y 2 ad)=some (I x.k.bp):=d.cell E id;have F:t.cell? (ae Y 3 ad)=some (I x.k.cg):=d.cell F id;have g':=ag P;have m':=ag T';gi_wp2_with (fail);refine⟨trivial,rfl,gU.2 ((r'.out _).mono ?_)⟩;rintro e i ⟨rfl,St⟩;have m:=Keeps.bJ (S:=aG) St a8;have G:=g'.out.keep m (λk hk=>hk.elim);have bz:=aO G.2.1;have g0:=bP G.2.1;have B:i.cell? (ae Y 0 ad)=some (I x.k.fr):=m.cell B id;have D:i.cell? (ae Y 1 ad)=some (I x.k.em):=m.cell D id;have E:i.cell? (ae Y 2 ad)=some (I x.k.bp):=m.cell E id;have F:i.cell? (ae Y 3 ad)=some (I x.k.cg):=m.cell F id;have r:=ag G;have aat:=d.trans m;gi_wp2_with (fail);have aw:=xX r.o.2.1 (I x.k.fr) (I x.k.em) (I x.k.bp) (I x.k.cg);have z:Keeps (λj=>j=w+1) i _:=((((Keeps.refl (λj=>j=w+1) i).setCell (p:=ae (w+1) 0 ad) rfl (I x.k.fr)).setCell (p:=ae (w+1) 1 ad) rfl (I x.k.em)).setCell (p:=ae (w+1) 2 ad) rfl (I x.k.bp)).setCell (p:=ae (w+1) 3 ad) rfl (I x.k.cg);refine⟨((aat.mono λ_ _ x=>x.elim).trans z).mono (λk _ e=>.inl e),z.heap r.o.1 U,?_,cN r.o.2.2.1 z a8,ca r.o.2.2.2 z.size⟩;rw[m'.out];exact aw
 rintro ys W ⟨N,i2,i3,i4⟩ _ aaA sd;have aaw:=jN N;have aax:=nO N;gi_wp2;have s':=(Keeps.setCell (S:=λj=>j=w.heap.size) (Keeps.refl _ W) (p:=ae w 0 ad) rfl (.bool true)).heap sd U;have W':=b3 N 0 (.bool true);have L:=cN i3 (Keeps.setCell (S:=λj=>j=w.heap.size) (Keeps.refl _ W) (p:=ae w 0 ad) rfl (.bool true)) a8;generalize W.setCell (ae w 0 ad) (.bool true)=O at *;refine⟨aM,.inl ⟨_,_,rfl,run_takeDeferred s',?_⟩⟩;have aaq:=((Keeps.refl (λj=>j=bn) O).putObj (l:=bn.heap.size) rfl (.deferred none)).heap W' U;have s:=cN L ((Keeps.refl (λj=>j=bn) O).putObj (l:=bn.heap.size) rfl (.deferred none)) a8;have ps:=jN (v:=.bool true) (by simpa using aaq);refine⟨.bool true,by simp[results,results337,asAddr,loadVar,isAgg4,go_sem,ps],rfl,s⟩
def Q2{base:J}{fr:aa}{xs:ah aC}{v:ay}(h:eL fr xs)(aU:w.ownsRow base 45 9 v xs.length (b4 xs)):aA 315 #[v] w λe w'=>e=.returned (.bool true)/\Keeps aG w w':=by
 obtain⟨A,cap,rfl,g,_⟩:=cS aU;have av:=h.2.1;have aV:=ag (Bp aU U (λe=>!fm e) 336 #[] (enters_of func336 aI rfl) (Vq w));have i:xs.any (λe=>!fm e)=false:=by
  rw[zY];intro e l;simp[(h.2.2 e l).1]
 rw[i]at aV;have d:=ag g
 go_in
 go_wp2_with fail;refine aW aV.o λao j=>?_;have b:=Keeps.bJ (S:=aG) j a8;go_wp2_with fail;refine aW (Ra _ _ _ _) λaD a=>?_;have c:Keeps aG ao aD:=by rw[<-a];exact(Keeps.refl _ ao).alloc _
 have f:=ag (Rc (w:=aD) h ao.heap.size (by rw[<-a];exact bf (k:=0) (aX ao _) rfl) (d.o.keeps (b.trans c) (λ_ _ _=>id)));go_wp2_with fail;refine aW f.o λbq hk=>?_;go_wp2;go_ret;exact⟨rfl,(b.trans c).trans hk⟩
end
def sq:lK prog 3 Int where
 enc x:=.int .i64 x
 lit x:=.int .i64 x
 ok x:=(Lit.int .i64 x).wf=true
 law x h:=keyOf_int_mk underlying3 h
 inj a b _ _ h:=by simpa using h
def Tl(d:J)(k:cU)(h1:(Lit.int .i64 k.fr).wf=true)(h2:(Lit.int .i64 k.em).wf=true)(a:(Lit.int .i64 k.bp).wf=true)(b:(Lit.int .i64 k.cg).wf=true):prog.keyLits (d+2) 43 [.int .i64 k.fr,.int .i64 k.em,.int .i64 k.bp,.int .i64 k.cg]=some [.int .i64 k.fr,.int .i64 k.em,.int .i64 k.bp,.int .i64 k.cg]:=by
 have b6:prog.cellsOf 3=1:=aI;have dY:prog.cellsOf 43=4:=aI;have ax:∀ n,(Lit.int .i64 n).wf=true->prog.keyLits (d+1) 3 [.int .i64 n]=some [.int .i64 n]:=λn av=>by
  unfold Program.keyLits;simp only[underlying3,av,and_self,if_true]
 unfold Program.keyLits;simp only[underlying43,dY];rw[aE ⟨rfl,aI⟩];simp[mapM_cons,b6,ax _ h1,ax _ h2,ax _ a,ax _ b]
def Ti(k:cU)(h1:(Lit.int .i64 k.fr).wf=true)(h2:(Lit.int .i64 k.em).wf=true)(b:(Lit.int .i64 k.bp).wf=true)(c:(Lit.int .i64 k.cg).wf=true):keyOf prog 43 (.agg (h7 k))=some (.string (keyBytes [.int .i64 k.fr,.int .i64 k.em,.int .i64 k.bp,.int .i64 k.cg])):=by
 have aw:=rZ (show decide (0<prog.types.size)=true by kernel_rfl);have d:(prog.keyType 43&&(Value.agg (h7 k)).formed prog 43)=true:=aI;have a:=Tl (prog.types.size-1) k h1 h2 b c;rw[show prog.types.size-1+2=prog.types.size+1 by omega]at a;have an:(Value.agg (h7 k)).cells.toList=[.int .i64 k.fr,.int .i64 k.em,.int .i64 k.bp,.int .i64 k.cg]:=rfl;unfold keyOf;simp only[underlying43];rw[d,an,a];rfl
def wf_i64{n:aa}(h:-9223372036854775808<=n/\n<=9223372036854775807):(Lit.int .i64 n).wf=true:=by
 show(decide (-9223372036854775808<=n)&&decide (n<=9223372036854775807))=true;simp[h]
def y'{k:cU}(h:gb k=true):(Lit.int .i64 k.fr).wf=true/\(Lit.int .i64 k.em).wf=true/\(Lit.int .i64 k.bp).wf=true/\(Lit.int .i64 k.cg).wf=true:=by
 unfold gb f_ at h;simp only[ep,gh]at h;exact⟨wf_i64 U,wf_i64 U,wf_i64 U,wf_i64 U⟩
def km:lK prog 43 cU where
 enc k:=.agg (h7 k)
 lit k:=.string (keyBytes [.int .i64 k.fr,.int .i64 k.em,.int .i64 k.bp,.int .i64 k.cg])
 ok k:=gb k=true
 law k h:=Ti k (y' h).1 (y' h).2.1 (y' h).2.2.1 (y' h).2.2.2
 inj a b _ _ h:=by
  simp only[h7,Value.agg.injEq,Array.mk.injEq,z6,Value.int.injEq,true_and,and_true]at h;obtain⟨h1,h2,c,d⟩:=h;cases a;cases b;simp only at h1 h2 c d;subst h1 h2 c d;rfl
section
open Go.RowKit Go.Maps
attribute [local go_sem] Oper.semAt_some
variable{w w':aj}
def iq(L:ah aC):ah (cU×ay):=L.map λe=>(e.k,.agg e.bu.toArray)
def qf(D:DataW Value)(pre:ah aC)(z:Lit):a1:=Maps.has D z&&!pre.any λq=>z.sameKey (km.lit q.k)
def Ty(D:DataW Value)(pre:ah aC)(e:aC):(λz=>qf D pre z&&!z.sameKey (km.lit e.k))=qf D (pre++[e]):=by
 funext z
 unfold qf;rw[any_append,any_cons,any_nil,w5];cases Maps.has D z<;>cases pre.any (λq=>z.sameKey (km.lit q.k))<;>cases z.sameKey (km.lit e.k)<;>rfl
def VR{H:Type}{P:Program}{k:TypeId}{R:ay->b_ (DataW H×ah MemPlace)}{b r n:J}{D:DataW H}{left:Lit->a1}{fi:J}{T:J->al}(h:w.ranges P k R b r n D left fi)(hk:Keeps T w w')(ak:¬ T b)(g:¬ T r):w'.ranges P k R b r n D left fi:=by
 have⟨es,a,i,seen,bz,h1,h2,c,d,e,f⟩:=h;exact⟨es,a,i,seen,bz,hk.heap h1 ak,h2,c,d,hk.heap e g,f⟩
def Tx(D:DataW Value):qf D []=Maps.has D:=by
 funext z
 simp[qf]
def atKey_mem{es:ah (Lit×DataW Value)}{b:Lit}{u:ay}(h:(DataW.map es).atKey b .nil=.held u):∃ p∈es,p.1=b/\p.2=.held u:=by
 unfold DataW.atKey at h;simp only at h;cases a:es.find? (λp=>p.1.sameKey b)with
 | none=>rw[a]at h;cases h
 | some p=>rw[a]at h;exact⟨p,Ab a,DZ (find?_some (p:=λp:Lit×DataW Value=>p.1.sameKey b) a),h⟩
def Bi{L:ah aC}(h:(iq L).Pairwise λp q=>p.1≠q.1):L.Pairwise λa b=>a.k≠b.k:=by
 unfold iq at h
 rwa [vc]at h
def nodup_keys{L:ah aC}(h:L.Pairwise λa b=>a.k≠b.k):L.Nodup:=h.imp λc e=>c (by rw[e])
def B_{L:ah aC}(h:L.Pairwise λa b=>a.k≠b.k){a b:aC}(bh:a∈L)(ak:b∈L)(e:a.k=b.k):a=b:=by
 induction L with
 | nil=>cases bh
 | cons x l f=>
  obtain⟨h1,h2⟩:=kb.1 h;rcases ff.1 bh with ec|d
  .rcases ff.1 ak with kF|c
   .rw[ec,kF]
   exact absurd (by rw[<-ec];exact e) (h1 b c)
  rcases ff.1 ak with kF|c
  .exact absurd (by rw[<-kF];exact e.symm) (h1 a d)
  exact f h2 d c
def Uj{L:ah aC}{b c:J}(G:RMap w km b (iq L))(an:w.cell? (ae c 0 ad)=some (.map (some b)))(t:J->al)(H:¬ t b/\¬ t (w.heap.size+2)):tB prog 73 #[c] (λe:aC=>#[.agg e.bu.toArray]) (λ_ pre x _=>x∈L/\pre.length<L.length) (λys _=>ys.Perm L) t (λk=>k=w.heap.size+2) w:=by
 intro l X W sd hk Tq y gf Y;subst sd;have aas:=hk.cell an id;have z:=G.keeps hk id;have aaq:=G.lt;have⟨es,vl,v'⟩:=z.own;have r:=ag z.ok;have D:=ag z.p7;have s:=ag v';refine gU.2 ?_
 go_in
 go_wp2_with (refine wpList_range_own _ rfl _ _ rfl _ _ mC underlying115 oD b _ _ rfl vl ?_;intro ao A l' Aw);have TS:size (.map es)=L.length:=by rw[Maps.size_eq,s.o.length_eq];simp[iq]
 rw[<-Tx,TS]at A;have Z:=y _ _ _ Y ((Keeps.refl (λk=>k=w+2) W).grown l' (λk hk=>by cases hk));rw[Tq]at A Aw;have C:=bW A Z;go_loopg [] L.length (λg wr=>∃ (pre:ah aC) (fi:J),g=fi/\wr.ranges prog 43 oD b (w.heap.size+2) (iq L).length (.map es) (qf (.map es) pre) fi/\pre.length+fi<=L.length/\(∀ e∈pre,e∈L)/\(pre.Pairwise λp q=>p.k≠q.k)/\X pre wr/\w.heap.size+3<=wr.heap.size)
 case atStart=>exact⟨[],_,rfl,C.o.1,aM,aM,Pairwise.nil,C.o.2,U⟩
 obtain⟨pre,fi,aZ,R,aat,St,g',a',aav⟩:=hrel;have f:=bW St (bD g' a');go_wp2_with (at_next;refine wpList_next_ranges _ rfl _ rfl _ mC oD id id (λkey _ _=>⟨key,rfl⟩) (λv _ _=>⟨v,rfl⟩) b (w.heap.size+2) _ _ _ fi rfl R ?_ ?_)
 .intro aar s';have w':pre.Perm L:=by
   refine(perm_ext_iff_of_nodup (nodup_keys f.o.2.1) (nodup_keys (Bi D.o))).2 λe=>⟨f.o.1 e,λi=>?_⟩;have O:=r.o _ (e9.2 ⟨e,i,rfl⟩:(e.k,Value.agg e.bu.toArray)∈iq L);have r':=mC.key (km.law e.k O);have m':Maps.has (.map es) (km.lit e.k)=true:=zZ.2 ⟨_,(s.o.mem_iff.2 (e9.2 ⟨(e.k,.agg e.bu.toArray),e9.2 ⟨e,i,rfl⟩,rfl⟩)),zS r'⟩;have h1:=s' (km.lit e.k);unfold qf at h1;rw[m',s7,Bool.not_eq_false',zZ]at h1;obtain⟨q,a,aw⟩:=h1;have Q:=f.o.1 q a;have lb:=lK.yM mC O (r.o _ (e9.2 ⟨q,Q,rfl⟩:(q.k,Value.agg q.bu.toArray)∈iq L)) (DZ aw);rw[B_ (Bi D.o) i Q lb];exact a
  go_wp2_with fail;go_end0;exact⟨⟨_,rfl⟩,pre,f.o.2.2,w'⟩
 intro x bw aax aaz aaA aD u ps m aU K S aau N CW h2;simp only[oD,hI,jR]at aU;obtain⟨rfl,rfl⟩:=aU;obtain⟨p,au,rfl,P⟩:=atKey_mem (K .nil);obtain⟨q,a,rfl⟩:=e9.1 (s.o.mem_iff.1 au);obtain⟨e,i,rfl⟩:=e9.1 a;simp only[zP]at P;subst P;have M:∀ q∈pre,q.k≠e.k:=λq zd zp=>by
  unfold qf at m;simp only[ep,lD,zY]at m;refine m.2 q zd ?_;rw[zp];exact zS (mC.key (km.law e.k (r.o _ a)))
 have T:aD.ranges prog 43 oD b (w.heap.size+2) (iq L).length (.map es) (qf (.map es) (pre++[e])) u:=by
  rw[<-Ty];exact S
 have aaw:w.heap.size+3<=aD.heap.size:=U;simp only[aC.bu]at h2⊢;have E:=y _ _ _ (y _ _ _ f.o.2.2 ((Keeps.refl (λk=>k=w+2) wr).grown N (λk hk=>.inl (by cases hk;rfl)))) ((Keeps.refl (λk=>k=w+2) aD).alloc (af e 45));have j:=bW i (bD M (bD E (T.alloc (af e 45))));clear CW N ps m S K au a i M E T R;go_upto_region 3 with fail
 have aay:=aO (aX aD (af e 45));have Q':w.heap.size+3<=(aD.alloc (af e 45)).heap.size:=b1;generalize aD.alloc (af e 45)=V at *;refine(oR (n:=0)).1 ?_;obtain⟨fn,tmps,assign,body,T',fr⟩:=gf pre e V V j.o.2.2.1 (Keeps.refl _ _) ⟨j.o.1,U⟩;simp only[aC.bu]at T';gi_wp2;refine⟨rfl,fr.mono ?_⟩;rintro W' V' ⟨rfl,ab,F⟩;have B:=bW ab (VR j.out.2.2.2 F (λh=>h.elim H.1 a8) (λh=>h.elim H.2 a8));gi_wp2;go_wp2;go_roundg u
 case measure=>omega
 refine⟨pre++[e],u,rfl,B.o.2,by rw[cx,jd];omega,λq a=>?_,?_,B.o.1,(ca Q' F.size)⟩
 .rcases eJ.1 a with a|a
  .exact f.out.1 q a
  simp at a;subst a;exact j.out.1
 refine pJ.2 ⟨f.out.2.1,El _ _,λq a d hd=>?_⟩;simp at hd;subst hd;exact j.out.2.1 q a
end
section
open Go.RowKit Go.Maps
attribute [local go_sem] Oper.semAt_some
variable{w w':aj}
def dD(e:aC):a7 ay:=e
def tL(e:aC):(dD e).toList.all (λv=>v.oneCell')=true:=rfl
def qq(w:aj):(Instr.alloc 45 true (aY #[])).run prog w=.ok w.heap.size (w.alloc (af z9 45)):=aI
structure vz(w:aj)(pre:ah aC)(W:aj):al where
 row:∃ v,W.heap[w.heap.size]?=some (af #[v] 66 (0,0))/\W.ownsRow (w.heap.size+4) 45 9 v pre.length (b4 pre)
 cu:Keeps aG w W
 cM:w.heap.size+1<=W.heap.size
def vz.keep{pre:ah aC}{T:J->al}{W W':aj}(h:vz w pre W)(hk:Keeps T W W')(C:∀ k,T k->w.heap.size<k/\k<w.heap.size+4):vz w pre W':=by
 have⟨v,h1,h2⟩:=h.row;exact⟨⟨v,hk.heap h1 (λe=>r2),b5 h2 hk (λb ak e=>by have:=(h2.lt b ak).1;have:=C _ e;omega)⟩,cN h.cu hk (λk hk e=>r2),ca h.cM hk.size⟩
def QQ{L:ah aC}(gf:J)(lb:a7 ay)(ps:∀ args w,(callFunc gf args).run prog w=.ok (.enter gf args) w)(aat:L.length<=1000)(sd:tB prog gf lb (λe:aC=>#[.agg (dD e)]) (λ_ pre x _=>x∈L/\pre.length<L.length) (λys _=>ys.Perm L) (λk=>k=w.heap.size\/w.heap.size+3<k) (λk=>k=w.heap.size+3) (w.alloc (af #[aq none 0 0] 66))):aA 120 #[aq none 0 0,.func (.func gf) #[] lb] w λe w'=>∃ v ys,e=.returned v/\ys.Perm L/\w'.ownsRow (w.heap.size+4) 45 9 v ys.length (b4 ys)/\Keeps aG w w':=by
 obtain⟨i0,r',Tq,TS,T'⟩:=yE;refine(gU (n:=0)).1 ?_;refine callsIn_of_wp_marks func120 rfl trivial ?_ rfl;simp only[ntmps120,hh,dy,fg,Nat.reduceAdd,Nat.reduceSub,s5,s6,tb,s8,nT,kV];gi_wp2_with (fail);have V':Keeps aG w (w.alloc (af #[aq none 0 0] 66)):=(Keeps.refl _ w).alloc _;have X:=aX w (af #[aq none 0 0] 66);have r:(w.alloc (af #[aq none 0 0] 66)).heap.size=w.heap.size+1:=aM;generalize w.alloc (af #[aq none 0 0] 66)=bn at *
 refine DG (gf:=gf) (lb:=lb) rfl ps (encs:=λe:aC=>#[.agg (dD e)]) (λ_=>rfl) _ _ (λk=>k=w.heap.size\/w.heap.size+3<k) (λk=>k=w.heap.size+3) sd
  (λys A B h _ _=>h) xC xC (λpre W=>vz w pre W) (λpre A B h q hk=>h.keep hk (λk hk=>by rw[r]at hk;omega))
  ⟨⟨_,X,gx _ _ _ _⟩,V',U⟩
  (λpre x a' W=>∃ Y,a'={tmps:=#[aq none 0 0,.func (.func gf) #[] lb,.pointer (some (ae w 0 ad)),undef,aq none 0 0,.pointer (some (ae Y 0 ad)),.func (.func gf) #[] lb,.agg (dD x),undef,undef,undef,undef,undef],defers:=[]}/\w.heap.size+3<=Y/\W.heap[Y]?=some (af (dD x) 45 (0,0))/\pre.length<L.length/\vz w pre W)
  ?ass ?assign ?body ?done
 case ass=>
  exact OM
 case assign=>
  intro l' pre x W' a K zp fr aav s' Aw q hd;have c:=fr.keep s' a8;have F:=aX a (af z9 45);obtain⟨St,_,zd⟩:=dQ (a.alloc (af z9 45)) 45 9 a.heap.size (dD x) _ sizeOf45 rfl rfl F (tL x);have m':=fb (a.alloc (af z9 45)) a.heap.size _ (dD x) 45 F;have H:=cN ((bb a).alloc (af z9 45)) zd a8;generalize (a.alloc (af z9 45)).setRow a.heap.size (dD x)=aaq at *;refine D7 ?_;simp only[Ai,Ag,Ah,z_,oU,rS,c8];refine zF (qq a) rfl rfl ?_;refine zG (p:=.pointer (some (ae a 0 ad))) (u:=.agg (dD x)) St rfl rfl rfl rfl ?_;refine D8 ?_;exact hd _ _ ⟨a,rfl,U,m',Aw.2,c.keep H (λk hk=>hk.elim)⟩ (H.mono λ_ _ x=>x.elim)
 case body=>
  rintro l' pre x a' A zp ⟨Y,rfl,C,g,aau,c⟩ q;obtain⟨v,i,d⟩:=c.row;have M:=gd (P:=prog) 45 9 Y 0 (dD x) _ _ isAgg45 sizeOf45 rfl g (λj u z=>ke);have CW:=fw.1 (tL x);have Q':b4 (pre++[x])=b4 pre++(dD x).toList:=by simp[b4,aC.bu,dD]
  have V:=jN i;have O:=ag i;have T:=ag c;have G:=Gy A (dD x) 45;have N:=d.alloc (af (dD x) 45);unfold dD at M G N;gi_wp2_with (first|(refine DH M rfl rfl rfl ?_)|(gi_at_builtin;refine wpListIn_append_own _ rfl _ _ 66 rfl (w.heap.size+4) 45 i0 (aL z9) 9 72 underlying66 r' Tq TS T' rfl bt _ _ _ rfl N (ae A 0 ad) 1 1 (dD x).toList rfl rfl G CW pR U b1 ?_;intro v' ao s m _;have vl:Keeps (λk=>k=w.heap.size\/w.heap.size+3<k) A ao:=((Keeps.refl _ A).alloc _).grown m (λk hk=>.inl (.inr vn));obtain⟨g',D,rfl⟩:=ownsRow_succ s;have h2:=(m.block w.heap.size b1 (λe=>xx)).trans (cw O.o _);have aar:=jN h2;have aas:=nO h2;have Q:=ag h2;clear h2 m));have y:=vl.setCell (p:=ae w 0 ad) (.inl rfl) (aq (some (ae g' 0 ad)) (pre.length+1) D);have E:=T.o;refine⟨y,⟨⟨aq (some (ae g' 0 ad)) (pre.length+1) D,xy,?_⟩,cN E.cu y a8,ca E.cM y.size⟩⟩;rw[cx,jd,Q'];exact Oy
 rintro ys W c ab aaw Z;obtain⟨v,i,d⟩:=c.row;have V:=jN i;have S:=ag c;have R:=ag ab;obtain⟨A,cap,rfl,_,_⟩:=cS d;gi_wp2;refine⟨aM,.inl ⟨_,_,rfl,run_takeDeferred Z,?_⟩⟩;have au:=(Keeps.refl (λk=>k=bn) W).putObj (l:=bn.heap.size) rfl (.deferred none);refine⟨_,zV rfl _ _ _,⟨_,ys,rfl,R.o,b5 d au (λb ak h=>by have:=(d.lt b ak).1;omega),cN S.o.cu au a8⟩⟩
end
end Go.Proofs.YtalagblioepadaaGreatDoor
