/- The proof, part 26. -/
import Derived.Test.YtalagblioepadaaGreatDoorZe25
import Derived.Shelf.SlicesQ.IndexFunc
import Derived.Shelf.SlSortCmp.WholeK
namespace Go.Proofs.YtalagblioepadaaGreatDoor
set_option linter.all false
open Proofs.Tryz List Go.RowKit Go.Shelf Go.Maps Go.Sort
set_option maxRecDepth 100000
set_option maxHeartbeats 1000000
variable{ww:Prop}
def C6(h:ww:=by simpa using h.1):=h
def H5(h:ww:=by rw[gM,<-R.o];exact a):=h
def QR(h:ww:=by simpa using λc=>qw e.k (by rw[c]at h;exact h)):=h
def QN(h:ww:=by simpa using λh2=>qw _ (sQ h ((mh _ _).1 h2))):=h
def QL(h:ww:=by rw[<-h];simpa only[hf]using λh2=>av ((mh _ _).1 h2)):=h
variable{e:aE}{fr most:U}{M:ai (U×ay)}{L pre:ai aE}{l:ai ay}{b:J}{m x y:Operand}{A:cr Addr}{ei:Type}{t:TypeId}{key mv u kk y7 v2 cM:ay}{W W':aj}
variable{w w':aj}
instance:Inhabited aE:=⟨⟨⟨0,0,0,0⟩,0,0,0,0,0⟩⟩
def ED:Go.Shelf.Ren:=⟨fun|6=>339|8=>316|n=>n,fun|0=>0|3=>3|4=>4|22=>66|23=>45|25=>162|n=>n,fun|n=>n⟩
def Lt:SlLaysH0.n8 prog ED:={
 mixed:=bc
 f6:=⟨f339.name,bs,func339.trans (c6 some bc)⟩
 f8:=⟨f316.name,bs,func316.trans (c6 some bc)⟩
 t0:=underlying0
 a0:=isAgg0
 z0:=sizeOf0
 v0:=zeroValue0
 t3:=underlying3
 a3:=isAgg3
 z3:=sizeOf3
 v3:=zeroValue3
 t4:=underlying4
 a4:=isAgg4
 z4:=sizeOf4
 v4:=zeroValue4
 t22:=underlying66
 a22:=isAgg66
 z22:=sizeOf66
 v22:=zeroValue66
 t25:=underlying162
 a25:=isAgg162
 z25:=sizeOf162
 v25:=zeroValue162}
abbrev D3(g:J)(lb:a6 ay)(p:aE->aY)(w:aj):ae:=PredBelow prog g lb (λx:aE=>.agg x.bC.toArray) p w
def EB{base:J}{v:ay}{xs:ai aE}(h:w.ownsRow base 45 9 v xs.length (b0 xs))(aw:xs.length<=1000)(p:aE->aY)(g:J)(lb:a6 ay)(d:∀ args w,(callFunc g args).run prog w=.ok (.enter g args) w)(ao:D3 g lb p w):aB 316 #[v,.func (.func g) #[] lb] w λe w'=>e=.returned (.bool (xs.any p))/\Below w w w':=by
 rcases h.2 with⟨rfl,B⟩|⟨b,cap,f,rfl,a7,aT,an,hm,aA,aW⟩
 .refine vp;refine bJ (Zh _ w) ?_;exact⟨rfl,b9 _ _⟩
 refine xD;refine(AnyQ.slices_ContainsFunc (P:=prog) (ρ:=ED) Lt 9 isAgg45 sizeOf45 aE.bC (λ_=>rfl) p g lb d b 0 xs.length cap xs w ao bu I (bZ aT) (λj a i u c=>?_)).mono ?_
 .refine RO
  rwa [l9 xs j a]at c
 rintro e w' ⟨rfl,h2⟩;rw[qS];exact⟨rfl,h2⟩
def Zx(e:aE)(w:aj):aB 336 #[aG e] w λr w'=>r=.returned (.bool (!fx e))/\Below w w w':=by
 have c:=ad (yd e);have cp:=(b9 w w).alloc bu (ab e 45);generalize fx e=r at *
 go_in
 refine Dv;exact zQ
def aea(w:aj):D3 336 #[] (λe=>!fx e) w:=λW e al=>(Zx e W).mono λ_ _ h=>⟨h.1,al.trans (h.2.mono al.size)⟩
section
attribute [local go_sem] Oper.semAt_some
variable{w w':aj}
def jf(k:dD):a6 ay:=k
def ZA(A:cr Addr)(n c:J)(w:aj):aB 338 #[au A n c] w λe w'=>e=.returned (.func (.func 358) #[] #[w.heap.size])/\w.alloc (ab #[au A n c] 66)=w':=by
 exact er
def ZB{xs:ai aE}{cap:J}(b:J)(an:w.cell? (ah b 0)=some (au A xs.length cap))(p:ey w 9 A xs.length cap (b0 xs))(aw:xs.length<=1000)(h:J->ae)(G:0<xs.length->∀ y,A=some y->¬ h y.block):q1 prog 358 #[b] (λe:aE=>#[.agg (jf e.k)]) xs h (λ_=>False) w:=by
 intro l E W N hk l' F H i;subst N;have K:=hk.cell an id;have q:=p.keeps hk (λ_ _ _=>id);have r:=λao x ak=>p.lt I ao (x:=x) ak;clear hk an;refine h0.2 ?_
 go_in
 go_wp2_with fail;clear K;go_loopg [7] xs.length (λg z wr=>∃ pre rest:ai aE,xs=pre++rest/\g=rest.length/\z=aa pre.length/\ey wr 9 A xs.length cap (b0 xs)/\E pre wr/\w.heap.size+2<=wr.heap.size)
 case atStart=>exact⟨[],xs,rfl,rfl,rfl,q,i,I⟩
 obtain⟨pre,rest,ak,a7,rfl,a_,C,h2⟩:=hrel;clear q i;cases rest with
 | nil=>
  refine Ip;refine dU;have vs:=ad D;clear ak D C a_;refine aK;go_end0;exact⟨⟨_,rfl⟩,by rw[vs.o];exact m'.o⟩
 | cons e rest=>
  have P:pre.length<xs.length:=by rw[ak];simp
  have t:xs[pre.length]=e:=by simp[ak]
  obtain⟨d,o,rfl,s⟩:=a_.at' I;have a:∀ j u,j<9->e.bC[j]?=some u->wr.cell? (ah d (o+pre.length*9+j))=some u:=λj u M S=>by
   rw[jZ];exact s _ u (by rw[AM xs pre.length P j M,t];exact S)
  have z0:wr.cell? (ah d (o+pre.length*9))=some (aa e.k.fr):=a 0 _ I rfl;have V:=a 1 (aa e.k.em) I rfl;have X:=a 2 (aa e.k.bq) I rfl;have Y:=a 3 (aa e.k.cv) I rfl;have z4:=a 4 (aa e.df) I rfl;have Z:=a 5 (aa e.eb) I rfl;have a':=a 6 (aa e.hq) I rfl;have fo:=a 7 (aa e.eP) I rfl;have gf:=a 8 (aa e.le) I rfl;have lb:=F _ _ _ C ((bd wr).alloc (ab e 45));have TS:=a_.keeps ((bd wr).alloc (ab e 45)) (λ_ _ _=>id);have T':=r I _ rfl;refine U3;clear s a t ak lb TS a_ C r T';refine vv;clear z0 V X Y z4 Z a' fo gf;have L:=aP wr (ab e 45);refine j1;have Q:w.heap.size+2<=(wr.alloc (ab e 45)).heap.size:=b_;clear L;generalize wr.alloc (ab e 45)=T at *;refine xT;obtain⟨fn,tmps,assign,body,a8,mv⟩:=H pre e rest T vs.o aj5.o;unfold jf at a8;gi_wp2;refine⟨rfl,mv.mono ?_⟩;rintro hd g' ⟨rfl,m,c⟩;have v:=aj6.o.keeps c (λ_ y a8 e=>by cases a8;exact e.elim (G I _ rfl) (λe=>by have:=akv.o;dsimp only at e this;omega));have R:=cu Q c.size;have B:=ad (show xs=(pre++[e])++rest by rw[vs.o];simp);have f:=ad (bx m v);clear a8 mv dq c m v aj5 aj6;gi_wp2;go_wp2;go_roundg rest.length
  case measure=>simp at a7;omega
  exact⟨pre++[e],rest,B.o,rfl,aM,f.o.2,f.o.1,R⟩
end
section
attribute [local go_sem] Oper.semAt_some
variable{w w':aj}
def ajk{α:Type}{P:Program}{gf:J}{lb:a6 ay}{encs:α->a6 ay}{xs:List α}{b a:J->ae}(h:q1 P gf lb encs xs b a w):vN P gf lb encs (λ_ pre x _=>∃ rest,xs=pre++x :: rest) (λys _=>ys=xs) b a w:=λl c W i hk j e f d=>
 (h l c W i hk j e (λpre x rest A ak g=>f pre x A A g (ag.refl _ _) ⟨rest,ak⟩) d).mono λ_ _ ⟨h1,h2⟩=>⟨h1,xs,h2,rfl⟩
def wx(pre:ai aE):dD:=(pre.getLast?.map aE.k).getD ⟨-1,0,0,0⟩
def MU(pre:ai aE)(e:aE):wx (pre++[e])=e.k:=by simp[wx]
def abX{xs rest:ai aE}(h:fk fr xs)(D:xs=pre++e :: rest):ez (wx pre) e.k<0:=by
 rw[mh];have a:=(h.2.2 e (by rw[D];simp)).1;unfold fx hW gA at a;refine xM;unfold wx;cases b:pre.getLast? with
 | none=>exact .inl (by show(-1:U)<e.k.fr;omega)
 | some d=>
  have N:=h.1;refine ed;exact(tg.1 N).2.2 d (mem_of_getLast? b) e aM
def x4(w:aj)(pre:ai aE)(W:aj):ae:=
 W.heap[w.heap.size]?=some (ab #[false] 4 (0,0))/\W.heap[w.heap.size+1]?=some (ab (jf (wx pre)) 43 (0,0))/\ag aH w W/\w.heap.size+2<=W.heap.size
theorem x4.keep{T:J->ae}(h:x4 w pre W)(hk:ag T W W')(s:∀ k,T k->w.heap.size+2<=k):x4 w pre W':=
 ⟨hk.heap h.1 (λe=>tt),hk.heap h.2.1 (λe=>tt),c1 h.2.2.1 hk (λk hk e=>tt),cu h.2.2.2 hk.size⟩
def afG(w:aj):(Instr.alloc 43 true (aV #[])).run prog w=.ok w (w.alloc (ab z4 43)):=bc
def ZC{xs:ai aE}{cap:J}(h:fk fr xs)(b:J)(an:w.cell? (ah b 0)=some (au A xs.length cap))(T:ey w 9 A xs.length cap (b0 xs)):aB 337 #[.func (.func 358) #[] #[b]] w λe w'=>e=.returned (.bool true)/\ag aH w w':=by
 have H:=ad h;have hd:=ad (λao y a8=>T.lt I ao (x:=y) a8);refine(h0 (n:=0)).1 ?_;refine callsIn_of_wp_marks func337 rfl trivial ?_ rfl;simp only[ntmps337,iw,eA,gN,Nat.reduceAdd,Nat.reduceSub,uR,uS,u',uW,p2,l5];gi_wp2_with (fail);have fo:ag aH w ((w.alloc (ab #[false] 4)).alloc (ab #[aa (-1),aa 0,aa 0,aa 0] 43)):=((ag.refl _ w).alloc _).alloc _;have vs:((w.alloc (ab #[false] 4)).alloc (ab #[aa (-1),aa 0,aa 0,aa 0] 43)).heap[w.heap.size]?=some (ab #[false] 4 (0,0)):=b2 (aP w _) _;have vl:((w.alloc (ab #[false] 4)).alloc (ab #[aa (-1),aa 0,aa 0,aa 0] 43)).heap[w.heap.size+1]?=some (ab #[aa (-1),aa 0,aa 0,aa 0] 43 (0,0)):=by
  have:=aP (w.alloc (ab #[false] 4)) (ab #[aa (-1),aa 0,aa 0,aa 0] 43)
  rwa [ft]at this
 have X:((w.alloc (ab #[false] 4)).alloc (ab #[aa (-1),aa 0,aa 0,aa 0] 43)).heap.size=w.heap.size+2:=aM;generalize (w.alloc (ab #[false] 4)).alloc (ab #[aa (-1),aa 0,aa 0,aa 0] 43)=bo at *
 refine GZ (gf:=358) (lb:=#[b]) rfl (enters_of func358 bc rfl) (encs:=λe:aE=>#[.agg (jf e.k)]) (λ_=>rfl) (λ_ pre x _=>∃ rest,xs=pre++x :: rest) (λys _=>ys=xs) (λk=>k=w.heap.size+1\/w.heap.size+3<k) (λ_=>False)
  (ajk (((λ(W:aj) (hk:ag aH w W)=>ZB (w:=W) b (hk.cell an id) (T.keeps hk (λ_ _ _=>id)) (by have:=h.2.1;omega))) bo fo _ (λao y a8 e=>by have:=hd.o ao y a8;omega)))
  (λ_ _ _ h _ _=>h) (by rw[X];omega) aM (λpre W=>x4 w pre W) (λpre Y Z s i hk=>s.keep hk (λk hk=>by rw[X]at hk;simp at hk;omega))
  ⟨vs,vl,fo,I⟩
  (λpre x a' W=>∃ Y,a'={tmps:=#[.func (.func 358) #[] #[bM b],undef,bM w,bM (w+1),bM Y,aG #[aa (-1),aa 0,aa 0,aa 0],.func (.func 358) #[] #[bM b],.agg (jf x.k),undef,undef,undef,undef,undef,undef,undef,undef,undef,undef],defers:=[]}/\w.heap.size+4<=Y/\W.heap[Y]?=some (ab (jf x.k) 43 (0,0))/\(∃ rest,xs=pre++x :: rest)/\x4 w pre W)
  ?ass ?assign ?body ?done
 case ass=>
  exact Ty
 case assign=>
  intro l' pre x ajT c K Tq se ajY Q' T' i s';have C:=se.keep Q' (λk hk=>hk.elim);have V:=aP c (ab z4 43);obtain⟨ajR,_,L⟩:=dT (c.alloc (ab z4 43)) 43 4 c (jf x.k) _ sizeOf43 rfl rfl V rfl;have v':=fb (c.alloc (ab z4 43)) c _ (jf x.k) 43 V;have r:=c1 ((bd c).alloc (ab z4 43)) L a1;generalize (c.alloc (ab z4 43)).setRow c (jf x.k)=ajU at *;refine RT;refine B_ (afG c) rfl rfl ?_;refine B' (p:=(bM c)) (u:=.agg (jf x.k)) ajR rfl rfl rfl rfl ?_;refine Hs ?_;exact s' _ _ ⟨c,rfl,I,v',T',C.keep r (λk hk=>hk.elim)⟩ (r.mono λ_ _ x=>x.elim)
 case body=>
  rintro l' pre x a' c Tq ⟨Y,rfl,s,g,⟨rest,ak⟩,C⟩ i;have ajX:=abX H.o ak;have D:hW x.k=true:=by
   have:=(H.o.2.2 x zJ).1
   unfold fx at this;simp only[e9]at this;exact this.1.1.1.1.1
  have N:=ad (Lq x.k);refine ed;have r':=ad (EA (wx pre) x.k);refine dU;have h2:=ad g;have z:c.cell? (ah Y 0)=some (aa x.k.fr):=bb g rfl;have B:c.cell? (ah Y 1)=some (aa x.k.em):=bb g rfl;have E:c.cell? (ah Y 2)=some (aa x.k.bq):=bb g rfl;have F:c.cell? (ah Y 3)=some (aa x.k.cv):=bb g rfl;refine sn;refine⟨trivial,rfl,h0.2 ((N.o _).mono ?_)⟩;rintro e q ⟨rfl,al⟩;refine sj;have Q:=m'.o.keep R (λk hk=>hk.elim);have zd:=R.heap h2.o id;rw[<-MU pre x]at zd;have TS:=MU pre x;have bw:=aX Q.2.1;have z:q.cell? (ah Y 0)=some (aa x.k.fr):=R.cell z id;have B:q.cell? (ah Y 1)=some (aa x.k.em):=R.cell B id;have E:q.cell? (ah Y 2)=some (aa x.k.bq):=R.cell E id;have F:q.cell? (ah Y 3)=some (aa x.k.cv):=R.cell F id;have g':=ad Q;have mv:=ad TS;refine sn;refine⟨trivial,rfl,h0.2 ((r'.out _).mono ?_)⟩;rintro e a ⟨rfl,zp⟩;have d:=ag.bU (S:=aH) zp a1;have G:=g'.o.keep d (λk hk=>hk.elim);have bw:=aX G.2.1;have g0:=bV G.2.1;have z:a.cell? (ah Y 0)=some (aa x.k.fr):=d.cell z id;have B:a.cell? (ah Y 1)=some (aa x.k.em):=d.cell B id;have E:a.cell? (ah Y 2)=some (aa x.k.bq):=d.cell E id;have F:a.cell? (ah Y 3)=some (aa x.k.cv):=d.cell F id;have m:=ad G;have ajS:=R.trans d;refine sn;have aA:=x8 m.o.2.1 (aa x.k.fr) (aa x.k.em) (aa x.k.bq) (aa x.k.cv);have t:ag (λj=>j=w+1) a _:=((((ag.refl (λj=>j=w+1) a).setCell (p:=ah (w+1) 0) rfl (aa x.k.fr)).setCell (p:=ah (w+1) 1) rfl (aa x.k.em)).setCell (p:=ah (w+1) 2) rfl (aa x.k.bq)).setCell (p:=ah (w+1) 3) rfl (aa x.k.cv);refine⟨((ajS.mono λ_ _ x=>x.elim).trans t).mono (λk _ e=>.inl e),t.heap m.o.1 I,?_,c1 m.o.2.2.1 t a1,cu m.o.2.2.2 t.size⟩;rw[mv.o];exact aA
 rintro ys W ⟨M,i2,i3,i4⟩ _ ajZ sd;have ajV:=kz M;have ajW:=oU M;gi_wp2;have f:=(ag.setCell (S:=λj=>j=w.heap.size) (ag.refl _ W) (p:=ah w 0) rfl (.bool true)).heap sd I;have V':=bX M 0 (.bool true);have L:=c1 i3 (ag.setCell (S:=λj=>j=w.heap.size) (ag.refl _ W) (p:=ah w 0) rfl (.bool true)) a1;generalize W.setCell (ah w 0) (.bool true)=P at *;refine Dw;have W':=((ag.refl (λj=>j=bo) P).putObj (l:=bo.heap.size) rfl (.deferred none)).heap V' I;have r:=c1 L ((ag.refl (λj=>j=bo) P).putObj (l:=bo.heap.size) rfl (.deferred none)) a1;have ps:=kz (v:=.bool true) (by simpa using W');refine⟨.bool true,by simp[results,results337,asAddr,loadVar,isAgg4,go_sem,ps],rfl,r⟩
def Zr{base:J}{xs:ai aE}{v:ay}(h:fk fr xs)(a_:w.ownsRow base 45 9 v xs.length (b0 xs)):aB 315 #[v] w λe w'=>e=.returned (.bool true)/\ag aH w w':=by
 obtain⟨A,cap,rfl,a,_⟩:=dA a_;have aw:=h.2.1;have aU:=ad (EB a_ I (λe=>!fx e) 336 #[] (enters_of func336 bc rfl) (aea w));have c:xs.any (λe=>!fx e)=false:=by
  rw[Cq];intro e d;simp[(h.2.2 e d).1]
 rw[c]at aU;refine z6;refine aS aU.o λaq al=>?_;refine sj;refine aK;refine aS (ZA _ _ _ _) λaF b=>?_;have bK:ag aH aq aF:=by rw[<-b];exact(ag.refl _ aq).alloc _
 have u:=ad (ZC (w:=aF) h aq (by rw[<-b];exact bb (k:=0) (aP aq _) rfl) (m.o.keeps (R.trans bK) (λ_ _ _=>id)));refine tx;refine fB;exact⟨rfl,(R.trans bK).trans y⟩
end
def tZ:mS prog 3 Int where
 enc x:=.int .i64 x
 lit x:=.int .i64 x
 ok x:=(Lit.int .i64 x).wf=true
 law x h:=keyOf_int_mk underlying3 h
 inj a b _ _ h:=by simpa using h
def abW(d:J)(k:dD)(h1:(Lit.int .i64 k.fr).wf=true)(h2:(Lit.int .i64 k.em).wf=true)(a:(Lit.int .i64 k.bq).wf=true)(b:(Lit.int .i64 k.cv).wf=true):prog.keyLits (d+2) 43 [.int .i64 k.fr,.int .i64 k.em,.int .i64 k.bq,.int .i64 k.cv]=some [.int .i64 k.fr,.int .i64 k.em,.int .i64 k.bq,.int .i64 k.cv]:=by
 have bP:prog.cellsOf 3=1:=bc;have e4:prog.cellsOf 43=4:=bc;have av:∀ n,(Lit.int .i64 n).wf=true->prog.keyLits (d+1) 3 [.int .i64 n]=some [.int .i64 n]:=λn aw=>by
  unfold Program.keyLits;simp only[underlying3,aw,and_self,if_true]
 unfold Program.keyLits;simp only[underlying43,e4];rw[aD ⟨rfl,bc⟩];simp[mapM_cons,bP,av _ h1,av _ h2,av _ a,av _ b]
def abU(k:dD)(h1:(Lit.int .i64 k.fr).wf=true)(h2:(Lit.int .i64 k.em).wf=true)(b:(Lit.int .i64 k.bq).wf=true)(c:(Lit.int .i64 k.cv).wf=true):keyOf prog 43 (.agg (jf k))=some (.string (keyBytes [.int .i64 k.fr,.int .i64 k.em,.int .i64 k.bq,.int .i64 k.cv])):=by
 have aA:=r8 (show decide (0<prog.types.size)=true by kernel_rfl);have d:(prog.keyType 43&&(Value.agg (jf k)).formed prog 43)=true:=bc;have a:=abW (prog.types.size-1) k h1 h2 b c;rw[show prog.types.size-1+2=prog.types.size+1 by omega]at a;have an:(Value.agg (jf k)).cells.toList=[.int .i64 k.fr,.int .i64 k.em,.int .i64 k.bq,.int .i64 k.cv]:=rfl;unfold keyOf;simp only[underlying43];rw[d,an,a];rfl
def wf_i64{n:U}(h:-9223372036854775808<=n/\n<=9223372036854775807):(Lit.int .i64 n).wf=true:=by
 show(decide (-9223372036854775808<=n)&&decide (n<=9223372036854775807))=true;simp[h]
def BI{k:dD}(h:hW k=true):(Lit.int .i64 k.fr).wf=true/\(Lit.int .i64 k.em).wf=true/\(Lit.int .i64 k.bq).wf=true/\(Lit.int .i64 k.cv).wf=true:=by
 unfold hW gA at h;simp only[e9,hf]at h;exact⟨wf_i64 I,wf_i64 I,wf_i64 I,wf_i64 I⟩
def nM:mS prog 43 dD where
 enc k:=.agg (jf k)
 lit k:=.string (keyBytes [.int .i64 k.fr,.int .i64 k.em,.int .i64 k.bq,.int .i64 k.cv])
 ok k:=hW k=true
 law k h:=abU k (BI h).1 (BI h).2.1 (BI h).2.2.1 (BI h).2.2.2
 inj a b _ _ h:=by
  simp only[jf,Value.agg.injEq,Array.mk.injEq,Cs,Value.int.injEq,true_and,and_true]at h;obtain⟨h1,h2,c,d⟩:=h;cases a;cases b;simp only at h1 h2 c d;subst h1 h2 c d;rfl
section
open Go.RowKit Go.Maps
attribute [local go_sem] Oper.semAt_some
variable{w w':aj}
def jt(L:ai aE):ai (dD×ay):=L.map λe=>(e.k,.agg e.bC.toArray)
def rm(D:DataW Value)(pre:ai aE)(z:Lit):aY:=Maps.has D z&&!pre.any λq=>z.sameKey (nM.lit q.k)
def ab8(D:DataW Value)(pre:ai aE)(e:aE):(λz=>rm D pre z&&!z.sameKey (nM.lit e.k))=rm D (pre++[e]):=by
 funext z
 unfold rm;rw[any_append,any_cons,any_nil,zb];cases Maps.has D z<;>cases pre.any (λq=>z.sameKey (nM.lit q.k))<;>cases z.sameKey (nM.lit e.k)<;>rfl
def aeG{H:Type}{P:Program}{k:TypeId}{R:ay->cr (DataW H×ai MemPlace)}{r n:J}{D:DataW H}{left:Lit->aY}{f_:J}{T:J->ae}(h:w.ranges P k R b r n D left f_)(hk:ag T w w')(al:¬ T b)(g:¬ T r):w'.ranges P k R b r n D left f_:=by
 have⟨es,a,i,seen,bw,h1,h2,c,d,e,f⟩:=h;exact⟨es,a,i,seen,bw,hk.heap h1 al,h2,c,d,hk.heap e g,f⟩
def ab7(D:DataW Value):rm D []=Maps.has D:=by
 funext z
 simp[rm]
def atKey_mem{es:ai (Lit×DataW Value)}{b:Lit}(h:(DataW.map es).atKey b .nil=.held u):∃ p∈es,p.1=b/\p.2=.held u:=by
 unfold DataW.atKey at h;simp only at h;cases a:es.find? (λp=>p.1.sameKey b)with
 | none=>rw[a]at h;cases h
 | some p=>rw[a]at h;exact⟨p,CB a,Hk (find?_some (p:=λp:Lit×DataW Value=>p.1.sameKey b) a),h⟩
def Ew(h:(jt L).Pairwise λp q=>p.1≠q.1):L.Pairwise λa b=>a.k≠b.k:=by
 unfold jt at h
 rwa [xh]at h
def nodup_keys(h:L.Pairwise λa b=>a.k≠b.k):L.Nodup:=h.imp λc e=>c (by rw[e])
def MR(h:L.Pairwise λa b=>a.k≠b.k){a b:aE}(bg:a∈L)(al:b∈L)(e:a.k=b.k):a=b:=by
 induction L with
 | nil=>cases bg
 | cons x l f=>
  obtain⟨h1,h2⟩:=k4.1 h;rcases fW.1 bg with e6|d
  .rcases fW.1 al with lL|c
   .rw[e6,lL]
   exact absurd (by rw[<-e6];exact e) (h1 b c)
  rcases fW.1 al with lL|c
  .exact absurd (by rw[<-lL];exact e.symm) (h1 a d)
  exact f h2 d c
def ac1{c:J}(F:gv w nM b (jt L))(an:w.cell? (ah c 0)=some (.map (some b)))(s:J->ae)(G:¬ s b/\¬ s (w.heap.size+2)):vN prog 73 #[c] (λe:aE=>#[.agg e.bC.toArray]) (λ_ pre x _=>x∈L/\pre.length<L.length) (λys _=>ys.Perm L) s (λk=>k=w.heap.size+2) w:=by
 intro l X W r' hk Tq u gf Y;subst r';have ajS:=hk.cell an id;have y:=F.keeps hk id;have W':=F.lt;have⟨es,se,s'⟩:=y.own;have aj1:=ad y.ok;have C:=ad y.q_;have r:=ad s';refine h0.2 ?_
 go_in
 go_wp2_with (refine wpList_range_own _ rfl _ _ rfl _ _ sO underlying115 pH b _ _ rfl se ?_;intro aq z l' w');have TS:size (.map es)=L.length:=by rw[Maps.size_eq,r.o.length_eq];simp[jt]
 rw[<-ab7,TS]at z;have Z:=u _ _ _ Y ((ag.refl (λk=>k=w+2) W).grown l' (λk hk=>by cases hk));rw[Tq]at z w';have B:=bN z Z;go_loopg [] L.length (λg wr=>∃ (pre:ai aE) (f_:J),g=f_/\wr.ranges prog 43 pH b (w.heap.size+2) (jt L).length (.map es) (rm (.map es) pre) f_/\pre.length+f_<=L.length/\(∀ e∈pre,e∈L)/\(pre.Pairwise λp q=>p.k≠q.k)/\X pre wr/\w.heap.size+3<=wr.heap.size)
 case atStart=>exact⟨[],_,rfl,B.o.1,aM,aM,Pairwise.nil,B.o.2,I⟩
 obtain⟨pre,f_,a7,R,ajT,Q',g',fo,ajV⟩:=hrel;have f:=bN Q' (bx g' fo);go_wp2_with (at_next;refine wpList_next_ranges _ rfl _ rfl _ sO pH id id (λkey _ _=>⟨key,rfl⟩) (λv _ _=>⟨v,rfl⟩) b (w.heap.size+2) _ _ _ f_ rfl R ?_ ?_)
 .intro ajR sd;have vl:pre.Perm L:=by
   refine(perm_ext_iff_of_nodup (nodup_keys f.o.2.1) (nodup_keys (Ew C.o))).2 λe=>⟨f.o.1 e,λi=>?_⟩;have N:=aj1.o _ (gO.2 ⟨e,i,rfl⟩:(e.k,Value.agg e.bC.toArray)∈jt L);have ps:=sO.key (nM.law e.k N);have mv:Maps.has (.map es) (nM.lit e.k)=true:=Cr.2 ⟨_,(r.o.mem_iff.2 (gO.2 ⟨(e.k,.agg e.bC.toArray),gO.2 ⟨e,i,rfl⟩,rfl⟩)),Cj ps⟩;have h1:=sd (nM.lit e.k);unfold rm at h1;rw[mv,r_,Bool.not_eq_false',Cr]at h1;obtain⟨q,a,aA⟩:=h1;have Q:=f.o.1 q a;have lb:=mS.Bm sO N (aj1.o _ (gO.2 ⟨q,Q,rfl⟩:(q.k,Value.agg q.bC.toArray)∈jt L)) (Hk aA);rw[MR (Ew C.o) i Q lb];exact a
  refine aK;go_end0;exact⟨⟨_,rfl⟩,pre,f.o.2.2,vl⟩
 intro x bB ajX ajZ aj0 aF t m' m a_ H S ajU M zd h2;simp only[pH,jn,mM]at a_;obtain⟨rfl,rfl⟩:=a_;obtain⟨p,ao,rfl,P⟩:=atKey_mem (H .nil);obtain⟨q,a,rfl⟩:=gO.1 (r.o.mem_iff.1 ao);obtain⟨e,i,rfl⟩:=gO.1 a;simp only[He]at P;subst P;have K:∀ q∈pre,q.k≠e.k:=λq vs v'=>by
  unfold rm at m;simp only[e9,oS,Cq]at m;refine m.2 q vs ?_;rw[v'];exact Cj (sO.key (nM.law e.k (aj1.o _ a)))
 have T:aF.ranges prog 43 pH b (w.heap.size+2) (jt L).length (.map es) (rm (.map es) (pre++[e])) t:=by
  rw[<-ab8];exact S
 have ajW:w.heap.size+3<=aF.heap.size:=I;simp only[aE.bC]at h2⊢;have D:=u _ _ _ (u _ _ _ f.o.2.2 ((ag.refl (λk=>k=w+2) wr).grown M (λk hk=>.inl (by cases hk;rfl)))) ((ag.refl (λk=>k=w+2) aF).alloc (ab e 45));have j:=bN i (bx K (bx D (T.alloc (ab e 45))));clear zd M m' m S H ao a i K D T R;refine vv;have ajY:=aX (aP aF (ab e 45));have zp:w.heap.size+3<=(aF.alloc (ab e 45)).heap.size:=b_;generalize aF.alloc (ab e 45)=V at *;refine xT;obtain⟨fn,tmps,assign,body,a8,fr⟩:=gf pre e V V j.o.2.2.1 (ag.refl _ _) ⟨j.o.1,I⟩;simp only[aE.bC]at a8;gi_wp2;refine⟨rfl,fr.mono ?_⟩;rintro V' T' ⟨rfl,a',E⟩;have A:=bN a' (aeG j.o.2.2.2 E (λh=>h.elim G.1 a1) (λh=>h.elim G.2 a1));gi_wp2;go_wp2;go_roundg t
 case measure=>omega
 refine⟨pre++[e],t,rfl,A.o.2,by rw[cG,jG];omega,λq a=>?_,?_,A.o.1,(cu zp E.size)⟩
 .rcases gd.1 a with a|a
  .exact f.o.1 q a
  simp at a;subst a;exact j.o.1
 refine tg.2 ⟨f.o.2.1,HG _ _,λq a d hd=>?_⟩;simp at hd;subst hd;exact j.o.2.1 q a
end
section
open Go.RowKit Go.Maps
attribute [local go_sem] Oper.semAt_some
variable{w w':aj}
def cU(e:aE):a6 ay:=e
def vV(e:aE):(cU e).toList.all (λv=>v.oneCell')=true:=rfl
def uk(w:aj):(Instr.alloc 45 true (aV #[])).run prog w=.ok w (w.alloc (ab z9 45)):=bc
structure xU(w:aj)(pre:ai aE)(W:aj):ae where
 row:∃ v,W.heap[w.heap.size]?=some (ab #[v] 66 (0,0))/\W.ownsRow (w.heap.size+4) 45 9 v pre.length (b0 pre)
 bF:ag aH w W
 cK:w.heap.size+1<=W.heap.size
def xU.keep{T:J->ae}(h:xU w pre W)(hk:ag T W W')(s:∀ k,T k->w.heap.size<k/\k<w.heap.size+4):xU w pre W':=by
 have⟨v,h1,h2⟩:=h.row;exact⟨⟨v,hk.heap h1 (λe=>tt),b7 h2 hk (λb al e=>by have:=(h2.lt b al).1;have:=s _ e;omega)⟩,c1 h.bF hk (λk hk e=>tt),cu h.cK hk.size⟩
def Zf(gf:J)(lb:a6 ay)(fr:∀ args w,(callFunc gf args).run prog w=.ok (.enter gf args) w)(ajT:L.length<=1000)(mv:vN prog gf lb (λe:aE=>#[.agg (cU e)]) (λ_ pre x _=>x∈L/\pre.length<L.length) (λys _=>ys.Perm L) (λk=>k=w.heap.size\/w.heap.size+3<k) (λk=>k=w.heap.size+3) (w.alloc (ab #[au none 0 0] 66))):aB 120 #[au none 0 0,.func (.func gf) #[] lb] w λe w'=>∃ v ys,e=.returned v/\ys.Perm L/\w'.ownsRow (w.heap.size+4) 45 9 v ys.length (b0 ys)/\ag aH w w':=by
 obtain⟨i0,hd,zp,Q',Tq⟩:=yp;refine(h0 (n:=0)).1 ?_;refine callsIn_of_wp_marks func120 rfl trivial ?_ rfl;simp only[ntmps120,iw,eA,gN,Nat.reduceAdd,Nat.reduceSub,uR,uS,u',uW,p2,l5];gi_wp2_with (fail);have TS:ag aH w (w.alloc (ab #[au none 0 0] 66)):=(ag.refl _ w).alloc _;have T:=aP w (ab #[au none 0 0] 66);have r:(w.alloc (ab #[au none 0 0] 66)).heap.size=w.heap.size+1:=aM;generalize w.alloc (ab #[au none 0 0] 66)=bo at *
 refine GZ (gf:=gf) (lb:=lb) rfl fr (encs:=λe:aE=>#[.agg (cU e)]) (λ_=>rfl) _ _ (λk=>k=w.heap.size\/w.heap.size+3<k) (λk=>k=w.heap.size+3) mv
  (λys A B h _ _=>h) zH zH (λpre W=>xU w pre W) (λpre A B h i hk=>h.keep hk (λk hk=>by rw[r]at hk;omega))
  ⟨⟨_,T,il _ _ _ _⟩,TS,I⟩
  (λpre x a' W=>∃ Y,a'={tmps:=#[au none 0 0,.func (.func gf) #[] lb,bM w,undef,au none 0 0,bM Y,.func (.func gf) #[] lb,.agg (cU x),undef,undef,undef,undef,undef],defers:=[]}/\w.heap.size+3<=Y/\W.heap[Y]?=some (ab (cU x) 45 (0,0))/\pre.length<L.length/\xU w pre W)
  ?ass ?assign ?body ?done
 case ass=>
  exact Ty
 case assign=>
  intro l' pre x V' c K se X ajV ps s' i Z;have C:=X.keep ps a1;have E:=aP c (ab z9 45);obtain⟨zd,_,r'⟩:=dT (c.alloc (ab z9 45)) 45 9 c (cU x) _ sizeOf45 rfl rfl E (vV x);have fo:=fb (c.alloc (ab z9 45)) c _ (cU x) 45 E;have G:=c1 ((bd c).alloc (ab z9 45)) r' a1;generalize (c.alloc (ab z9 45)).setRow c (cU x)=W' at *;refine RT;refine B_ (uk c) rfl rfl ?_;refine B' (p:=(bM c)) (u:=.agg (cU x)) zd rfl rfl rfl rfl ?_;refine Hs ?_;exact Z _ _ ⟨c,rfl,I,fo,s'.2,C.keep G (λk hk=>hk.elim)⟩ (G.mono λ_ _ x=>x.elim)
 case body=>
  rintro l' pre x a' A se ⟨Y,rfl,s,g,ajU,C⟩ i;obtain⟨v,y,ar⟩:=C.row;have H:=fS (P:=prog) 45 9 Y 0 (cU x) _ _ isAgg45 sizeOf45 rfl g (λj u a=>km);have vl:=fJ.1 (vV x);have vs:b0 (pre++[x])=b0 pre++(cU x).toList:=by simp[b0,aE.bC,cU]
  have S:=kz y;have Q:=ad y;have T':=ad C;have F:=KO A (cU x) 45;have M:=ar.alloc (ab (cU x) 45);unfold cU at H F M;gi_wp2_with (first|(refine G0 H rfl rfl rfl ?_)|(gi_at_builtin;refine wpListIn_append_own _ rfl _ _ 66 rfl (w.heap.size+4) 45 i0 (aG z9) 9 72 underlying66 hd zp Q' Tq rfl bs _ _ _ rfl M (ah A 0) 1 1 (cU x).toList rfl rfl F vl qU I b_ ?_;intro v' aq d D _;have t:ag (λk=>k=w.heap.size\/w.heap.size+3<k) A aq:=((ag.refl _ A).alloc _).grown D (λk hk=>.inl (.inr (by have:=(ar.lt k hk).1;omega)));obtain⟨g',z,rfl⟩:=ownsRow_succ d;have h2:=(D.block w b_ (λe=>by have:=(ar.lt _ e.symm).1;omega)).trans (b2 Q.o _);have ajR:=kz h2;have ajS:=oU h2;have sd:=ad h2;clear h2 D));refine ajz;refine⟨m,⟨⟨au (bT g') (pre.length+1) z,CR,?_⟩,c1 N.bF m a1,cu N.cK m.size⟩⟩;rw[cG,jG,vs];exact ajw
 rintro ys W C V ajW f;obtain⟨v,y,ar⟩:=C.row;have S:=kz y;refine dU;have R:=ad V;refine o7;gi_wp2;refine Dw;have ao:=(ag.refl (λk=>k=bo) W).putObj (l:=bo.heap.size) rfl (.deferred none);refine⟨_,Cm rfl _ _ _,⟨_,ys,rfl,R.o,b7 ar ao (λb al h=>by have:=(ar.lt b al).1;omega),c1 m'.o.bF ao a1⟩⟩
end
def Lv:Go.Shelf.Ren:=⟨fun|6=>72|14=>121|15=>122|20=>179|21=>180|22=>181|23=>182|24=>183|25=>184|26=>185|27=>186|28=>187|29=>188|46=>253|47=>254|48=>255|49=>256|50=>257|57=>308|n=>n,fun|0=>0|3=>3|4=>4|5=>5|9=>9|22=>66|24=>45|25=>135|39=>227|45=>316|46=>317|50=>287|53=>22|55=>217|66=>379|70=>383|76=>436|77=>437|n=>n,fun|n=>n⟩
def ZF:SlLaysF0.n6 prog Lv:={
 mixed:=bc
 f6:=⟨f72.name,bs,func72.trans (c6 some bc)⟩
 f14:=⟨f121.name,bs,func121.trans (c6 some bc)⟩
 f15:=func122.trans (c6 some bc)
 f20:=⟨f179.name,bs,func179.trans (c6 some bc)⟩
 f21:=⟨f180.name,bs,func180.trans (c6 some bc)⟩
 f22:=⟨f181.name,bs,func181.trans (c6 some bc)⟩
 f23:=⟨f182.name,bs,func182.trans (c6 some bc)⟩
 f24:=⟨f183.name,bs,func183.trans (c6 some bc)⟩
 f25:=⟨f184.name,bs,func184.trans (c6 some bc)⟩
 f26:=⟨f185.name,bs,func185.trans (c6 some bc)⟩
 f27:=⟨f186.name,bs,func186.trans (c6 some bc)⟩
 f28:=func187.trans (c6 some bc)
 f29:=func188.trans (c6 some bc)
 f46:=⟨f253.name,bs,func253.trans (c6 some bc)⟩
 f47:=func254.trans (c6 some bc)
 f48:=func255.trans (c6 some bc)
 f49:=⟨f256.name,bs,func256.trans (c6 some bc)⟩
 f50:=⟨f257.name,bs,func257.trans (c6 some bc)⟩
 f57:=⟨f308.name,bs,func308.trans (c6 some bc)⟩
 t0:=underlying0
 a0:=isAgg0
 z0:=sizeOf0
 v0:=zeroValue0
 t3:=underlying3
 a3:=isAgg3
 z3:=sizeOf3
 v3:=zeroValue3
 t4:=underlying4
 a4:=isAgg4
 z4:=sizeOf4
 v4:=zeroValue4
 t5:=underlying5
 a5:=isAgg5
 z5:=sizeOf5
 v5:=zeroValue5
 t9:=underlying9
 a9:=isAgg9
 z9:=sizeOf9
 v9:=zeroValue9
 t22:=underlying66
 a22:=isAgg66
 z22:=sizeOf66
 v22:=zeroValue66
 t25:=underlying135
 a25:=isAgg135
 z25:=sizeOf135
 v25:=zeroValue135
 t39:=underlying227
 a39:=isAgg227
 z39:=sizeOf227
 v39:=zeroValue227
 t45:=underlying316
 a45:=isAgg316
 z45:=sizeOf316
 v45:=zeroValue316
 t46:=underlying317
 a46:=isAgg317
 z46:=sizeOf317
 v46:=zeroValue317
 t50:=underlying287
 a50:=isAgg287
 z50:=sizeOf287
 v50:=zeroValue287
 t53:=underlying22
 a53:=isAgg22
 z53:=sizeOf22
 v53:=zeroValue22
 t55:=underlying217
 a55:=isAgg217
 z55:=sizeOf217
 v55:=zeroValue217
 t66:=underlying379
 a66:=isAgg379
 z66:=sizeOf379
 v66:=zeroValue379
 t70:=underlying383
 a70:=isAgg383
 z70:=sizeOf383
 v70:=zeroValue383
 t76:=underlying436
 a76:=isAgg436
 z76:=sizeOf436
 v76:=zeroValue436
 t77:=underlying437
 a77:=isAgg437
 z77:=sizeOf437
 v77:=zeroValue437}
section
variable{α:Type}[Inhabited α]{enc:α->ai ay}{k:J}
omit [Inhabited α]in
def wb(hk:∀ x,(enc x).length=k)(l:List α):(l.flatMap enc).length=l.length*k:=by
 induction l with
 | nil=>simp
 | cons c l a=>rw[jY,uY,hk,a,qP,k5,r4]
omit [Inhabited α]in
def AT(hk:∀ x,(enc x).length=k)(l:List α)(i:J)(h:i<l.length)(j:J)(b:j<k):(l.flatMap enc)[i*k+j]?=(enc l[i])[j]?:=by
 induction l generalizing i with
 | nil=>cases h
 | cons c l a=>
  rw[jY];cases i with
  | zero=>rw[zu,vc,jF (by rw[hk];exact b)];rfl
  | succ i=>
   rw[l6 (by rw[hk,k5];omega),hk,k5,show i*k+k+j-k=i*k+j by omega];exact DS
def LI(hk:∀ x,(enc x).length=k)(l:List α):flatK enc k l.toArray=(l.flatMap enc).toArray:=by
 refine ext_get! (by rw[size_flatK,iw,iw,wb hk]) λt aW=>?_;have a:t<l.length*k:=by simpa using aW
 rw[get_flatK _ _ _ _ (by simpa using a)];have g:0<k:=by
  rcases tk k with h|h
  .subst h;simp at a
  exact h
 have av:=QC (by rw[o4];exact a);have b:t%k<k:=gb _ g;have h2:=AT hk l (t / k) av (t%k) b;have e:t / k*k+t%k=t:=by rw[o4];exact r5 t k
 rw[e]at h2;have f:l.toArray[t / k]! = l[t / k]:=by rw[l9 _ _ (by simpa using av)];rfl
 have c:t%k<(enc l[t / k]).length:=by rw[hk];exact b
 have d:t<(l.flatMap enc).length:=by rw[wb hk];exact a
 rw[f,l9 (enc l[t / k]) (t%k) c,l9 (l.flatMap enc).toArray t d,getElem_toArray];rw[gW d,gW c]at h2;exact(l8 h2).symm
def abn{base n:J}{e:TypeId}{v:ay}(hk:∀ x,(enc x).length=k)(cb:List α)(h:w.ownsRow base e k v n (cb.flatMap enc))(i:cb.length=n)(a_:v≠au none 0 0):∃ g cap,v=au (bT g) n cap/\base<=g/\g<w.heap.size/\HoldsK enc k w g 0 cb.toArray:=by
 rcases h.2 with⟨f,_⟩|⟨g,cap,d,rfl,al,a7,aw,hm,aA,aW⟩
 .exact absurd f a_
 refine⟨g,cap,rfl,al,bZ a7,?_⟩;unfold HoldsK;rw[LI hk];intro j b;have c:j<n*k:=by rw[<-i,<-wb hk];simpa using b
 refine⟨?_,by simp[World.frozen?,a7]⟩;have a:(d.toList.take (n*k))[j]?=(cb.flatMap enc)[j]?:=by rw[aW]
 rw[xf,aD c,ny]at a;simp only[World.cell?,a7,gM];simp only[r6,za,if_false];rw[a]
 have:j<(cb.flatMap enc).length:=by simpa using b
 simp[l9,this,-length_flatMap]
def adM{base n g cap q:J}{e:TypeId}{os:Array Obj}(hk:∀ x,(enc x).length=k){cb ys:List α}(h:w.ownsRow base e k (au (bT g) n cap) n (cb.flatMap enc))(a8:ys.length=n):(sortWorldK enc k w g 0 q ys.toArray os).ownsRow base e k (au (bT g) n cap) n (ys.flatMap enc)/\ag (λj=>j=g) w (sortWorldK enc k w g 0 q ys.toArray os):=by
 rcases h.2 with⟨b,_⟩|⟨g',m,a,b,al,a7,aw,hm,aA,aW⟩
 .cases b
 refine UL;have f:=wb hk ys;unfold sortWorldK putRowK;rw[LI hk];refine⟨⟨by rw[f,a8],.inr ⟨g,cap,putCells id 0 (ys.flatMap enc).toArray a,rfl,al,?_,aw,hm,by simpa[putCells]using aA,?_⟩⟩,rfl,rfl,rfl,?_,?_⟩
 .rw[heap_grow_old _ _ (by simpa[putRow,mapBlock,Sort.ahead]using(bZ a7))];simp[putRow,mapBlock,Sort.ahead,Ha,a7,onCells]
 .have p:(ys.flatMap enc).length=n*k:=by rw[f,a8]
  have o:n*k<=a.size:=by rw[aA];exact vb k aw
  apply ext_getElem?;intro j;by_cases d:j<n*k
  .rw[getElem?_take_of_lt d,ny];simp only[putCells,Array.getElem?_mapIdx,uQ (show j<a.size by omega),r7];rw[aD (by simp only[iw];omega),gW I];simp[l9,show j<(ys.flatMap enc).length by omega,-length_flatMap]
  rw[getElem?_take_eq_none I,uX I]
 .simp[putRow,mapBlock,Sort.ahead]
 intro j d hne;rw[heap_grow_old _ _ (by simpa[putRow,mapBlock,Sort.ahead]using d)]
 have:g≠j:=λe=>hne e.symm
 simp[putRow,mapBlock,Sort.ahead,Ha,this]
end
def lF(w w':aj):ae:=∃ q os,w'=grow (w.drewN q) os
def lF.refl(w:aj):lF w w:=⟨0,#[],by rw[grow_empty];rfl⟩
def lF.trans{a b c:aj}(h:lF a b)(k:lF b c):lF a c:=by
 obtain⟨q,os,rfl⟩:=h;obtain⟨e,d,rfl⟩:=k;refine⟨q+e,os++d,?_⟩;show grow (grow ((a.drewN q).drewN e) os) d=_;rw[grow_grow]
 congr 1
 simp[jZ]
theorem lF.alloc{a b:aj}(h:lF a b)(o:Obj):lF a (b.alloc o):=h.trans ⟨0,#[o],by rw[alloc_eq_grow];rfl⟩
theorem lF.drewN{a b:aj}(h:lF a b)(n:J):lF a (b.drewN n):=h.trans ⟨n,#[],by rw[grow_empty]⟩
def Zg(a b:dD)(w:aj):aB 48 #[aG a,aG b] w λe w'=>e=aa (ez a b)/\lF w w':=by
 have D:(w.alloc (ab a 43)).heap.size=w.heap.size+1:=aM;have N:=aP (w.alloc (ab a 43)) (ab b 43);refine ed;have iQ:=ad (((lF.refl w).alloc (ab a 43)).alloc (ab b 43));have f:=ad (b2 (aP w (ab a 43)) (ab b 43));refine UN;have d:=aX N;refine Ws;refine(KT (b:=aq.heap.size) [dK a.fr b.fr,dK a.em b.em,dK a.bq b.bq,dK a.cv b.cv] aM λi av=>?_).mono ?_
 .have c:i=0\/i=1\/i=2\/i=3:=by simp at av;omega
  rcases c with rfl|rfl|rfl|rfl<;>exact bb (aP (aq.drewN nq) (ab #[aa (dK a.fr b.fr),aa (dK a.em b.em),aa (dK a.bq b.bq),aa (dK a.cv b.cv)] 3)) rfl
 refine mN;refine fB;exact⟨rfl,((iQ.out.drewN nq).alloc (ab #[aa (dK a.fr b.fr),aa (dK a.em b.em),aa (dK a.bq b.bq),aa (dK a.cv b.cv)] 3))⟩
def ach(a b:aE)(w:aj):aB 47 #[aG a,aG b] w λr w'=>r=aa (ez a.k b.k)/\lF w w':=by
 have cp:=((lF.refl w).alloc (ab a 45)).alloc (ab b 45);refine W1;refine aS (Zg a.k b.k aq) λaF d=>?_;have al:=cp.trans d;exact xJ
section
open Go.RowKit Go.Shelf Go.Sort
variable{w w':aj}
section
variable{P:Program}{α:Type}{enc:α->ai ay}{k base n cap g:J}{T:TypeId}{cb:List α}
def we(hk:∀ x,(enc x).length=k)(i:J)(av:i<cb.length):cb.flatMap enc=(cb.take i).flatMap enc++enc cb[i]++(cb.drop (i+1)).flatMap enc/\((cb.take i).flatMap enc).length=i*k:=by
 constructor
 .have e:cb=cb.take i++cb[i] :: cb.drop (i+1):=by rw[<-qO av,n_]
  refine(c6 (flatMap enc) e).trans ?_;rw[td,jY,eh]
 rw[wb hk,h3,o3 I]
def AU(i:J)(av:i<cb.length)(x:α):(cb.set i x).flatMap enc=(cb.take i).flatMap enc++enc x++(cb.drop (i+1)).flatMap enc:=by
 rw[set_eq_take_append_cons_drop,aD av];simp[td,jY]
def Pg{n k:J}(A M B R X:ai ay)(a:A.length=n)(b:M.length=k)(c:X.length=k):((A++M++B++R).take n++X++(A++M++B++R).drop (n+k)).take (n+k+B.length)=A++X++B:=by
 have h1:(A++M++B++R).take n=A:=by rw[eh,eh,ti a]
 have h2:(A++M++B++R).drop (n+k)=B++R:=by rw[eh (A++M),zk (by rw[cG,a,b])]
 rw[h1,h2,<-eh,ti (by simp only[cG];omega)]
def rI(h:w.ownsRow base T k (au (bT g) n cap) n (cb.flatMap enc)):∃ a rest,w.heap[g]?=some (ab a T (0,0))/\a.toList=cb.flatMap enc++rest/\base<=g/\n<=cap/\cap<=maxLen/\a.size=cap*k:=by
 rcases h.2 with⟨b,_⟩|⟨g',d,a,b,al,a7,aw,hm,aA,aW⟩
 .cases b
 refine UL;exact⟨a,a.toList.drop (n*k),a7,by rw[<-aW,n_],al,aw,hm,aA⟩
def rJ(hk:∀ x,(enc x).length=k)(bg:∀ w,(isAgg T).run P w=.ok true w)(d:∀ w,(Go.sizeOf T).run P w=.ok k w)(h:w.ownsRow base T k (au (bT g) n cap) n (cb.flatMap enc))(i:J)(av:i<cb.length):(Instr.loadAt T (.pointer (dk g (i*k)))).run P w=.ok (.agg (enc cb[i]).toArray) w:=by
 have⟨b,rest,a7,an,_⟩:=rI h;refine fS T k g (i*k) (enc cb[i]).toArray b T bg d (by simpa using hk _) a7 λj v c=>?_;rw[<-ny,an];have⟨h1,h2⟩:=we hk i av;rw[h1,eh,eh,l6 I,h2,xi];have a:(enc cb[i])[j]?=some v:=by simpa using c
 rw[jF (ir.1 a).1];exact a
def BL(hk:∀ x,(enc x).length=k)(h1:∀ x,∀ v∈enc x,v.oneCell'=true)(d:∀ w,(Go.sizeOf T).run P w=.ok k w)(h:w.ownsRow base T k (au (bT g) n cap) n (cb.flatMap enc))(i:J)(av:i<cb.length)(x:α):∃ w',(Instr.storeAt T (.pointer (dk g (i*k))) (.agg (enc x).toArray)).run P w=.ok () w'/\w'.ownsRow base T k (au (bT g) n cap) n ((cb.set i x).flatMap enc)/\ag (λj=>j=g) w w':=by
 have⟨a,rest,a7,b,al,aw,hm,aA⟩:=rI h;have⟨s1,s2⟩:=we (enc:=enc) hk i av;have e:a.size=i*k+k+((cb.drop (i+1)).flatMap enc).length+rest.length:=by
  exact Wi
 refine⟨_,(rK (P:=P) T k g (i*k) (enc x).toArray a T d (by simpa using hk x) a7 I (by simpa using h1 x)),?_,jw w g _⟩;have c:n*k=i*k+k+((cb.drop (i+1)).flatMap enc).length:=by rw[<-h.1,s1];simp only[cG,s2,hk]
 refine⟨by rw[AU i av];simp only[cG,s2,hk];exact c.symm,.inr ⟨g,cap,_,rfl,al,fb w g a _ T a7,aw,hm,by rw[(y1 a (i*k) (enc x).toArray (by simp only[iw,hk];omega))];exact aA,?_⟩⟩;unfold fz;rw[AU i av,b,s1,c];simp only[iw,hk];exact Pg _ _ _ _ _ s2 (hk _) (hk _)
def BK{TS:TypeId}{z:ay}(hk:∀ x,(enc x).length=k)(p:P.underlying TS=some (.slice T))(a_:∀ w,(zeroValue T).run P w=.ok z w)(q:z.cells.size=k)(h1:∀ v∈z.cells.toList,v.oneCell'=true)(h:w.ownsRow base T k (au (bT g) n cap) n (cb.flatMap enc))(i:J)(av:i<cb.length)(s:cb.length=n):∃ w',(∀ (ty:TypeId) (c:J),(Builtin.clear_ #[TS] ty #[au (dk g (i*k)) (n-i) c]).run P w=.ok (aV #[]) w')/\w'.ownsRow base T k (au (bT g) i cap) i ((cb.take i).flatMap enc)/\ag (λj=>j=g) w w':=by
 have⟨a,rest,a7,an,al,aw,hm,aA⟩:=rI h;have⟨s1,s2⟩:=we (enc:=enc) hk i av;have f:(Builtin.zeroCells z.cells (n-i)).toList.length=(n-i)*k:=by simp[Builtin.zeroCells,q]
 have o:∀ v∈(Builtin.zeroCells z.cells (n-i)).toList,v.oneCell'=true:=by
  intro v a_;simp only[Builtin.zeroCells,Array.toList_map,gO]at a_;obtain⟨t,aW,rfl⟩:=a_;have mo:t<(n-i)*z.cells.size:=by simpa using aW
  have ao:0<z.cells.size:=by
   rcases tk z.cells.size with e|e
   .rw[e,Nat.mul_zero]at mo;omega
   exact e
  have hm:=gb t ao;rw[l9 z.cells (t%z.cells.size) hm];exact h1 _ (by rw[Array.mem_toList_iff];exact Array.getElem_mem hm)
 have l:i*k+0+(n-i)*k<=a.size:=by
  have h1:i*k+(n-i)*k=n*k:=by rw[<-HI];congr 1;omega
  have h2:=vb k aw;omega
 have d:=Hr (P:=P) g (i*k) T (Builtin.zeroCells z.cells (n-i)).toList 0 a w a7 (by rw[f];exact l) o;obtain⟨cs,b⟩:=c8 (a.toList.take (i*k+0)++(Builtin.zeroCells z.cells (n-i)).toList++a.toList.drop (i*k+0+(Builtin.zeroCells z.cells (n-i)).toList.length)).toArray;rw[<-b]at d;refine⟨w.setRow g cs,λty c=>?_,⟨by rw[s2],.inr ⟨g,cap,cs,rfl,al,fb w g a cs T a7,I,hm,?_,?_⟩⟩,jw w g cs⟩
 .obtain⟨m,hm⟩:∃ m,n-i=m+1:=⟨n-i-1,I⟩;rw[hm]at d⊢;simp[Builtin.clear_,tb p,a_,d]
 .rw[<-aA,b];simp only[iw,cG,h3,iv,r9,f];omega
 have r:i*k<=a.toList.length:=by rw[r9];omega
 rw[b];simp only[tj];rw[eh,CH (by rw[h3];omega),take_take,Nat.min_self,an,s1,eh,eh,ti s2]
end
section
variable{P:Program}{o:Oper}{a:Act}{Q:Exit->Act->aj->ae}{ops:a6 Oper}{rest:ai Oper}
def G4(hrun:(Builtin.clear_ #[t] o.type #[mv]).run P w=.ok (aV #[]) w')(a7:o.guard=none)(ar:o.op=Op.call {callee:=Callee.builtin Builtin.clear,args:=#[m],argTypes:=#[t]})(hm:a.eval m=mv)(h:wpList P ops Q rest (a.put o.dst (aV #[])) w'):wpList P ops Q (o :: rest) a w:=by
 refine oV a7 λla b=>?_;unfold Oper.wp;simp[execOp,ar,resolve,invoke,builtin,hm,hrun,Result.andThen];exact b _ _ h
end
structure mb{α:Type}(q:α->aY)(xs ys:List α)(i j:J):ae where
 len:ys.length=xs.length
 bt:ys.take i=(xs.take j).filter q
 av:ys.drop j=xs.drop j
 lt:i<j
 le:j<=xs.length
namespace mb
variable{α:Type}{q:α->aY}{xs ys:List α}{i j:J}
def start{i:J}(av:i<xs.length)(h1:q xs[i]=false)(h2:∀ j (b:j<xs.length),j<i->q xs[j]=true):mb q xs xs i (i+1):=by
 refine⟨rfl,?_,rfl,I,I⟩;rw[l7 av,rZ,oX (by simp[h1]),Cv,gq];refine(pZ.2 λa bg=>?_).symm;obtain⟨t,aW,rfl⟩:=zo.1 bg;rw[h3]at aW;rw[getElem_take];exact h2 t I I
def at'(h:mb q xs ys i j)(a:j<xs.length):ys[j]'(by rw[h.len];exact a)=xs[j]:=by
 have h1:=c6 head? h.av;rw[head?_drop,head?_drop,gW a,gW (by rw[h.len];exact a)]at h1;exact l8 h1
def skip(h:mb q xs ys i j)(a:j<xs.length)(h1:q xs[j]=false):mb q xs ys i (j+1):=by
 refine⟨h.len,?_,?_,by have:=h.lt;omega,a⟩
 .rw[h.bt,l7 a,rZ,oX (by simp[h1]),Cv,gq]
 rw[<-n5,<-n5,h.av]
def keep(h:mb q xs ys i j)(a:j<xs.length)(h1:q xs[j]=true):mb q xs (ys.set i xs[j]) (i+1) (j+1):=by
 have b:=h.lt;have av:i<ys.length:=by rw[h.len];omega
 refine⟨by rw[r3];exact h.len,?_,?_,I,a⟩
 .rw[l7 (by rw[r3];exact av),Cz,take_set_of_le (dm i),h.bt,l7 a,rZ,r0 h1,Cv]
 rw[drop_set_of_lt I,<-n5,<-n5,h.av]
def done(h:mb q xs ys i xs.length):ys.take i=xs.filter q:=by rw[h.bt,qS]
def count(h:mb q xs ys i xs.length):(xs.filter q).length=i:=by
 rw[<-h.done,h3,h.len]
 have:=h.lt
 omega
end mb
end
def GR(x:aE):(aE.bC x).length=9:=rfl
def PO:∀ x:aE,∀ v∈aE.bC x,v.oneCell'=true:=λx v a_=>tS [x] v (by rw[vY];exact a_)
def Yj:SWO (ltOf λa b:aE=>ez a.k b.k):=by
 have h:∀ a b:aE,ltOf (λa b:aE=>ez a.k b.k) a b=true↔lT a.k b.k:=λa b=>by
  exact decide_eq_true_iff.trans (mh a.k b.k)
 have d:∀ a b:aE,ltOf (λa b:aE=>ez a.k b.k) a b=false↔¬ lT a.k b.k:=λa b=>by rw[<-h,Hd]
 refine⟨λx=>(d _ _).2 (qw x.k),λx y z h1 h2=>(h _ _).2 (sQ ((h _ _).1 h1) ((h _ _).1 h2)),λx y z h1 h2=>?_⟩;have h2:=(d _ _).1 h2;refine(d _ _).2 λc=>?_;rcases yz x.k y.k with e|e|e
 .exact((d _ _).1 h1) e
 .rw[e]at c;exact h2 c
 rcases yz y.k z.k with f|f|f
 .exact h2 f
 .rw[f]at e;exact qw _ (sQ e c)
 exact qw _ (sQ (sQ c f) e)
def Xv{xs ys:ai aE}(ao:xs.Perm ys)(h1:gh xs)(h2:gh ys):xs=ys:=by
 induction xs generalizing ys with
 | nil=>exact(nil_perm.1 ao).symm
 | cons a l i=>
  cases ys with
  | nil=>exact absurd ao.length_eq nA
  | cons b m=>
   have⟨c,d⟩:=k4.1 h1;have⟨bS,g⟩:=k4.1 h2;have h:a=b:=by
    rcases fW.1 (ao.mem_iff.1 (o0))with e|e
    .exact e
    rcases fW.1 (ao.mem_iff.2 (o0))with f|f
    .exact f.symm
    exact absurd (sQ (c b f) (bS a e)) (qw _)
   subst h;rw[i (Perm.cons_inv ao) d g]
def ahk{ys:List aE}{d:Array aE}(hd:ys.Pairwise λa b=>a.k≠b.k)(ao:PermIn 0 ys.toArray.size ys.toArray d)(aA:SortedIn (ltOf λa b:aE=>ez a.k b.k) 0 ys.toArray.size d):d.toList.Perm ys/\gh d.toList:=by
 have f:d.size=ys.length:=by simpa using ao.1
 have m:d.toList.Perm ys:=by
  have h:=ao.2.2;rw[show ys.toArray.size=d.size by simpa using f.symm,Qk]at h;rw[show d.size=ys.toArray.size by simpa using f,Qk]at h;simpa using h
 refine⟨m,?_⟩;have g:=hd.perm m.symm (λh=>h4 h);unfold gh;rw[u_]at g⊢;intro i j av c l;have h1:=aA i j (c3 _) l (by simpa[f]using c);have h2:=g i j av c l;have o:i<d.size:=by simpa using av
 have p:j<d.size:=by simpa using c
 rw[l9 d i o,l9 d j p]at h1;have n:¬ lT d[j].k d[i].k:=λh=>by
  exact CL h1 ((mh _ _).2 h)
 simp only[Array.getElem_toList]at h2⊢;rcases yz d[i].k d[j].k with e|e|e
 .exact e
 .exact absurd e h2
 exact absurd e n
def Zw{base:J}{v:ay}(ys:List aE)(c:w.ownsRow base 45 9 v ys.length (b0 ys))(aw:ys.length<=4096)(hd:ys.Pairwise λa b=>a.k≠b.k):aB 72 #[v,.func (.func 47) #[] #[]] w λe w'=>e=aV #[]/\∃ cb:List aE,cb.Perm ys/\gh cb/\w'.ownsRow base 45 9 v cb.length (b0 cb)/\ag (λj=>v.ownBlock=some j) w w':=by
 by_cases a_:v=au none 0 0
 .subst a_;have⟨A,cap,s,_,_⟩:=dA c;have o:ys=[]:=by
   injection s with _ h2 _
   exact p0.1 h2.symm
  subst o;refine bJ (Zv _ w) ?_;exact⟨rfl,[],Cp _,Pairwise.nil,c,ag.refl _ _⟩
 obtain⟨g,cap,rfl,al,t,p⟩:=abn (enc:=aE.bC) GR ys c rfl a_
 have h:=AnyQ.slices_SortFunc (P:=prog) (ρ:=Lv) ZF 9 isAgg45 sizeOf45 aE.bC GR PO (λa b=>ez a.k b.k) Yj 47 #[] g 0 cap ys.toArray w (enters_of func47 bc rfl)
  (λm os z _ x y=>(ach x y _).mono λr aF ⟨h1,q,u,h2⟩=>⟨h1,q,u,h2⟩) p t b_
 refine(h.mono ?_);rintro e aF ⟨rfl,d,n,os,ao,aA,rfl⟩;obtain⟨l,bg⟩:=ahk hd ao aA;have i:=l.length_eq;have f:=adM (enc:=aE.bC) (k:=9) (q:=n) (os:=os) GR c i;refine⟨rfl,d.toList,l,bg,by rw[i];exact f.1,?_⟩
 have:ag (λj=>j=g) w (sortWorldK aE.bC 9 w g 0 n d os):=f.2
 exact this.mono λj _ e=>by rw[e];rfl
def MX{dM iq:J}{m dz:U}{aT:aY}(hd:w.heap[b]?=some (ab #[aa m,.map (some dM),.map (some iq),aa dz,.bool aT] 118 (0,0)))(c:gv w nM dM (jt L))(bg:gh L)(d:L.length<=1000):aB 23 #[b] w λe w'=>∃ v,e=.returned v/\w'.ownsRow w 45 9 v L.length (b0 L)/\ag aH w w':=by
 have d1:=aX hd;have B:=c.lt;have f:ag aH w (w.alloc (ab #[.map (some dM)] 115)):=(ag.refl _ w).alloc _;have p:∀ (m:J) (W:aj),aB 46 #[.map (some m)] W λe w'=>e=.returned (.func (.func 73) #[] #[W.heap.size])/\W.alloc (ab #[.map (some m)] 115)=w':=by
  intro m W;exact er
 have C:(w.alloc (ab #[.map (some dM)] 115)).heap.size=w.heap.size+1:=aM;have n:=c.keeps f id;have r:vN prog 73 #[w.heap.size] (λe:aE=>#[.agg (cU e)]) (λ_ pre x _=>x∈L/\pre.length<L.length) (λys _=>ys.Perm L) (λk=>k=(w.alloc (ab #[.map (some dM)] 115)).heap.size\/(w.alloc (ab #[.map (some dM)] 115)).heap.size+3<k) (λk=>k=(w.alloc (ab #[.map (some dM)] 115)).heap.size+3) ((w.alloc (ab #[.map (some dM)] 115)).alloc (ab #[au none 0 0] 66)):=by
  have g:=(bd (w.alloc (ab #[.map (some dM)] 115))).alloc (ab #[au none 0 0] 66);have h:=ac1 (n.keeps g id) (g.cell (bb (k:=0) (aP w (ab #[.map (some dM)] 115)) rfl) id) (λk=>k=(w.alloc (ab #[.map (some dM)] 115)).heap.size\/(w.alloc (ab #[.map (some dM)] 115)).heap.size+3<k) ⟨I,aM⟩;have e:((w.alloc (ab #[.map (some dM)] 115)).alloc (ab #[au none 0 0] 66)).heap.size+2=(w.alloc (ab #[.map (some dM)] 115)).heap.size+3:=aM;rw[e]at h;exact h
 have l:=Zf 73 #[w.heap.size] (enters_of func73 bc rfl) d r;have i:=ad (Ew c.q_);generalize z:w.alloc (ab #[.map (some dM)] 115)=bo at *;have aU:aB 71 #[.func (.func 73) #[] #[w.heap.size]] bo λe w'=>∃ v ys,e=.returned v/\ys.Perm L/\w'.ownsRow (bo.heap.size+4) 45 9 v ys.length (b0 ys)/\ag aH bo w':=by
  refine cg;refine l.mono ?_;rintro e aq ⟨v,ys,rfl,ao,ar,hk⟩;have a:=bN ao (bx ar hk);refine o7;refine fB;exact⟨_,ys,rfl,a.o⟩
 have ax:aB 45 #[.func (.func 73) #[] #[w.heap.size],.func (.func 47) #[] #[]] bo λe w'=>∃ v,e=.returned v/\w'.ownsRow (bo.heap.size+4) 45 9 v L.length (b0 L)/\ag aH bo w':=by
  refine cg;refine aU.mono ?_;rintro e aq ⟨v,ys,rfl,ao,ar,hk⟩;have t:ys.length<=4096:=by rw[ao.length_eq];have:=d;omega
  have a:=bN ao (bx ar hk);refine o7;refine aK;refine aS ((Zw ys ar t (i.o.perm ao.symm (λh=>h4 h)))) ?_;rintro aF ⟨cb,y,q,u,s⟩;obtain rfl:=Xv (y.trans a.o.1) q bg;have j:=bN u (c1 a.o.2.2 s (λk hk e=>by have:=(a.o.2.1.lt k e).1;omega));refine fB;exact⟨_,rfl,j.o⟩
 go_in
 go_wp2_with fail;refine bJ (p _ _) ?_;rw[z];go_wp2_with fail;refine ax.mono ?_;rintro e aF ⟨v,rfl,ar,hk⟩;have a:=bN ar hk;obtain⟨A,cap,rfl,_,_⟩:=dA ar;go_wp2;go_ret;exact⟨_,rfl,ku a.o.1 I,f.trans a.o.2⟩
def Zk{base:J}{v:ay}{xs:ai aE}(h:w.ownsRow base 45 9 v xs.length (b0 xs))(aw:xs.length<=1000)(p:aE->aY)(g:J)(lb:a6 ay)(m:∀ args w,(callFunc g args).run prog w=.ok (.enter g args) w)(ao:D3 g lb p w):aB 339 #[v,.func (.func g) #[] lb] w λe w'=>Below w w w'/\((e=aa (-1)/\∀ x∈xs,p x=false)\/∃ i,∃ av:i<xs.length,e=aa i/\p xs[i]=true/\∀ j (a:j<xs.length),j<i->p xs[j]=false):=by
 rcases h.2 with⟨rfl,B⟩|⟨b,cap,C,rfl,a7,aT,an,hm,aA,aW⟩
 .exact V5
 refine xD;refine(AnyQ.slices_IndexFunc (P:=prog) (ρ:=ED) {Lt with} 9 isAgg45 sizeOf45 aE.bC (λ_=>rfl) p g lb m b 0 xs.length cap xs w ao bu I (bZ aT) (λj a i u c=>?_)).mono ?_
 .refine RO
  rwa [l9 xs j a]at c
 exact H9
def af_(W:aj):(zeroValue 45).run prog W=.ok (aG z9) W:=bc
def W_(w:aj)(base:J)(v:ay)(ys:ai aE)(e:Ending)(w':aj):ae:=
 ∃ v',e=.returned v'/\w'.ownsRow base 45 9 v' ys.length (b0 ys)/\ag (λj=>v.ownBlock=some j) w w'/\v'.ownBlock=v.ownBlock
def Zi{base:J}{v:ay}{xs:ai aE}(h:w.ownsRow base 45 9 v xs.length (b0 xs))(aw:xs.length<=1000)(p:aE->aY)(g:J)(lb:a6 ay)(v':∀ args w,(callFunc g args).run prog w=.ok (.enter g args) w)(ao:∀ W,ag (λj=>v.ownBlock=some j) w W->∀ x:aE,Calls prog g (#[.agg x.bC.toArray]++lb) W λe W'=>e=.returned (.bool (p x))/\Below W W W'):aB 340 #[v,.func (.func g) #[] lb] w (W_ w base v (xs.filter λx=>!p x)):=by
 have r':=Zk h aw p g lb v' (λW x al=>(ao W (ag.bU al a1) x).mono λ_ _ h=>⟨h.1,al.trans (h.2.mono al.size)⟩);have C:=ad r';have hd:=ad ao;have ps:=ad h;clear r' ao;rcases h.2 with⟨rfl,B⟩|⟨r,cap,cur,rfl,a7,aT,an,hm,aA,aW⟩
 .exact VG
 refine Wx;rcases h1 with⟨rfl,t⟩|⟨l,gf,rfl,T,t⟩
 .exact WV
 refine W3;go_loopg [5,6,7] xs.length (λh7 zp jz _ wr=>∃ (i j:J) (ys:ai aE),zp=aa i/\jz=aa j/\xs.length-j<=h7/\mb (λx=>!p x) xs ys i j/\wr.ownsRow base 45 9 (au (bT r) xs.length cap) xs.length (b0 ys)/\ag (λj=>(au (bT r) xs.length cap).ownBlock=some j) w wr)
 case atStart=>exact⟨l,l+1,xs,rfl,cT,I,z.o⟩
 refine Ik;by_cases K:j<xs.length
 .have m:=rJ (P:=prog) (enc:=aE.bC) (λ_=>rfl) isAgg45 sizeOf45 s j I;rw[f.at' K]at m;have e2:=uk wr;have Q:=aP wr (ab z9 45);obtain⟨d,ajS,Z⟩:=dT (wr.alloc (ab z9 45)) 45 9 wr (cU xs[j]) _ sizeOf45 rfl rfl Q (vV xs[j]);have D:=fb (wr.alloc (ab z9 45)) wr _ (cU xs[j]) 45 Q;have N:=c1 ((bd wr).alloc (ab z9 45)) Z a1;generalize (wr.alloc (ab z9 45)).setRow wr (cU xs[j])=h2 at *;refine Il;have E:=fS (P:=prog) 45 9 wr 0 (cU xs[j]) _ _ isAgg45 sizeOf45 rfl D (λj u a=>km);refine Wr;cases F:p y with
  | false=>
   go_wp2_with first|refine dg m rfl rfl rfl ?_|refine eL e2 rfl rfl ?_|refine c' d rfl rfl rfl rfl ?_|(go_at_fn g;refine X.o.mono ?_;rintro e m' ⟨rfl,n⟩;rw[F];have b:=ag.bU (S:=aH) n a1;have se:=b.heap mv.o id;have sd:=b7 A.o.2 b (λ_ _=>id);obtain⟨Q',zd,c,k⟩:=BL (P:=prog) (enc:=aE.bC) (λ_=>rfl) PO sizeOf45 sd i I y;have w':=fS (P:=prog) 45 9 wr 0 (cU y) _ _ isAgg45 sizeOf45 rfl se (λj u a=>H5);have q:=ad (bx c ((A.o.1.trans (b.mono λ_ _ x=>x.elim)).trans (k.mono λ_ _ x=>by rw[x];rfl)));clear c k sd se b n)|refine dg w' rfl rfl rfl ?_|refine dg E rfl rfl rfl ?_|refine c' zd rfl rfl rfl rfl ?_
   exact Jo
  | true=>
   exact Jr
 refine IH;obtain⟨Q',a',c,k⟩:=BK (P:=prog) (TS:=66) (enc:=aE.bC) (λ_=>rfl) underlying66 af_ rfl bs s i I g';exact Vc
section
open Go.RowKit Go.Shelf Go.Maps
variable{w w':aj}
structure cR where
 most:U
 bl:ai aE
 b8:U->ai aE
 aO:U
 hd:aY
structure fX where
 b:J
 dM:J
 iq:J
 M:ai (U×ay)
def qs(B:fX)(s:cR):a6 ay:=#[aa s.most,.map (some B.dM),.map (some B.iq),aa s.aO,.bool s.hd]
def Ap(w:aj)(M:ai (U×ay))(T:U->ai aE):ae:=
 ∀ x,match je M x with
  | some v=>w.ownsRow 0 45 9 v (T x).length (b0 (T x))
  | none=>T x=[]
structure da(w:aj)(B:fX)(s:cR):ae where
 hT:w.heap[B.b]?=some (ab (qs B s) 118 (0,0))
 bl:gv w nM B.dM (jt s.bl)
 eV:gh s.bl
 n:(s.bl.length:U)<=s.most/\s.most<=256
 b8:gv w tZ B.iq B.M/\Ap w B.M s.b8/\∀ p∈B.M,0<=p.1/\p.1<=1000000
 bj:∀ x,fk x (s.b8 x)
 ne:B.dM≠B.iq
 dz:-1<=s.aO/\s.aO<=1000000
def so(w:aj)(B:fX)(j:J):ae:=j≠B.b/\j≠B.dM/\j≠B.iq/\∀ a,w.heap[j]?≠some (ab a 45 (0,0))
def NA{base n:J}{v:ay}(h:w.ownsRow base 45 9 v n l){j:J}(b:v.ownBlock=some j):∃ a,w.heap[j]?=some (ab a 45 (0,0)):=by
 rcases h.2 with⟨rfl,_⟩|⟨g,cap,a,rfl,_,aT,_⟩
 .cases b
 cases b;exact⟨a,aT⟩
def GD{T:U->ai aE}{S:J->ae}(h:Ap w M T)(hk:ag S w w')(ax:∀ j,S j->∀ a,w.heap[j]?≠some (ab a 45 (0,0))):Ap w' M T:=by
 intro x;have ak:=h x;cases b:je M x with
 | none=>rw[b]at ak;exact ak
 | some v=>
  rw[b]at ak;exact b7 ak hk λj c aA=>by
   obtain⟨a,an⟩:=NA ak c;exact ax j aA a an
def qC{P:Program}{k:TypeId}{C:mS P k ei}{M:ai (ei×ay)}(h:gv w C b M)(a:a6 ay)(t:TypeId)(z:J×J):w.heap[b]?≠some (ab a t z):=by
 have⟨es,⟨d,c,al,_⟩,_⟩:=h.own;rw[al];simp
namespace da
variable{B:fX}{s:cR}
def keep{T:J->ae}(h:da w B s)(hk:ag T w w')(a:∀ j,T j->so w B j):da w' B s:=by
 obtain⟨h1,h2,b⟩:=h.b8;exact⟨hk.heap h.hT λe=>(a _ e).1 rfl,h.bl.keeps hk λe=>(a _ e).2.1 rfl,h.eV,h.n,⟨h1.keeps hk λe=>(a _ e).2.2.1 rfl,GD h2 hk λj c=>(a j c).2.2.2,b⟩,h.bj,h.ne,h.dz⟩
def lP(h:da w B s)(hk:ag aH w w'):da w' B s:=h.keep hk λ_ e=>e.elim
def Ku(h:da w B s):B.b≠B.dM:=λe=>qC h.bl _ _ _ (e▸h.hT)
def Kv(h:da w B s):B.b≠B.iq:=λe=>by
 exact qC h.b8.1 _ _ _ (e▸h.hT)
def cf(h:da w B s):s.bl.length<=256:=by have:=h.n;omega
def OZ{s':cR}(h:da w B s)(k:w'.heap[B.b]?=some (ab (qs B s') 118 (0,0)))(hk:ag (λj=>j=B.b) w w')(a:s'.bl=s.bl)(c:s'.b8=s.b8)(d:s'.most=s.most)(f:-1<=s'.aO/\s'.aO<=1000000):da w' B s':=by
 have⟨h1,h2,g⟩:=h.b8;refine⟨k,by rw[a];exact h.bl.keeps hk λe=>h.Ku e.symm,by rw[a];exact h.eV,by rw[a,d];exact h.n,⟨h1.keeps hk λe=>h.Kv e.symm,?_,g⟩,by rw[c];exact h.bj,h.ne,f⟩;rw[c];refine GD h2 hk λj i l an=>?_;subst i;rw[h.hT]at an;simp only[jn,Hg]at an;exact absurd an.2.1 bs
def Gk(h:da w B s)(b:gv w' nM B.dM (jt L))(hk:ag (λj=>j=B.dM) w w')(bg:gh L)(aw:(L.length:U)<=s.most):da w' B {s with bl:=L}:=by
 have⟨h1,h2,a⟩:=h.b8;refine⟨hk.heap h.hT λe=>h.Ku e,b,bg,⟨aw,h.n.2⟩,⟨h1.keeps hk λe=>h.ne e.symm,?_,a⟩,h.bj,h.ne,h.dz⟩;refine GD h2 hk λj c d an=>?_;subst c;exact qC h.bl _ _ _ an
theorem O1{T:U->ai aE}(h:da w B s)(a:gv w' tZ B.iq M)(hk:ag (λj=>j=B.iq) w w')(b:Ap w' M T)(c:∀ p∈M,0<=p.1/\p.1<=1000000)(ao:∀ x,fk x (T x)):da w' {B with M:=M} {s with b8:=T}:=
 ⟨hk.heap h.hT λe=>h.Kv e,h.bl.keeps hk λe=>h.ne e,h.eV,h.n,⟨a,b,c⟩,ao,h.ne,h.dz⟩
def _root_.Go.Proofs.YtalagblioepadaaGreatDoor.fX.S(B:fX)(j:Nat):Prop:=j=B.b\/j=B.dM\/j=B.iq\/∃ p∈B.M,p.2.ownBlock=some j
theorem keeps{T:J->ae}(h:da w B s)(hk:ag T w w')(a:∀ j,B.S j->¬ T j):da w' B s:=by
 obtain⟨h1,h2,b⟩:=h.b8;refine⟨hk.heap h.hT (a _ (.inl rfl)),h.bl.keeps hk (a _ (.inr (.inl rfl))),h.eV,h.n,⟨h1.keeps hk (a _ (.inr (.inr (.inl rfl)))),λx=>?_,b⟩,h.bj,h.ne,h.dz⟩;have N:=h2 x;cases D:je B.M x with
 | none=>rw[D]at N;exact N
 | some v=>
  refine ed;refine b7 N hk λj c=>a j (.inr (.inr (.inr ?_)));obtain⟨p,ao,rfl⟩:=Option.map_eq_some_iff.1 D;exact⟨p,CB ao,c⟩
def row(h:da w B s){p:U×ay}(ao:p∈B.M):w.ownsRow 0 45 9 p.2 (s.b8 p.1).length (b0 (s.b8 p.1)):=by
 have ak:=h.b8.2.1 p.1;rw[h.b8.1.EJ ao]at ak;exact ak
theorem lt(h:da w B s){j:J}(a:B.S j):j<w.heap.size:=by
 rcases a with e|e|e|⟨p,ao,e⟩
 .rw[e];exact bZ h.hT
 .rw[e];exact h.bl.lt
 .rw[e];exact h.b8.1.lt
 exact((h.row ao).lt j e).2
end da
def hV(L:ai aE)(f:U):ai aE:=L.filter λe=>!decide (e.k.fr≠f)
def ack(e:aE)(f:U)(B:J)(a:w.cell? (ah B 0)=some (aa f)):aB 341 #[aG e,B] w λr w'=>r=.returned (.bool (decide (e.k.fr≠f)))/\Below w w w':=by
 exact U7
def acm{B:fX}{s:cR}(h:da w B s)(f:U):aB 317 #[B.b,aa f] w λe w'=>∃ v,e=.returned v/\w'.ownsRow w 45 9 v (hV s.bl f).length (b0 (hV s.bl f))/\ag aH w w':=by
 have l:ag aH w (w.alloc (ab #[aa f] 3)):=(ag.refl _ w).alloc _;have h1:=h.lP l;have z:(w.alloc (ab #[aa f] 3)).heap.size=w.heap.size+1:=aM;have aw:=h.cf;have C:=ad (MX h1.hT h1.bl h1.eV I);have p:=ad (bb (k:=0) (aP w (ab #[aa f] 3)) rfl);refine cg;generalize w.alloc (ab #[aa f] 3)=aF at *;refine I8;have y:∀ j,v.ownBlock=some j->j≠w.heap.size:=λj a e=>by have:=(ar.lt j a).1;omega
 have d:=(Zi ar I (λe=>decide (e.k.fr≠f)) 341 #[w.heap.size] (enters_of func341 bc rfl) (λW q x=>ack x f w (q.cell (i.cell p.o id) (λe=>y _ e rfl))));rw[show(s.bl.filter λx=>!decide (x.k.fr≠f))=hV s.bl f from rfl]at d;have r:∀ j,v.ownBlock=some j->aF.heap.size<=j:=λj a=>(ar.lt j a).1;refine o7;have c:=bN r i;refine aK;refine d.mono ?_;rintro e br ⟨v',rfl,g,t,_⟩;have u:=l.trans (c1 c.o.2 t (λk i e=>by have:=c.o.1 k e;omega));have n:=bN (ku g (show w.heap.size<=aF.heap.size by omega)) u;obtain⟨cV,m,rfl,_,_⟩:=dA g;refine fB;exact⟨au cV _ m,rfl,n.o⟩
end
def acn(e:aE)(f:U)(B:J)(a:w.cell? (ah B 0)=some (aa f)):aB 314 #[aG e,B] w λr w'=>r=.returned (.bool (decide (e.k.fr≠f)))/\Below w w w':=by
 exact U7
def aci{B:fX}{s:cR}(h:da w B s)(aT:s.hd=false){now:U}{xs:ai aE}{base:J}{v:ay}(a_:w.ownsRow base 45 9 v xs.length (b0 xs))(ao:fk fr xs)(aw:fr<=now/\now<=1000000)(an:s.aO<fr):aB 273 #[B.b,aG #[aa fr,v],aa now] w λe w'=>e=aa 0/\ag aH w w':=by
 have i:ag aH w (w.alloc (ab #[aa fr,v] 271)):=(ag.refl _ w).alloc _;have l:=b7 a_ i (λ_ _=>id);have j:=aP w (ab #[aa fr,v] 271);have c:=i.heap h.hT id;unfold qs at c;rw[aT]at c;have n:=aX c;have D:=aX j;have r:xs.any (λe=>decide (e.k.fr≠fr))=false:=by
  rw[Cq];intro e u;simp[(ao.2.2 e u).2]
 have a:=bN j (bx c i);have m:=ad ao.2.1;obtain⟨A,cap,rfl,_,_⟩:=dA a_
 go_in
 go_wp2_with fail;generalize w.alloc _=aq at *;refine aS (Zr ao l) λaF f=>?_;have C:=b7 l f (λ_ _=>id);have d:=f.heap a.o.1 id;have aU:=EB C (by have:=m.o;omega) (λe=>decide (e.k.fr≠fr)) 314 #[w.heap.size] (enters_of func314 bc rfl) (λW x al=>(acn x fr w (by have:=oT aF (ah w 0) (bb (k:=0) d rfl);exact(al.cell (p:=ah w 0) this).trans (bb (k:=0) d rfl))).mono λ_ _ h=>⟨h.1,al.trans (h.2.mono al.size)⟩);rw[r]at aU;have E:=aX d;go_wp2_with fail;refine aS aU λbr t=>?_;have g:=f.trans (ag.bU (S:=aH) t a1);have q:=g.heap a.o.1 id;have z:=g.heap a.o.2.1 id;have n:=aX z;have D:=aX q;go_wp2;go_quiet (fail);have y:=(a.o.2.2.trans g).drewN nq;go_wp2;go_ret;exact⟨rfl,y⟩
def Cb{P:Program}{o:Oper}{a:Act}{Q:Exit->Act->aj->ae}{ops:a6 Oper}{rest:ai Oper}{w w':aj}{v p:ay}{T:TypeId}(hrun:(Instr.loadAt T p).run P w=.ok v w')(b:Region.wanted o (yielded ops a.tmps)=true)(ar:o.op=.load T x)(ak:a.eval x=p)(h:wpList P ops Q rest (a.put o.dst v) w'):wpList P ops Q (o :: rest) a w:=by
 unfold wpList;rw[aD b];exact .inl (Qa ar ak hrun h)
def aaI:prog.eqGuardType prog.depth 43=false:=bc
def Mc:prog.eqGuardType prog.depth 45=false:=bc
def A_(a7:prog.eqGuardType prog.depth t=false)(x y:Operand)(c d:a6 ay)(w:aj):(eqGuard .eql t x y (.agg c) (.agg d)).run prog w=.ok () w:=by
 simp[iO,jm,go_sem,a7]
def Cc{P:Program}{o:Oper}{a:Act}{Q:Exit->Act->aj->ae}{ops:a6 Oper}{rest:ai Oper}{w w':aj}{v:ay}{T c:TypeId}{b:BinOp}(a7:(eqGuard b T x y kk y7).run P w=.ok () w)(hrun:(binOp b T kk y7).run P w=.ok v w')(d:Region.wanted o (yielded ops a.tmps)=true)(ar:o.op=.binOp b T x y c)(ak:a.eval x=kk)(a8:a.eval y=y7)(h:wpList P ops Q rest (a.put o.dst v) w'):wpList P ops Q (o :: rest) a w:=by
 unfold wpList;rw[aD d];refine .inl ?_;unfold Oper.wp execOp;simp only[ar,ak,a8,iO,a7,hrun,iu,jm];exact h
def Ex(a b:dD)(w:aj):(binOp .eql 43 (aG a) (aG b)).run prog w=.ok (.bool (decide (a=b))) w:=by
 have h:decide (a=b)=(a.fr == b.fr&&(a.em == b.em&&(a.bq == b.bq&&a.cv == b.cv))):=by
  refine IT;rw[Cf];simp
 rw[h];simp[go_sem]
 repeat' split
 all_goals simp_all
def Ll(e o:aE)(w:aj):(binOp .eql 45 (aG e) (aG o)).run prog w=.ok (.bool (decide (e=o))) w:=by
 have h:decide (e=o)=(e.k.fr == o.k.fr&&(e.k.em == o.k.em&&(e.k.bq == o.k.bq&&(e.k.cv == o.k.cv&&(e.df == o.df&&(e.eb == o.eb&&(e.hq == o.hq&&(e.eP == o.eP&&e.le == o.le)))))))):=by
  have⟨⟨a,b,c,d⟩,f,g,i,j,l⟩:=e;have⟨⟨bS,m,n,p⟩,q,r,s,t,u⟩:=o;rw[Cf];simp[and_assoc]
 rw[h];simp[go_sem]
 repeat' split
 all_goals simp_all
def acj(e o:aE)(w:aj):aB 319 #[aG e,aG o] w λr w'=>r=.returned (.bool (e.df == o.df&&e.le == o.le))/\Below w w w':=by
 have cp:=((b9 w w).alloc bu (ab e 45)).alloc aM (ab o 45);refine Dt;have a:=b2 (aP w (ab e 45)) (ab o 45);have N:=aP (w.alloc (ab e 45)) (ab o 45);refine ed;cases h1:(e.df == o.df)with
 | false=>
  exact TO
 | true=>
  exact TO
def w2(o e:aE):aY:=decide (e.k=o.k)&&(e.df == o.df&&e.le == o.le)
def acp(e o:aE)(B:J)(b:w.heap[B]?=some (ab o 45 (0,0))):aB 318 #[aG e,B] w λr w'=>r=.returned (.bool (w2 o e))/\Below w w w':=by
 refine Dk;have c:=aX (b2 b (ab e 45));have a:=ad (Ex e.k o.k);have C:w2 o e=(decide (e.k=o.k)&&(e.df == o.df&&e.le == o.le)):=rfl;refine dU;cases hd:decide (e.k=o.k)with
 | false=>
  refine Sq;go_ret;exact⟨by rw[m'.o,hd];rfl,cp⟩
 | true=>
  refine Sq;refine aS (acj e o aq) λaF al=>?_;generalize (e.df == o.df&&e.le == o.le)=r at *;refine fB;exact⟨by rw[m'.o,hd];rfl,(cp.trans (al.mono cp.size))⟩
structure cq where
 bq:U
 cL:aE
 eC:U
 pl:aY
deriving DecidableEq
def dL(c:cq):a6 ay:=#[aa c.bq,aa c.cL.k.fr,aa c.cL.k.em,aa c.cL.k.bq,aa c.cL.k.cv,aa c.cL.df,aa c.cL.eb,aa c.cL.hq,aa c.cL.eP,aa c.cL.le,aa c.eC,.bool c.pl]
def cq.bC(c:cq):ai ay:=(dL c).toList
def eY(l:ai cq):ai ay:=l.flatMap cq.bC
def sD(c:cq):(dL c).toList.all (λv=>v.oneCell')=true:=rfl
def Ye:∀ c:cq,∀ v∈c.bC,v.oneCell'=true:=λc=>fJ.1 (sD c)
def Yd(l:ai cq)(c:cq):eY (l++[c])=eY l++(dL c).toList:=by simp[eY,cq.bC]
def Oz(e:aE)(w:aj):(Instr.build 47 #[(0,aa 3),(1,.agg (cU e))]).run prog w=.ok (.agg (dL ⟨3,e,0,false⟩)) w:=bc
def afW(e:aE)(w:aj):(Instr.build 47 #[(0,aa 2),(1,.agg (cU e))]).run prog w=.ok (.agg (dL ⟨2,e,0,false⟩)) w:=bc
def afV(e:aE)(n:U)(w:aj):(Instr.build 47 #[(0,aa 1),(1,.agg (cU e)),(2,aa n)]).run prog w=.ok (.agg (dL ⟨1,e,n,false⟩)) w:=bc
def afQ(e:aE)(p:aY)(w:aj):(Instr.build 47 #[(0,aa 4),(1,.agg (cU e)),(3,.bool p)]).run prog w=.ok (.agg (dL ⟨4,e,0,p⟩)) w:=bc
def BO(c:cq)(W:aj):(Instr.buildSlice 32 1 #[(0,.agg (dL c))]).run prog W=.ok (au (bT W) 1 1) (W.alloc (ab (dL c) 47)):=bc
def Fl:∃ i z,prog.info? 47=some i/\i.zero=some z/\i.size=12/\i.bytes=96/\z.cells.size=12:=by
 have h:(prog.info? 47).map (λi=>(i.zero.map λz=>z.cells.size,i.size,i.bytes))=some (some 12,12,96):=bc;cases aT:prog.info? 47 with
 | none=>rw[aT]at h;cases h
 | some i=>
  refine II;cases a:i.zero with
  | none=>rw[a]at h;cases h.1
  | some z=>rw[a]at h;exact⟨i,z,rfl,a,h.2.1,h.2.2,C6⟩
def Ax{base:J}{v:ay}{cs:ai cq}(ty:TypeId)(f:w.ownsRow base 47 12 v cs.length (eY cs))(aw:cs.length<=10000)(al:base<=w.heap.size)(c:cq):∃ v' aq,(Builtin.append_ #[32,32] ty #[v,au (bT w) 1 1]).run prog (w.alloc (ab (dL c) 47))=.ok v' aq/\aq.ownsRow base 47 12 v' (cs++[c]).length (eY (cs++[c]))/\ag (λj=>v.ownBlock=some j) w aq/\(∃ A n cap,v'=au A n cap):=by
 have⟨i,z,av,h,h1,h2,a⟩:=Fl
 obtain⟨v',aq,g,ar,a7,_,_⟩:=uU (P:=prog) (w.alloc (ab (dL c) 47)) base 32 ty 47 i z 12 96 underlying32 av h h1 h2 a bs v cs.length (eY cs) (f.alloc _) (ah w 0) 1 1 (dL c).toList rfl
  (λj u d=>by
   rw[iB,gM];exact bb (aP w (ab (dL c) 47)) xr) (Ye c) k6 I b_
 refine⟨v',aq,g,?_,((ag.refl _ w).alloc _).grown a7 (λj e=>.inl e),?_⟩
 .rw[Yd,cG,jG];exact ar
 have⟨A,cap,b,_⟩:=dA ar;exact⟨A,_,cap,b⟩
section
variable{P:Program}{o:Oper}{a:Act}{Q:Exit->Act->aj->ae}{ops:a6 Oper}{rest:ai Oper}{v:ay}
def rU(hrun:(Builtin.append_ #[t,t] o.type #[kk,y7]).run P w=.ok v w')(a7:o.guard=none)(ar:o.op=Op.call {callee:=Callee.builtin Builtin.append,args:=#[x,y],argTypes:=#[t,t]})(ak:a.eval x=kk)(a8:a.eval y=y7)(h:wpList P ops Q rest (a.put o.dst v) w'):wpList P ops Q (o :: rest) a w:=by
 refine oV a7 λla b=>?_;unfold Oper.wp;simp[execOp,ar,resolve,invoke,builtin,ak,a8,hrun,Result.andThen];exact b _ _ h
def s_{n:J}(hrun:(Instr.buildSlice t n #[(0,u)]).run P w=.ok v w')(a7:o.guard=none)(ar:o.op=.buildSlice t n #[(0,x)])(ak:a.eval x=u)(h:wpList P ops Q rest (a.put o.dst v) w'):wpList P ops Q (o :: rest) a w:=by
 refine oV a7 λla b=>?_;unfold Oper.wp execOp;simp only[ar,map_toArray,nz,qQ,ak,iO,hrun,iu,jm];exact b _ _ h
end
section
variable{P:Program}{o:Oper}{a:Act}{K:Act->aj->ae}{Q:Exit->Act->aj->ae}
def ai'{b:TypeId}(ar:o.op=Op.call {callee:=Callee.builtin Builtin.delete,args:=#[m,x],argTypes:=#[t,b]})(hm:a.eval m=mv)(ak:a.eval x=key)(hrun:(Builtin.delete_ #[t,b] o.type #[mv,key]).run P w=.ok (aV #[]) w')(h:K (a.put o.dst (aV #[])) w'):o.wp P a w K Q:=by
 unfold Oper.wp;simp[execOp,ar,resolve,invoke,builtin,hm,ak,hrun,Result.andThen];exact h
end
def stays(xs:ai aE)(o:aE):aY:=xs.any (w2 o)
def hS(xs ys:ai aE):ai aE:=ys.filter λo=>!stays xs o
def jN(xs ys:ai aE):ai cq:=(hS xs ys).map λo=>⟨3,o,0,false⟩
def jd(L G:ai aE):ai aE:=L.filter λe=>!decide (∃ g∈G,g.k=e.k)
def YU(L:ai aE):jd L []=L:=by
 exact pZ.2 λ_ _=>aM
def YW(L G:ai aE)(o:aE):jd L (G++[o])=jd (jd L G) [o]:=by
 unfold jd;rw[filter_filter];refine zl λe _=>?_;rw[Cf];simp only[oS,tn,e9,gd,kD];constructor
 .intro h;exact⟨λ⟨g,h1,h2⟩=>h ⟨g,.inr h1,h2⟩,λ⟨g,h1,h2⟩=>h ⟨g,.inl h1,h2⟩⟩
 rintro⟨h1,h2⟩ ⟨g,a|a,b⟩
 .exact h2 ⟨g,a,b⟩
 exact h1 ⟨g,a,b⟩
def YV(L:ai aE)(o:aE):mj (jt L) o.k=jt (jd L [o]):=by
 unfold mj jt jd;rw[tc]
 congr 1
 refine zl λe _=>?_;simp[eq_comm]
def tP(L G:ai aE):(jd L G).Sublist L:=HD
def yb(h:gh L)(G:ai aE):gh (jd L G):=h.sublist (tP L G)
def Mh(xs pre:ai aE)(o:aE):hS xs (pre++[o])=hS xs pre++(if stays xs o then []else [o]):=by
 unfold hS;rw[rZ];cases h:stays xs o<;>simp[h]
def da.Pr{B:fX}{s:cR}(h:da w B s)(o:aE)(ar:hW o.k=true)(ty:TypeId):∃ w',(Builtin.delete_ #[115,43] ty #[.map (some B.dM),aG o.k]).run prog w=.ok (aV #[]) w'/\da w' B {s with bl:=jd s.bl [o]}/\ag (λj=>j=B.dM) w w':=by
 have⟨w',h1,h2,a⟩:=h.bl.drop sO (x:=o.k) ar underlying115 ty;rw[YV]at h2;refine⟨w',h1,h.Gk h2 a (yb h.eV _) ?_,a⟩
 have:=(tP s.bl [o]).length_le
 have:=h.n
 omega
def x9(w:aj)(e:aE):∃ w',(Instr.storeAt 45 w (.agg (cU e))).run prog (w.alloc (ab z9 45))=.ok () w'/\w'.heap[w.heap.size]?=some (ab (cU e) 45 (0,0))/\ag aH w w'/\w'.heap.size=w.heap.size+1:=by
 have a:=aP w (ab z9 45);obtain⟨c,d,b⟩:=dT (w.alloc (ab z9 45)) 45 9 w (cU e) _ sizeOf45 rfl rfl a (vV e);refine⟨_,c,fb (w.alloc (ab z9 45)) w _ (cU e) 45 a,c1 ((bd w).alloc (ab z9 45)) b a1,?_⟩;simp[World.setRow]
theorem lo(h:w.heap[b]?=some (ab (cU e) 45 (0,0))):(Instr.loadAt 45 b).run prog w=.ok (.agg (cU e)) w:=
 fS (P:=prog) 45 9 b 0 (cU e) _ _ isAgg45 sizeOf45 rfl h (λj u a=>km)
structure o'(w:aj)(B:fX)(s:cR)(xs ys:ai aE)(fr:U)(v v2:ay)(pre:ai aE)(cM:ay)(W:aj):ae where
 out:W.ownsRow (w.heap.size+1) 47 12 cM (jN xs pre).length (eY (jN xs pre))
 ld:da W B {s with bl:=jd s.bl (hS xs pre)}
 bF:ag (λj=>j=B.dM) w W
 bj:W.heap[w.heap.size]?=some (ab #[aa fr,v] 271 (0,0))
 rx:∃ base,W.ownsRow base 45 9 v xs.length (b0 xs)
 wT:W.ownsRow (w.heap.size+1) 45 9 v2 ys.length (b0 ys)
 cK:w.heap.size+1<=W.heap.size
def o'.keep{B:fX}{s:cR}{xs ys:ai aE}{v:ay}(h:o' w B s xs ys fr v v2 pre cM W)(hk:ag aH W W'):o' w B s xs ys fr v v2 pre cM W':=by
 have⟨base,ak⟩:=h.rx;exact⟨b7 h.out hk (λ_ _=>id),h.ld.lP hk,h.bF.trans (hk.mono λ_ _ x=>x.elim),hk.heap h.bj id,⟨base,b7 ak hk (λ_ _=>id)⟩,b7 h.wT hk (λ_ _=>id),cu h.cK hk.size⟩
def nQ{base n k:J}{T:TypeId}{v:ay}{P:Program}{c:TypeId}{C:mS P c ei}{M:ai (ei×ay)}(h:w.ownsRow base T k v n l)(hm:gv w C b M){j:J}(a:v.ownBlock=some j):j≠b:=by
 rcases h.2 with⟨rfl,_⟩|⟨g,cap,d,rfl,_,aT,_⟩
 .cases a
 cases a;intro e;subst e;exact qC hm _ _ _ aT
def da.free{B:fX}{s:cR}(h:da w B s){j:J}{b:a6 ay}{T:TypeId}{z:J×J}(D:w.heap[j]?=some (ab b T z))(d:T≠45)(h2:T≠118):so w B j:=by
 refine⟨λe=>?_,λe=>?_,λe=>?_,λbB a=>?_⟩
 .subst e;have N:=h.hT;refine ed;simp only[jn,Hg]at N;exact h2 N.2.1
 .subst e;exact qC h.bl _ _ _ D
 .subst e;exact qC h.b8.1 _ _ _ D
 rw[D]at a;exact ID
def da.sM{B:fX}{s:cR}(h:da w B s){base n k:J}{T:TypeId}{v:ay}(ar:w.ownsRow base T k v n l)(h1:T≠45)(h2:T≠118){j:J}(a:v.ownBlock=some j):so w B j:=by
 rcases ar.2 with⟨rfl,_⟩|⟨g,cap,b,rfl,_,aT,_⟩
 .cases a
 cases a;exact h.free aT h1 h2
def o'.skip{B:fX}{s:cR}{xs ys:ai aE}{v:ay}(h:o' w B s xs ys fr v v2 pre cM W){o:aE}(ar:stays xs o=true):o' w B s xs ys fr v v2 (pre++[o]) cM W:=by
 have e:hS xs (pre++[o])=hS xs pre:=by rw[Mh,ar];simp
 have a:jN xs (pre++[o])=jN xs pre:=by unfold jN;rw[e]
 exact⟨by rw[a];exact h.out,by rw[e];exact h.ld,h.bF,h.bj,h.rx,h.wT,h.cK⟩
def o'.step{B:fX}{s:cR}{xs ys:ai aE}{v:ay}(h:o' w B s xs ys fr v v2 pre cM W){o:aE}(ar:stays xs o=false)(E:hW o.k=true)(aw:pre.length<=256)(ty t:TypeId):∃ b f g,(Builtin.delete_ #[115,43] ty #[.map (some B.dM),aG o.k]).run prog W=.ok (aV #[]) b/\ag (λj=>j=B.dM) W b/\
   (Builtin.append_ #[32,32] t #[cM,au (bT b) 1 1]).run prog (b.alloc (ab (dL ⟨3,o,0,false⟩) 47))=.ok f g/\(∃ A n cap,f=au A n cap)/\o' w B s xs ys fr v v2 (pre++[o]) f g:=by
 have⟨b,y,m,c⟩:=h.ld.Pr o E ty;have e:hS xs (pre++[o])=hS xs pre++[o]:=by rw[Mh,ar];simp
 have u:jN xs (pre++[o])=jN xs pre++[⟨3,o,0,false⟩]:=by unfold jN;rw[e,k3];rfl
 have i:=h.ld.bl;have D:w.heap.size≠B.dM:=λe=>qC i _ _ _ (e▸h.bj);have⟨base,ak⟩:=h.rx;have l:=b7 h.out c (λj a e=>nQ h.out i a e);have G:(jN xs pre).length<=256:=by
  have:=oZ (λo=>!stays xs o) pre
  unfold jN hS;rw[iP];omega
 have H:=c.size;have⟨f,g,x,C,d,F⟩:=Ax t l I (by have:=h.cK;omega) ⟨3,o,0,false⟩;refine⟨b,f,g,y,c,x,F,?_⟩;have p:∀ j,cM.ownBlock=some j->w.heap.size+1<=j:=λj a=>(h.out.lt j a).1;have z:∀ j,cM.ownBlock=some j->so b B j:=λj a=>m.sM l bs bs a;have q:=b7 ak c (λj a e=>nQ ak i a e);have r:=b7 h.wT c (λj a e=>nQ h.wT i a e);refine⟨by rw[u];exact C,by rw[e,YW];exact m.keep d z,c1 (h.bF.trans c) d (λj a e=>by have:=p j e;omega),d.heap (c.heap h.bj D) (λe=>by have:=p _ e;omega),⟨base,b7 q d (λj a e=>sV l q bs e a)⟩,b7 r d (λj a e=>sV l r bs e a),by have:=h.cK;have:=d.size;omega⟩
def nR{base n cap k:J}{T:TypeId}(h:w.ownsRow base T k (au A n cap) n l)(aw:0<n):∃ g,A=some (eo g 0 db):=by
 rcases h.2 with⟨e,b⟩|⟨g,bB,a,e,_⟩
 .omega
 cases e;exact⟨g,rfl⟩
def Jv(w:aj)(B:fX)(s:cR)(xs:ai aE)(fr:U)(e:Ending)(w':aj):ae:=
 ∃ cM,e=.returned cM/\w'.ownsRow w.heap.size 47 12 cM (jN xs (hV s.bl fr)).length (eY (jN xs (hV s.bl fr)))/\da w' B {s with bl:=jd s.bl (hS xs (hV s.bl fr))}/\ag (λj=>j=B.dM) w w'
def acg{B:fX}{s:cR}(h:da w B s){xs:ai aE}{base:J}{v:ay}(a_:w.ownsRow base 45 9 v xs.length (b0 xs))(aw:xs.length<=1000)(g':∀ e∈s.bl,hW e.k=true):aB 274 #[B.b,aG #[aa fr,v]] w (Jv w B s xs fr):=by
 have p:ag aH w (w.alloc (ab #[aa fr,v] 271)):=(ag.refl _ w).alloc _;have l':=b7 a_ p (λ_ _=>id);have G:=aP w (ab #[aa fr,v] 271);have h1:=h.lP p;have ajZ:(w.alloc (ab #[aa fr,v] 271)).heap.size=w.heap.size+1:=aM;have ajS:=aX G;have C:=ad (acm h1 fr);have ajR:(hV s.bl fr).length<=256:=cu (oZ _ _) h.cf;have hd:∀ o∈hV s.bl fr,hW o.k=true:=λo Tq=>g' o (hN.1 Tq).1;have d:=bN h1 (bx l' (bx G (bx p (bx hd aw))));have zp:=ad (h.bl.lt);obtain⟨ys,m⟩:=c8 (hV s.bl fr);obtain⟨A,cap,rfl,_,_⟩:=dA a_;have a':∀ e w',Jv w B s xs fr e w'↔(∃ cM,e=.returned cM/\w'.ownsRow w 47 12 cM (jN xs ys).length (eY (jN xs ys))/\da w' B {s with bl:=jd s.bl (hS xs ys)}/\ag (λj=>j=B.dM) w w'):=λe w'=>by rw[m];rfl
 have vs:=ad a';rw[<-m]at C ajR;have v':=ad m;clear h h1 a_ l' G p hd aw g' m a'
 go_in
 go_wp2_with fail;generalize w.alloc _=aq at *;clear ajS;refine C.o.mono ?_;rintro e ajU ⟨v2,rfl,L,i⟩;have M:o' w B s xs ys fr (au A xs.length cap) v2 [] (au none 0 0) ajU:=by
  refine⟨il _ _ _ _,?_,(d.o.2.2.2.1.trans i).mono (λ_ _ x=>x.elim),i.heap d.o.2.2.1 id,⟨base,b7 d.o.2.1 i (λ_ _=>id)⟩,ku L I,by have:=i.size;omega⟩;have e:hS xs []=[]:=rfl;rw[e,YU];exact d.o.1.lP i
 obtain⟨se,Q',rfl,_,_⟩:=dA L;have N:=ad M;clear L i M C;go_wp2_with fail;go_loopg [5,14] ys.length (λg cM z wr=>∃ pre rest:ai aE,ys=pre++rest/\g=rest.length/\z=aa pre.length/\(∃ A n cap,cM=au A n cap)/\o' w B s xs ys fr (au A xs.length cap) (au se ys.length Q') pre cM wr)
 case atStart=>exact⟨[],ys,rfl,rfl,rfl,⟨_,_,_,rfl⟩,N.o⟩
 refine IJ;cases rest with
 | nil=>
  have ajX:¬ (pre.length:U)<(ys.length:U):=by rw[ak];simp
  have r':ys=pre:=by rw[ak,gq]
  have y:=ad f;have Hx:=ad r';clear ak r' f;refine aK;go_ret;refine(vs.o _ _).2 ⟨au u no co,rfl,?_⟩;rw[Hx.o];exact⟨ku y.o.out I,y.o.ld,y.o.bF⟩
 | cons o rest=>
  have W':pre.length<ys.length:=by rw[ak];simp
  have ajY:(pre.length:U)<(ys.length:U):=I;have X:ys[pre.length]=o:=by simp[ak]
  have gf:hW o.k=true:=d.o.2.2.2.2.1 o (by rw[<-v'.o,ak];simp);have Z:pre.length<=256:=I;have ps:ys=(pre++[o])++rest:=by rw[ak];simp
  refine xO;have aj1:=f.cK;clear a7;obtain⟨aj2,rfl⟩:=nR f.wT I;have H:=rJ (P:=prog) (enc:=aE.bC) (λ_=>rfl) isAgg45 sizeOf45 f.wT pre.length W';rw[X]at H;have e2:=uk wr;obtain⟨aj3,h2,mv,Y,aj0⟩:=x9 wr o;have fo:=f.keep Y;obtain⟨bD,m'⟩:=fo.rx;have T':=lo mv;have ajT:=aX fo.bj;have aU:=EB m' d.o.2.2.2.2.2 (w2 o) 318 #[wr.heap.size] (enters_of func318 bc rfl) (λW x F=>(acp x o wr ((F.block wr I).trans mv)).mono λ_ _ h=>⟨h.1,F.trans (h.2.mono F.size)⟩);have c:=ad aU;refine p9;have l:=bN ps (bx gf Z);clear f ak X gf Z ps fo m' aU mv T' Y;go_wp2_with first|refine dg H rfl rfl rfl ?_|refine eL e2 rfl rfl ?_|refine c' h2 rfl rfl rfl rfl ?_
  refine xG;refine sj;have t:=Q.o.1.keep R;have E:=R.heap Q.o.2 id;have lb:xs.any (w2 o)=stays xs o:=rfl;rw[lb];clear al R c Q ajT lb h2 e2 H;cases aA:stays xs o with
  | true=>
   have s':=ad (t.skip aA);clear t E;refine aK;go_roundg rest.length
   case measure=>omega
   exact⟨pre++[o],rest,l.o.1,rfl,tp,⟨_,_,_,rfl⟩,s'.o⟩
  | false=>
   have D:=t.keep (bd aF).drew;obtain⟨sd,ajV,aj5,zd,r,T,⟨ajW,n7,dv,rfl⟩,q⟩:=D.step aA l.o.2.1 l.o.2.2 0 32;have ar:=r.heap (a:=aF.drew) E (λe=>by have:=zp.o;have:=t.cK;omega);have V':=lo ar;have TS:=Oz o;have V:=BO ⟨3,o,0,false⟩ sd;have K:=t.ld.hT;have bR:=jP (S:=aH) (w:=aF.drew) K id;have bI:=jP (S:=aH) (w:=aF.drew) E id;have vl:=ad q;refine I0;refine Sh;clear bR bI;generalize sd.alloc (ab (dL ⟨3,o,0,false⟩) 47)=aj4 at T V;go_wp2_with first|((with_reducible refine dg V' rfl rfl ?_ ?_);exact rfl)|((with_reducible refine uO (TS _) rfl rfl ?_ ?_ ?_);exact rfl;exact rfl)|((with_reducible refine s_ V rfl rfl ?_ ?_);exact rfl)|((with_reducible refine rU T rfl rfl ?_ ?_ ?_);exact rfl;exact rfl)
   go_roundg rest.length
   case measure=>omega
   exact⟨pre++[o],rest,l.o.1,rfl,tp,⟨_,_,_,rfl⟩,vl.o⟩
def j9(L:ai aE)(k:dD):cr aE:=L.find? λe=>decide (e.k=k)
def nc(L:ai aE)(e:aE):ai aE:=(L.filter λx=>decide (ez x.k e.k<0))++e :: L.filter λx=>decide (ez e.k x.k<0)
def ZU(L:ai aE)(k:dD):je (jt L) k=(j9 L k).map λe=>.agg e.bC.toArray:=by
 unfold je j9 jt;rw[find?_map,HR];rfl
def LG{k:dD}{o:aE}(h:j9 L k=some o):o∈L/\o.k=k:=⟨CB h,by simpa using find?_some h⟩
def EI{k:dD}(h:j9 L k=none):∀ x∈L,x.k≠k:=λx ak=>by simpa using find?_eq_none.1 h x ak
def ZS(h:gh L){o:aE}(ar:o∈L):j9 L o.k=some o:=by
 cases d:j9 L o.k with
 | none=>exact absurd rfl (EI d o ar)
 | some p=>
  have⟨h1,h2⟩:=LG d;rw[MR (h.imp λ{a b} c (e:a.k=b.k)=>qw b.k (by rw[e]at c;exact c)) h1 ar h2]
def ahm(L:ai aE)(e:aE):(L.filter λx=>!decide (x.k=e.k)).Perm ((L.filter λx=>decide (ez x.k e.k<0))++L.filter λx=>decide (ez e.k x.k<0)):=by
 induction L with
 | nil=>exact Cp _
 | cons a l b=>
  rcases yz a.k e.k with h|h|h
  .rw[r0 QR,r0 (by simpa using(mh _ _).2 h),oX QN];exact b.cons a
  .have av:¬ lT a.k a.k:=qw _;rw[oX j0,oX QL,oX QL];exact b
  rw[r0 QR,oX QN,r0 (by simpa using(mh _ _).2 h)];exact(b.cons a).trans qR.symm
def Be(L:ai aE)(e:aE):(nc L e).Perm (e :: L.filter λx=>!decide (x.k=e.k)):=by
 exact qR.trans ((ahm L e).symm.cons e)
def ael(L:ai aE)(e:aE):(nm (jt L) e.k (.agg e.bC.toArray)).Perm (jt (nc L e)):=by
 refine Perm.trans ?_ ((Be L e).map λe=>(e.k,Value.agg e.bC.toArray)).symm;have a:mj (jt L) e.k=(L.filter λx=>!decide (x.k=e.k)).map λe=>(e.k,Value.agg e.bC.toArray):=by
  unfold mj jt;rw[tc];rfl
 unfold nm;rw[a];exact perm_append_singleton _ _
def ME(h:gh L)(e:aE):gh (nc L e):=by
 refine tg.2 ⟨h.sublist HD,k4.2 ⟨λx ak=>?_,h.sublist HD⟩,λx ak y a8=>?_⟩
 .exact(mh _ _).1 (by simpa using(hN.1 ak).2)
 have h1:=(mh _ _).1 (by simpa using(hN.1 ak).2);rcases fW.1 a8 with a|a8
 .rw[a];exact h1
 exact sQ h1 ((mh _ _).1 (by simpa using(hN.1 a8).2))
def Nf{x:aE}:x∈nc L e↔x=e\/(x∈L/\x.k≠e.k):=by
 rw[(Be L e).mem_iff,fW,hN];simp
def MF(h:j9 L e.k=none):(nc L e).length=L.length+1:=by
 rw[(Be L e).length_eq,qP,pZ.2 λx ak=>by simpa using EI h x ak]
def MG(h:gh L){o:aE}(ar:j9 L e.k=some o):(nc L e).length=L.length:=by
 rw[(Be L e).length_eq,qP];have⟨h1,h2⟩:=LG ar;have hd:=h.imp λ{a b} g (e:a.k=b.k)=>qw b.k (by rw[e]at g;exact g);clear ar h
 induction L with
 | nil=>cases h1
 | cons a l i=>
  obtain⟨d1,d2⟩:=k4.1 hd;rcases fW.1 h1 with d|f
  .rw[<-d,oX (by simpa using h2),qP,pZ.2 λx ak=>by simpa using λc=>d1 x ak (by rw[<-d,h2,c])]
  rw[r0 (by simpa using λc=>d1 o f (by rw[c,h2])),qP,i f d2,qP]
def nu(most:U)(L:ai aE)(e:aE):ai aE:=match j9 L e.k with
 | some o=>if o=e then L else nc L e
 | none=>if most<=L.length then L else nc L e
def mH(most now:U)(L:ai aE)(e:aE):cr cq:=match j9 L e.k with
 | some o=>if o=e then none else some ⟨2,e,0,false⟩
 | none=>if most<=L.length then none else some ⟨1,e,now-e.k.fr,false⟩
def gF(most now:U)(L:ai aE)(xs:ai aE):ai aE×ai cq:=xs.foldl (λp e=>(nu most p.1 e,p.2++(mH most now p.1 e).toList)) (L,[])
def uA(most now:U)(L:ai aE)(xs:ai aE)(e:aE):gF most now L (xs++[e])=(nu most (gF most now L xs).1 e,(gF most now L xs).2++(mH most now (gF most now L xs).1 e).toList):=by
 unfold gF;exact Ab
def ahy(h:gh L)(e:aE):gh (nu most L e):=by
 unfold nu;split<;>split<;>first|exact h|exact ME h e
def ahz(h:gh L)(a:(L.length:U)<=most)(e:aE):((nu most L e).length:U)<=most:=by
 unfold nu;split
 .rename_i o ar;split
  .exact a
  rw[MG h ar];exact a
 rename_i ar;split
 .exact a
 rw[MF ar];omega
def jl(T:U->ai aE)(f:U)(xs:ai aE):U->ai aE:=λx=>if x=f then xs else T x
def qI(s:cR)(fr:U)(xs:ai aE):cR:={s with bl:=(gF s.most 0 (jd s.bl (hS xs (hV s.bl fr))) xs).1,b8:=jl s.b8 fr xs}
def l1(s:cR)(fr:U)(xs:ai aE)(now:U):ai cq:=jN xs (hV s.bl fr)++(gF s.most now (jd s.bl (hS xs (hV s.bl fr))) xs).2
def ahx(most now a:U)(L xs:ai aE):(gF most now L xs).1=(gF most a L xs).1:=by
 refine p8
 induction xs.reverse with
 | nil=>rfl
 | cons e l b=>rw[p4,uA,uA,b]
def iC(L xs:ai aE):ai aE×ai cq:=xs.foldl (λp e=>(jd p.1 [e],p.2++[⟨4,e,0,(j9 p.1 e.k).isSome⟩])) (L,[])
def tN(L xs:ai aE)(e:aE):iC L (xs++[e])=(jd (iC L xs).1 [e],(iC L xs).2++[⟨4,e,0,(j9 (iC L xs).1 e.k).isSome⟩]):=by
 unfold iC;exact Ab
def lh(s:cR)(f:U):cR:={s with bl:=(iC s.bl (s.b8 f)).1,b8:=jl s.b8 f [],aO:=f}
def jc(s:cR)(f:U):ai cq:=(iC s.bl (s.b8 f)).2
def lN(s:cR):ai cq:=if s.hd then []else s.bl.map λo=>⟨3,o,0,false⟩
def iF(s:cR):cR:=if s.hd then s else {s with hd:=true,bl:=[]}
structure ch where
 x:cO
 aJ:cj
 ld:cR
 own:ai (U×U)
 wt:ai (U×U)
 cC:U
 cn:aY
 reason:U
abbrev c9:=ch×ai cq
def na(l:ai (U×U))(f:U):cr U:=(l.find? λp=>decide (p.1=f)).map Prod.snd
def mZ(l:ai (U×U))(f:U):ai (U×U):=l.filter λp=>!decide (p.1=f)
def sX(l:ai (U×U))(f v:U):ai (U×U):=mZ l f++[(f,v)]
def hC(r:U)(p:c9):c9:=if p.1.cn then p else({p.1 with cn:=true,reason:=r,ld:=iF p.1.ld},p.2++lN p.1.ld)
def gy(p:c9):c9:=if p.1.aJ.state=2 then hC 12 p else p
def lv(now:U)(p:c9)(g:J×ai aE):c9:=({p.1 with ld:=qI p.1.ld g.1 g.2},p.2++l1 p.1.ld g.1 g.2 now)
def dt(s:ch):c9:=match hc s.x with
 | none=>(s,[])
 | some g=>(nT s.x g (s.x.now-g)).foldl (lv s.x.now) ({s with x:=replay s.x g (s.x.now-g)},[])
def ka(f v:U)(p:c9):c9:=match na p.1.own f with
 | some u=>if u=v then p else hC 13 p
 | none=>if p.1.ld.aO+1<f/\na p.1.wt f=none/\p.1.wt.length<8 then({p.1 with wt:=sX p.1.wt f v},p.2)else p
def uh(s:ch)(f:J):ch:={s with own:=mZ (sX s.own f (jX (ia s.x f))) (f-128),aJ:=np s.aJ f (jX (ia s.x f))}
def kv(f:J)(p:c9):c9:=match na p.1.wt f with
 | some u=>ka f u ({uh p.1 f with wt:=mZ p.1.wt f},p.2)
 | none=>(uh p.1 f,p.2)
def hr(p:c9):c9:=
 let q:c9:=({p.1 with ld:=lh p.1.ld (p.1.ld.aO+1)},p.2++jc p.1.ld (p.1.ld.aO+1))
 if (p.1.ld.aO+2)%16=0 then kv (p.1.ld.aO+2).toNat q else q
def gp:J->c9->c9
 | 0,p=>p
 | n+1,p=>if p.1.cn\/dx p.1.x<=p.1.ld.aO then p else gp n (hr p)
def kU(p:c9):c9:=gp (dx p.1.x-p.1.ld.aO).toNat p
def dp(s:ch):J:=(s.x.f s.x.aL).next
def b1(s:ch):J:=(gK s.x).next
def jg(s:ch):U:=s.x.now-b1 s
def uL(s:ch):aY:=decide (4<jg s-s.cC)&&decide (s.aJ.cA%2=1)
def ff(s:ch)(v:aR):ch:={s with x:=hI s.x s.x.aL v.toNat,aJ:=lq s.aJ (dp s) v}
def nv(p:c9):c9:=lv p.1.x.now ({p.1 with x:={kg p.1.x p.1.x.now with now:=p.1.x.now+1}},p.2) (p.1.x.now,jk p.1.x p.1.x.now)
def hj(s:ch):aY:=decide (s.aJ.state=1)&&(!uL s&&!kO s.x)
def fH(v:aR)(p:c9):c9:=if hj p.1 then nv (ff p.1 v,p.2)else p
def eJ(x:cO):cO:=if dx x<0 then x else tO x (dx x).toNat
def dS(v:aR)(s:ch):c9:=kU (fH v (dt s))
def ou(p:c9):c9:=gy ({p.1 with x:=eJ p.1.x,aJ:=(dG p.1.aJ (jg {p.1 with x:=eJ p.1.x})).2},p.2)
def c2(v:aR)(s:ch):c9:=if s.cn then({s with aJ:=(dG s.aJ 0).2},[])else ou (dS v s)
def f'(v:aR)(s:ch):ai ba:=if s.cn then(dG s.aJ 0).1 else(dG (dS v s).1.aJ (jg {(dS v s).1 with x:=eJ (dS v s).1.x})).1
def eF(s:ch):aY:=!s.cn&&hj (dt s).1
def gz(x:cO)(l:ai aR):cO:=l.foldl (λx b=>hI x (1-x.aL) b.toNat) x
def hD(h:bY)(s:ch):c9:=if h.kind=4 then ka h.frame h.sum (s,[])else if h.kind=6 then({s with cC:=h.lead},[])else(s,[])
def j_(t:ai aR)(s:ch):U:=if s.cn then 12 else(cX s.aJ t).2.1
def ek(t:ai aR)(s:ch):c9:=if s.cn then(s,[])else if (cX s.aJ t).2.1≠0 then({s with aJ:=(cX s.aJ t).2.2},[])
 else gy (hD (cX s.aJ t).1 {s with x:=gz s.x (cX s.aJ t).1.bm,aJ:=(cX s.aJ t).2.2})
def hF(s:ch):c9:=if s.cn then(s,[])else hC 12 ({s with aJ:=oo s.aJ},[])
structure ew where
 low:U
 high:U
 wh:U
 Pf:U
 k:dD
 x:U
 y:U
instance:Coe ew (a6 ay):=⟨λe=>#[aa e.low,aa e.high,aa e.wh,aa e.Pf,aa e.k.fr,aa e.k.em,aa e.k.bq,aa e.k.cv,af e.x,af e.y]⟩
instance:Inhabited ew:=⟨⟨0,0,0,0,⟨0,0,0,0⟩,0,0⟩⟩
def nj(p:ew):a6 ay:=p
def ew.bC(p:ew):ai ay:=(nj p).toList
def eQ(l:ai ew):ai ay:=l.flatMap ew.bC
def uf(l:ai ew):(eQ l).length=l.length*10:=by unfold eQ;exact wb (k:=10) (λ_=>rfl) l
def aeg(l:ai ew)(i:J)(h:i<l.length)(j:J)(a:j<10):(eQ l)[i*10+j]?=l[i].bC[j]?:=by unfold eQ;exact AT (k:=10) (λ_=>rfl) l i h j a
def NO(e:ew):(nj e).toList.all (λv=>v.oneCell')=true:=rfl
def FP:∀ x:ew,∀ v∈x.bC,v.oneCell'=true:=λx=>fJ.1 (NO x)
def afJ(w:aj):(Instr.alloc 296 true (aV #[])).run prog w=.ok w (w.alloc (ab #[aa 0,aa 0,aa 0,aa 0,aa 0,aa 0,aa 0,aa 0,af 0,af 0] 296)):=bc
def NQ:Go.Shelf.Ren:=⟨fun|6=>228|n=>n,fun|0=>0|3=>3|4=>4|22=>289|23=>296|25=>297|n=>n,fun|n=>n⟩
def aef:SlLaysH0.n6 prog NQ:={
 mixed:=bc
 f6:=⟨f228.name,bs,func228.trans (c6 some bc)⟩
 t0:=underlying0
 a0:=isAgg0
 z0:=sizeOf0
 v0:=zeroValue0
 t3:=underlying3
 a3:=isAgg3
 z3:=sizeOf3
 v3:=zeroValue3
 t4:=underlying4
 a4:=isAgg4
 z4:=sizeOf4
 v4:=zeroValue4
 t22:=underlying289
 a22:=isAgg289
 z22:=sizeOf289
 v22:=zeroValue289
 t25:=underlying297
 a25:=isAgg297
 z25:=sizeOf297
 v25:=zeroValue297}
abbrev Xg(g:J)(lb:a6 ay)(p:ew->aY)(w:aj):ae:=PredBelow prog g lb (λx:ew=>.agg x.bC.toArray) p w
def NP{base:J}{v:ay}{xs:ai ew}(h:w.ownsRow base 296 10 v xs.length (eQ xs))(aw:xs.length<=1000)(p:ew->aY)(g:J)(lb:a6 ay)(m:∀ args w,(callFunc g args).run prog w=.ok (.enter g args) w)(ao:Xg g lb p w):aB 228 #[v,.func (.func g) #[] lb] w λe w'=>Below w w w'/\((e=aa (-1)/\∀ x∈xs,p x=false)\/∃ i,∃ av:i<xs.length,e=aa i/\p xs[i]=true/\∀ j (a:j<xs.length),j<i->p xs[j]=false):=by
 rcases h.2 with⟨rfl,B⟩|⟨b,cap,C,rfl,a7,aT,an,hm,aA,aW⟩
 .exact V5
 refine xD;refine(AnyQ.slices_IndexFunc (P:=prog) (ρ:=NQ) aef 10 isAgg296 sizeOf296 ew.bC (λ_=>rfl) p g lb m b 0 xs.length cap xs w ao bu I (bZ aT) (λj a i u c=>?_)).mono ?_
 .have av:i<10:=by
   have:=(ir.1 c).1
   exact this
  have⟨s,o,e,n⟩:=a_.at' I;cases e;rw[show 0+j*10+i=0+(j*10+i)by omega];refine n (j*10+i) u ?_;rw[aeg xs j a i av]
  rwa [l9 xs j a]at c
 exact H9
def OD(W:aj):(zeroValue 296).run prog W=.ok (aG #[aa 0,aa 0,aa 0,aa 0,aa 0,aa 0,aa 0,aa 0,af 0,af 0]) W:=bc
def Xa(w:aj)(base:J)(v:ay)(ys:ai ew)(e:Ending)(w':aj):ae:=
 ∃ v',e=.returned v'/\w'.ownsRow base 296 10 v' ys.length (eQ ys)/\ag (λj=>v.ownBlock=some j) w w'/\v'.ownBlock=v.ownBlock
def aed{base:J}{v:ay}{xs:ai ew}(h:w.ownsRow base 296 10 v xs.length (eQ xs))(aw:xs.length<=1000)(p:ew->aY)(g:J)(lb:a6 ay)(v':∀ args w,(callFunc g args).run prog w=.ok (.enter g args) w)(ao:∀ W,ag (λj=>v.ownBlock=some j) w W->∀ x:ew,Calls prog g (#[.agg x.bC.toArray]++lb) W λe W'=>e=.returned (.bool (p x))/\Below W W W'):aB 153 #[v,.func (.func g) #[] lb] w (Xa w base v (xs.filter λx=>!p x)):=by
 have r':=NP h aw p g lb v' (λW x al=>(ao W (ag.bU al a1) x).mono λ_ _ h=>⟨h.1,al.trans (h.2.mono al.size)⟩);have C:=ad r';have hd:=ad ao;have ps:=ad h;clear r' ao;rcases h.2 with⟨rfl,B⟩|⟨r,cap,cur,rfl,a7,aT,an,hm,aA,aW⟩
 .exact VG
 refine Wx;rcases h1 with⟨rfl,t⟩|⟨l,gf,rfl,T,t⟩
 .exact WV
 refine W3;go_loopg [5,6,7] xs.length (λh7 zp jz _ wr=>∃ (i j:J) (ys:ai ew),zp=aa i/\jz=aa j/\xs.length-j<=h7/\mb (λx=>!p x) xs ys i j/\wr.ownsRow base 296 10 (au (bT r) xs.length cap) xs.length (eQ ys)/\ag (λj=>(au (bT r) xs.length cap).ownBlock=some j) w wr)
 case atStart=>exact⟨l,l+1,xs,rfl,cT,I,z.o⟩
 refine Ik;by_cases K:j<xs.length
 .have m:=rJ (P:=prog) (enc:=ew.bC) (λ_=>rfl) isAgg296 sizeOf296 s j I;rw[f.at' K]at m;have e2:=afJ wr;have Q:=aP wr (ab #[aa 0,aa 0,aa 0,aa 0,aa 0,aa 0,aa 0,aa 0,af 0,af 0] 296);obtain⟨d,ajS,Z⟩:=dT (wr.alloc (ab #[aa 0,aa 0,aa 0,aa 0,aa 0,aa 0,aa 0,aa 0,af 0,af 0] 296)) 296 10 wr (nj xs[j]) _ sizeOf296 rfl rfl Q (NO xs[j]);have D:=fb (wr.alloc (ab #[aa 0,aa 0,aa 0,aa 0,aa 0,aa 0,aa 0,aa 0,af 0,af 0] 296)) wr _ (nj xs[j]) 296 Q;have N:=c1 ((bd wr).alloc (ab #[aa 0,aa 0,aa 0,aa 0,aa 0,aa 0,aa 0,aa 0,af 0,af 0] 296)) Z a1;generalize (wr.alloc (ab #[aa 0,aa 0,aa 0,aa 0,aa 0,aa 0,aa 0,aa 0,af 0,af 0] 296)).setRow wr (nj xs[j])=h2 at *;refine Il;have E:=fS (P:=prog) 296 10 wr 0 (nj xs[j]) _ _ isAgg296 sizeOf296 rfl D (λj u a=>km);refine Wr;cases F:p y with
  | false=>
   go_wp2_with first|refine dg m rfl rfl rfl ?_|refine eL e2 rfl rfl ?_|refine c' d rfl rfl rfl rfl ?_|(go_at_fn g;refine X.o.mono ?_;rintro e m' ⟨rfl,n⟩;rw[F];have b:=ag.bU (S:=aH) n a1;have se:=b.heap mv.o id;have sd:=b7 A.o.2 b (λ_ _=>id);obtain⟨Q',zd,c,k⟩:=BL (P:=prog) (enc:=ew.bC) (λ_=>rfl) FP sizeOf296 sd i I y;have w':=fS (P:=prog) 296 10 wr 0 (nj y) _ _ isAgg296 sizeOf296 rfl se (λj u a=>H5);have q:=ad (bx c ((A.o.1.trans (b.mono λ_ _ x=>x.elim)).trans (k.mono λ_ _ x=>by rw[x];rfl)));clear c k sd se b n)|refine dg w' rfl rfl rfl ?_|refine dg E rfl rfl rfl ?_|refine c' zd rfl rfl rfl rfl ?_
   exact Jo
  | true=>
   exact Jr
 refine IH;obtain⟨Q',a',c,k⟩:=BK (P:=prog) (TS:=289) (enc:=ew.bC) (λ_=>rfl) underlying289 OD rfl bs s i I g';exact Vc
structure fD where
 v:lI
 ok:v.wf
instance:Inhabited fD:=⟨⟨⟨⟨⟨0,0,1,0⟩,1,0,0,0,0⟩,0,0⟩,⟨bs,bs,bs,bs⟩⟩⟩
def n2(x:fD):a6 ay:=x.v
def fD.bC(x:fD):ai ay:=(n2 x).toList
def vcs(l:ai fD):ai ay:=l.flatMap fD.bC
def aiL(l:ai fD)(i:J)(h:i<l.length)(j:J)(a:j<12):(vcs l)[i*12+j]?=l[i].bC[j]?:=by unfold vcs;exact AT (k:=12) (λ_=>rfl) l i h j a
def PQ(e:fD):(n2 e).toList.all (λv=>v.oneCell')=true:=rfl
def B6:∀ x:fD,∀ v∈x.bC,v.oneCell'=true:=λx=>fJ.1 (PQ x)
def afK(w:aj):(Instr.alloc 175 true (aV #[])).run prog w=.ok w (w.alloc (ab pX 175)):=bc
def PT:Go.Shelf.Ren:=⟨fun|6=>295|n=>n,fun|0=>0|3=>3|4=>4|22=>71|23=>175|25=>362|n=>n,fun|n=>n⟩
def aiK:SlLaysH0.n6 prog PT:={
 mixed:=bc
 f6:=⟨f295.name,bs,func295.trans (c6 some bc)⟩
 t0:=underlying0
 a0:=isAgg0
 z0:=sizeOf0
 v0:=zeroValue0
 t3:=underlying3
 a3:=isAgg3
 z3:=sizeOf3
 v3:=zeroValue3
 t4:=underlying4
 a4:=isAgg4
 z4:=sizeOf4
 v4:=zeroValue4
 t22:=underlying71
 a22:=isAgg71
 z22:=sizeOf71
 v22:=zeroValue71
 t25:=underlying362
 a25:=isAgg362
 z25:=sizeOf362
 v25:=zeroValue362}
abbrev Xh(g:J)(lb:a6 ay)(p:fD->aY)(w:aj):ae:=PredBelow prog g lb (λx:fD=>.agg x.bC.toArray) p w
def PR{base:J}{v:ay}{xs:ai fD}(h:w.ownsRow base 175 12 v xs.length (vcs xs))(aw:xs.length<=1000)(p:fD->aY)(g:J)(lb:a6 ay)(m:∀ args w,(callFunc g args).run prog w=.ok (.enter g args) w)(ao:Xh g lb p w):aB 295 #[v,.func (.func g) #[] lb] w λe w'=>Below w w w'/\((e=aa (-1)/\∀ x∈xs,p x=false)\/∃ i,∃ av:i<xs.length,e=aa i/\p xs[i]=true/\∀ j (a:j<xs.length),j<i->p xs[j]=false):=by
 rcases h.2 with⟨rfl,B⟩|⟨b,cap,C,rfl,a7,aT,an,hm,aA,aW⟩
 .refine vp;exact WK
 refine xD;refine(AnyQ.slices_IndexFunc (P:=prog) (ρ:=PT) aiK 12 isAgg175 sizeOf175 fD.bC (λ_=>rfl) p g lb m b 0 xs.length cap xs w ao bu I (bZ aT) (λj a i u c=>?_)).mono ?_
 .have av:i<12:=by
   have:=(ir.1 c).1
   exact this
  have⟨s,o,e,n⟩:=a_.at' I;cases e;rw[show 0+j*12+i=0+(j*12+i)by omega];refine n (j*12+i) u ?_;rw[aiL xs j a i av]
  rwa [l9 xs j a]at c
 exact H9
def aga(W:aj):(zeroValue 175).run prog W=.ok (aG pX) W:=bc
def Xb(w:aj)(base:J)(v:ay)(ys:ai fD)(e:Ending)(w':aj):ae:=
 ∃ v',e=.returned v'/\w'.ownsRow base 175 12 v' ys.length (vcs ys)/\ag (λj=>v.ownBlock=some j) w w'/\v'.ownBlock=v.ownBlock
def aiC{base:J}{v:ay}{xs:ai fD}(h:w.ownsRow base 175 12 v xs.length (vcs xs))(aw:xs.length<=1000)(p:fD->aY)(g:J)(lb:a6 ay)(se:∀ args w,(callFunc g args).run prog w=.ok (.enter g args) w)(ao:∀ W,ag (λj=>v.ownBlock=some j) w W->∀ x:fD,Calls prog g (#[.agg x.bC.toArray]++lb) W λe W'=>e=.returned (.bool (p x))/\Below W W W'):aB 232 #[v,.func (.func g) #[] lb] w (Xb w base v (xs.filter λx=>!p x)):=by
 have v':=PR h aw p g lb se (λW x al=>(ao W (ag.bU al a1) x).mono λ_ _ h=>⟨h.1,al.trans (h.2.mono al.size)⟩);have C:=ad v';have hd:=ad ao;have ps:=ad h;rcases h.2 with⟨rfl,B⟩|⟨r,cap,cur,rfl,a7,aT,an,hm,aA,aW⟩
 .refine vp;refine RL;exact Vn
 have vs:=bZ aT;refine W5;rcases h1 with⟨rfl,t⟩|⟨l,gf,rfl,T,t⟩
 .refine U2;have z:=bN l' (bx H G);exact TQ
 refine SA;have z:=bN d (bx H G);clear T t d H G;refine aK;go_loopg [5,6,7] xs.length (λh7 zp jz _ wr=>∃ (i j:J) (ys:ai fD),zp=aa i/\jz=aa j/\xs.length-j<=h7/\mb (λx=>!p x) xs ys i j/\wr.ownsRow base 175 12 (au (bT r) xs.length cap) xs.length (vcs ys)/\ag (λj=>(au (bT r) xs.length cap).ownBlock=some j) w wr)
 case atStart=>exact⟨l,l+1,xs,rfl,cT,I,z.o⟩
 refine Ik;by_cases K:j<xs.length
 .have m:=rJ (P:=prog) (enc:=fD.bC) (λ_=>rfl) isAgg175 sizeOf175 s j I;rw[f.at' K]at m;have e2:=afK wr;have Q:=aP wr (ab pX 175);obtain⟨d,ajS,sd⟩:=dT (wr.alloc (ab pX 175)) 175 12 wr (n2 xs[j]) _ sizeOf175 rfl rfl Q (PQ xs[j]);have D:=fb (wr.alloc (ab pX 175)) wr _ (n2 xs[j]) 175 Q;have N:=c1 ((bd wr).alloc (ab pX 175)) sd a1;generalize (wr.alloc (ab pX 175)).setRow wr (n2 xs[j])=h2 at *;refine Il;have E:=fS (P:=prog) 175 12 wr 0 (n2 xs[j]) _ _ isAgg175 sizeOf175 rfl D (λj u a=>km);refine T8;have A:=bN V Y;clear f s L Q sd N V Y D;obtain⟨y,a8⟩:=c8 xs[j];rw[<-a8]at m d E M;have X:=ad M;have R:=ad a8;clear a8 M;cases F:p y with
  | false=>
   go_wp2_with first|refine dg m rfl rfl rfl ?_|refine eL e2 rfl rfl ?_|refine c' d rfl rfl rfl rfl ?_|(go_at_fn g;refine X.o.mono ?_;rintro e m' ⟨rfl,n⟩;rw[F];have b:=ag.bU (S:=aH) n a1;have r':=b.heap mv.o id;have Z:=b7 A.o.2 b (λ_ _=>id);obtain⟨Q',zd,c,k⟩:=BL (P:=prog) (enc:=fD.bC) (λ_=>rfl) B6 sizeOf175 Z i I y;have w':=fS (P:=prog) 175 12 wr 0 (n2 y) _ _ isAgg175 sizeOf175 rfl r' (λj u a=>H5);have q:=ad (bx c ((A.o.1.trans (b.mono λ_ _ x=>x.elim)).trans (k.mono λ_ _ x=>by rw[x];rfl)));clear c k Z r' b n)|refine dg w' rfl rfl rfl ?_|refine dg E rfl rfl rfl ?_|refine c' zd rfl rfl rfl rfl ?_
   exact Jo
  | true=>
   exact Jr
 refine IH;obtain⟨Q',a',c,k⟩:=BK (P:=prog) (TS:=71) (enc:=fD.bC) (λ_=>rfl) underlying71 aga rfl bs s i I g';refine Sm;have q:=bN c (bx fr fo);exact R5
section
variable{P:Program}{o:Oper}{a:Act}{C:aj->ae}
def ai9{ops:a6 Oper}{Q:Act->ae}{rest:ai Oper}{c:aY}{v:ay}(hrun:∀ w,C w->(Instr.lookup t mv key c).run P w=.ok v w)(a7:o.guard=none)(ar:o.op=.lookup t m x c)(hm:a.eval m=mv)(ak:a.eval x=key)(hk:wpQuiet P ops C Q rest (a.put o.dst v)):wpQuiet P ops C Q (o :: rest) a:=by
 refine V3;unfold Oper.quietAt execOp;simp only[ar,hm,ak,iO,hrun w b,iu,jm];exact o9
def Qb{K:Act->aj->ae}{Q:Exit->Act->aj->ae}{v:ay}(ar:o.op=.mapUpdate t m x y)(hm:a.eval m=mv)(ak:a.eval x=key)(a8:a.eval y=v)(hrun:(Instr.mapUpdate t mv key v).run P w=.ok () w')(h:K (a.put o.dst undef) w'):o.wp P a w K Q:=by
 unfold Oper.wp;simp only[execOp,ar,hm,ak,a8,iO,hrun,iu,jm];exact h
end
def yc:aE:=⟨⟨0,0,0,0⟩,0,0,0,0,0⟩
def q7:cq:=⟨0,yc,0,false⟩
structure sx(w:aj)(B:fX)(s:cR)(e:aE)(W:aj):ae where
 ld:da W B s
 bD:W.heap[w.heap.size]?=some (ab e 45 (0,0))
 rs:W.heap[w.heap.size+1]?=some (ab oR 47 (0,0))
 bF:ag aH w W
def sx.keep{B:fX}{s:cR}(h:sx w B s e W)(hk:ag aH W W'):sx w B s e W':=⟨h.ld.lP hk,hk.heap h.bD id,hk.heap h.rs id,h.bF.trans hk⟩
def da.find{B:fX}{s:cR}(h:da w B s)(k:dD)(hk:hW k=true):(Instr.lookup 115 (.map (some B.dM)) (aG k) true).run prog w=.ok (aV #[.agg (cU ((j9 s.bl k).getD yc)),.bool (j9 s.bl k).isSome]) w:=by
 have h1:=h.bl.look sO (x:=k) hk underlying115 (z:=aG z9) (λw=>bc);rw[ZU]at h1;refine h1.trans ?_;cases j9 s.bl k<;>rfl
def da.put{B:fX}{s:cR}(h:da w B s)(e:aE)(b:hW e.k=true)(c:((nc s.bl e).length:U)<=s.most):∃ w',(Instr.mapUpdate 115 (.map (some B.dM)) (aG e.k) (aG e)).run prog w=.ok () w'/\da w' B {s with bl:=nc s.bl e}/\ag (λj=>j=B.dM) w w':=by
 have aw:=h.cf;have⟨w',h1,h2,a⟩:=h.bl.store sO (x:=e.k) b underlying115 (by unfold jt maxLen;rw[iP];omega) (.agg e.bC.toArray);exact⟨w',h1,h.Gk (h2.perm (ael s.bl e)) a (ME h.eV e) c,a⟩
def Ke(w:aj)(B:fX)(s:cR)(e:aE)(now:U)(r:Ending)(w':aj):ae:=
 r=aV #[.agg (dL ((mH s.most now s.bl e).getD q7)),.bool (mH s.most now s.bl e).isSome]/\da w' B {s with bl:=nu s.most s.bl e}/\ag (λj=>j=B.dM) w w'
def afP(w:aj):(Instr.build 47 #[]).run prog w=.ok (.agg (dL q7)) w:=bc
def ai8{P:Program}{o:Oper}{a:Act}{C:aj->ae}{ops:a6 Oper}{Q:Act->ae}{rest:ai Oper}{v:ay}(hrun:∀ w,C w->(Builtin.len_ #[t] o.type #[mv]).run P w=.ok v w)(a7:o.guard=none)(ar:o.op=Op.call {callee:=Callee.builtin Builtin.len,args:=#[m],argTypes:=#[t]})(hm:a.eval m=mv)(hk:wpQuiet P ops C Q rest (a.put o.dst v)):wpQuiet P ops C Q (o :: rest) a:=by
 refine V3;unfold Oper.quietAt;simp[execOp,ar,resolve,invoke,builtin,hm,hrun w b,Result.andThen];exact o9
theorem da.len{B:fX}{s:cR}(h:da w B s)(ty:TypeId):(Builtin.len_ #[115] ty #[.map (some B.dM)]).run prog w=.ok (aa s.bl.length) w:=by
 have h1:=h.bl.len underlying115 ty;unfold jt at h1;rw[iP]at h1;exact h1
def aco{B:fX}{s:cR}(h:da w B s)(e:aE)(he:hW e.k=true)(now:U)(V':0<=now/\now<=1000000):aB 275 #[B.b,aG e,aa now] w (Ke w B s e now):=by
 have s':∀ r w',Ke w B s e now r w'↔(r=aV #[.agg (dL ((mH s.most now s.bl e).getD q7)),.bool (mH s.most now s.bl e).isSome]/\da w' B {s with bl:=nu s.most s.bl e}/\ag (λj=>j=B.dM) w w'):=λ_ _=>Iff.rfl;have vl:=ad s';clear s';obtain⟨o,ar⟩:=c8 ((j9 s.bl e.k).getD yc);obtain⟨p,ao⟩:=c8 (j9 s.bl e.k).isSome;have fo:=((bd w).alloc (ab e 45)).alloc (ab oR 47);refine Dt;have r':=b2 (aP w (ab e 45)) (ab oR 47);have N:=aP (w.alloc (ab e 45)) (ab oR 47);refine ed;have ax:sx w B s e _:=⟨h.lP fo,r',N,fo⟩;have l':=ad ax;clear fo D r' N ax;refine xz;have q:=l'.o.keep (bd aq).drew;have bR:=λx:bA (λW=>sx w B s e W)=>aX x.held.ld.hT;have bI:=λx:bA (λW=>sx w B s e W)=>aX x.held.bD;have G:∀ W,(∃ x:bA (λW=>sx w B s e W),W=x.to)->(Instr.lookup 115 (.map (some B.dM)) (aG e.k) true).run prog W=.ok (aV #[.agg (cU o),.bool p]) W:=λW ⟨x,ak⟩=>by
  rw[ak,ar,ao];exact x.held.ld.find e.k he
 have e2:=uk aq.drew;have⟨wr,g',ps,sd,W'⟩:=x9 aq.drew o;have gf:=q.keep ((bd aq.drew).alloc (ab z9 45));have c:=q.keep sd;have i:=ad c;have mv:=bN ar ao;have lb:=ad h;clear l' sd ar ao h;refine aK;refine cS 13 ?_;refine cJ (λW=>sx w B s e W) (.range 13) 0 13 ?_;refine Wu;clear gf c q;clear bR bI G g' e2;have h:=lb.o;have Y:=mv.o;clear mv lb;cases g:j9 s.bl e.k with
 | some Tq=>
  rw[g]at Y;obtain⟨ar,ao⟩:o=Tq/\p=true:=Y;subst ar ao;have f:nu s.most s.bl e=if o=e then s.bl else nc s.bl e:=by unfold nu;rw[g]
  have d:mH s.most now s.bl e=if o=e then none else some ⟨2,e,0,false⟩:=by unfold mH;rw[g]
  by_cases K:o=e
  .rw[aD K]at f d;have F:=bN f d;have C:=Ll o e;rw[dh K]at C;refine dU;clear f d K C g h;have bt:=lo ps;have le:=lo (e:=e) i.out.bD;have A:=OA wr;obtain⟨E,Q,l⟩:=dT wr 47 12 (w.heap.size+1) (dL q7) _ sizeOf47 rfl rfl (i.out.rs) (sD _);have t:∀ j,(λj=>j=w.heap.size+1) j->so wr B j:=λj V=>by
    cases V;exact(i.out.ld).free (i.out.rs) bs bs
   have u:=(i.out.ld).keep l t;have y:=c1 (i.out.bF) l a1;have L:=bN u y;clear u y l t;generalize World.setRow wr (w.heap.size+1) (dL q7)=hd at *;go_wp2_with first|((with_reducible refine Cb bt ?_ rfl ?_ ?_);(first|rfl|simp[go_sem]);exact rfl)|((with_reducible refine Cb le ?_ rfl ?_ ?_);(first|rfl|simp[go_sem]);exact rfl)|((with_reducible refine Cc (A_ Mc _ _ _ _ _) (m'.o _) ?_ rfl ?_ ?_ ?_);(first|rfl|simp[go_sem]);exact rfl;exact rfl)|(with_reducible refine G2 A rfl rfl ?_)|((with_reducible refine c' E rfl rfl ?_ ?_ ?_);exact rfl;exact rfl)
   exact R4
  rw[az K]at f d;have F:=bN f d;have C:=Ll o e;rw[cN K]at C;refine dU;have vs:=ad (show((nc s.bl e).length:U)<=s.most by rw[MG h.eV g];exact h.n.1);clear f d K C g h;have bt:=lo ps;have le:=lo (e:=e) i.out.bD;go_upto_region 5 with(first|((with_reducible refine Cb bt ?_ rfl ?_ ?_);(first|rfl|simp[go_sem]);exact rfl)|((with_reducible refine Cb le ?_ rfl ?_ ?_);(first|rfl|simp[go_sem]);exact rfl)|((with_reducible refine Cc (A_ Mc _ _ _ _ _) (m'.o _) ?_ rfl ?_ ?_ ?_);(first|rfl|simp[go_sem]);exact rfl;exact rfl)|fail)
  clear bt le;have c:=i.out.keep (bd wr).drew;have bR:=jP (S:=aH) (w:=wr.drew) c.ld.hT id;have bI:=jP (S:=aH) (w:=wr.drew) c.bD id;have M:∀ W,(∃ x:ie aH wr.drew,W=x.to)->(Instr.loadAt 45 w).run prog W=.ok (aG e) W:=λW ⟨x,ak⟩=>by rw[ak];exact lo (e:=e) (x.keeps.heap c.bD id)
  refine Sg;have A:=afW e;obtain⟨E,Q,l⟩:=dT R 47 12 (w.heap.size+1) (dL ⟨2,e,0,false⟩) _ sizeOf47 rfl rfl (m.o.2.2.1) (sD _);refine W4;generalize World.setRow R (w.heap.size+1) (dL ⟨2,e,0,false⟩)=hd at *;go_wp2_with first|((with_reducible refine dg le rfl rfl ?_ ?_);exact rfl)|((with_reducible refine uO (A _) rfl rfl ?_ ?_ ?_);exact rfl;exact rfl)|((with_reducible refine c' E rfl rfl ?_ ?_ ?_);exact rfl;exact rfl)
  refine dj (v:=aV #[.agg (dL ⟨2,e,0,false⟩),true]) Q ?_;exact Vb
 | none=>
  rw[g]at Y;obtain⟨ar,ao⟩:o=yc/\p=false:=Y;subst ar ao;have f:nu s.most s.bl e=if s.most<=s.bl.length then s.bl else nc s.bl e:=by unfold nu;rw[g]
  have d:mH s.most now s.bl e=if s.most<=s.bl.length then none else some ⟨1,e,now-e.k.fr,false⟩:=by unfold mH;rw[g]
  have ajR:=h.n;have h2:=bN f (bx d (bx ajR g));clear f d ajR g h;go_upto_region 7 with fail
  have X:=i.out.keep (bd wr).drew;have bR:=jP (S:=aH) (w:=wr.drew) X.ld.hT id;have se:∀ W,(∃ x:ie aH wr.drew,W=x.to)->(Builtin.len_ #[115] 3 #[.map (some B.dM)]).run prog W=.ok (aa s.bl.length) W:=λW ⟨x,ak⟩=>by rw[ak];exact(X.ld.lP x.keeps).len 3
  have z:=ad X;clear X i;refine cS 11 ?_;refine rq (λ_=>False) (.range 11) [] 0 ?_
  repeat (first|(refine ai8 se rfl rfl rfl ?_;simp only[Act.put,dV])|go_big_quiet_step (fail))
  refine wpQuiet_nil ?_;refine mx ?_;refine kt ?_;clear bR se;refine vr;have⟨f,d,ajR,g⟩:=h2.o;clear h2;by_cases H:s.most<=s.bl.length
  .rw[aD H]at f d;have F:=bN f d;have a':=dh H;rw[a'];clear f d H ajR g;have A:=afP P;obtain⟨E,Q,l⟩:=dT P 47 12 (w.heap.size+1) (dL q7) _ sizeOf47 rfl rfl (z.o.rs) (sD _);have t:∀ j,(λj=>j=w.heap.size+1) j->so P B j:=λj V=>by
    cases V;exact(z.o.ld).free (z.o.rs) bs bs
   have u:=(z.o.ld).keep l t;have y:=c1 (z.o.bF) l a1;have L:=bN u y;clear u y l t;generalize World.setRow P (w.heap.size+1) (dL q7)=hd at *;go_wp2_with first|(with_reducible refine G2 A rfl rfl ?_)|((with_reducible refine c' E rfl rfl ?_ ?_ ?_);exact rfl;exact rfl)
   exact R4
  rw[az H]at f d;have F:=bN f d;have a':=cN H;rw[a'];have vs:=ad (show((nc s.bl e).length:U)<=s.most by rw[MF g];omega);have TS:0<=e.k.fr/\e.k.fr<=1073741824:=by
   have a:=he;unfold hW gA at a;refine xM;exact a.1.1.1
  have T':IntKind.i64.wrap (now-e.k.fr)=now-e.k.fr:=e0 _ I;clear f d H ajR TS g;go_upto_region 9 with fail
  have i:=z;clear z;have c:=i.out.keep (bd P).drew;have bR:=jP (S:=aH) (w:=P.drew) c.ld.hT id;have bI:=jP (S:=aH) (w:=P.drew) c.bD id;have M:∀ W,(∃ x:ie aH P.drew,W=x.to)->(Instr.loadAt 45 w).run prog W=.ok (aG e) W:=λW ⟨x,ak⟩=>by rw[ak];exact lo (e:=e) (x.keeps.heap c.bD id)
  refine Sg;have bw:=aX m.o.2.1;have A:=afV e (now-e.k.fr) R;obtain⟨E,Q,l⟩:=dT R 47 12 (w.heap.size+1) (dL ⟨1,e,now-e.k.fr,false⟩) _ sizeOf47 rfl rfl (m.o.2.2.1) (sD _);refine W4;generalize World.setRow R (w.heap.size+1) (dL ⟨1,e,now-e.k.fr,false⟩)=hd at *;go_wp2_with first|((with_reducible refine dg le rfl rfl ?_ ?_);exact rfl)|((with_reducible refine G3 A rfl rfl ?_ ?_ ?_ ?_);exact rfl;exact rfl;exact rfl)|((with_reducible refine c' E rfl rfl ?_ ?_ ?_);exact rfl;exact rfl)
  refine dj (v:=aV #[.agg (dL ⟨1,e,now-e.k.fr,false⟩),true]) Q ?_;exact Vb
end Go.Proofs.YtalagblioepadaaGreatDoor
