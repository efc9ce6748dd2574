/- The proof, part 28. -/
import Derived.Test.YtalagblioepadaaGreatDoorZe27
namespace Go.Proofs.YtalagblioepadaaGreatDoor
set_option linter.all false
open Proofs.Tryz List Go.RowKit Go.Maps
set_option maxRecDepth 100000
set_option maxHeartbeats 1000000
variable{ww:Prop}
def ts(h:ww:=by have:=h.of j d;omega):=h
def CX(h:ww:=by have:=s.lt j u;omega):=h
variable{e:aE}{c f r:U}{base cap g:J}{T:TypeId}{l':ay}
variable{w w':aj}{xs:ai aE}{m i:J}
def EC(h:w.ownsRow base 45 9 (au (bT g) xs.length cap) xs.length (b0 xs))(av:i<xs.length):∃ a,w.heap[g]?=some (ab a 45 (0,0))/\∀ f x,(cU xs[i])[f]?=some x->a[i*9+f]?=some x:=by
 obtain⟨a,rest,a7,an,_⟩:=rI (enc:=aE.bC) h;obtain⟨h1,h2⟩:=we (enc:=aE.bC) (k:=9) (λ_=>rfl) i av;exact WI
def MQ(j:J)(u:ay)(h:(jf e.k)[j]?=some u):(cU e)[j]?=some u:=by
 have a:=(mI.1 h).1
 have:(jf e.k).size=4:=rfl
 have:j=0\/j=1\/j=2\/j=3:=by omega
 rcases this with rfl|rfl|rfl|rfl<;>exact h
theorem acF{b:J}(h:w.heap[b]?=some (ab (cU e) 45 (0,0))):(Instr.loadAt 43 b).run prog w=.ok (.agg (jf e.k)) w:=
 fS (P:=prog) 43 4 b 0 (jf e.k) _ _ isAgg43 sizeOf43 rfl h λj u a=>by rw[gM];exact MQ j u a
def afz(h:w.ownsRow base 45 9 (au (bT g) xs.length cap) xs.length (b0 xs))(av:i<xs.length):(Instr.loadAt 43 (.pointer (dk g (i*9)))).run prog w=.ok (.agg (jf xs[i].k)) w:=by
 obtain⟨b,a7,an⟩:=EC h av;exact fS (P:=prog) 43 4 g (i*9) (jf xs[i].k) _ _ isAgg43 sizeOf43 rfl a7 λj v a=>an _ _ (MQ j v a)
def Ot(h:w.ownsRow base 45 9 (au (bT g) xs.length cap) xs.length (b0 xs))(av:i<xs.length):(Instr.loadAt 45 (.pointer (dk g (i*9)))).run prog w=.ok (.agg (cU xs[i])) w:=by
 obtain⟨b,a7,an⟩:=EC h av;exact fS (P:=prog) 45 9 g (i*9) (cU xs[i]) _ _ isAgg45 sizeOf45 rfl a7 λj v a=>an _ _ a
def w8{P:Program}{o:Oper}{a:Act}{C:aj->ae}{ops:a6 Oper}{Q:Act->ae}{rest:ai Oper}{x:Operand}{p v:ay}(hrun:∀ w,C w->(Instr.loadAt T p).run P w=.ok v w)(ar:o.op=.load T x)(ak:a.eval x=p)(hk:wpQuiet P ops C Q rest (a.put o.dst v))(b:Region.wanted o (yielded ops a.tmps)=true:=by first|rfl|simp[go_sem]):wpQuiet P ops C Q (o :: rest) a:=by
 unfold wpQuiet;rw[aD b];exact NX hrun ar ak hk
def ae_{v:ay}(h:w.ownsRow base 45 9 v xs.length (b0 xs))(aw:xs.length<=64)(bg:gh xs)(e:aE):aB 178 #[v,.agg (cU e)] w λr w'=>∃ l,r=.returned l/\w'.ownsRow (w.heap.size+1) 45 9 l (jv xs e).length (b0 (jv xs e))/\Below w w w':=by
 have K:=aei xs e;have hm:=wB xs e.k;have S:=λi av h=>wC xs e.k i av h;have Q:=λi av h=>Bo bg e.k i av h;generalize fQ xs e.k=m at *;have q:(w.alloc (ab (cU e) 45)).heap.size=w.heap.size+1:=aM
 have L:su w v xs e (au (bT (w.heap.size+1)) 0 0) [] ((w.alloc (ab (cU e) 45)).alloc (ab #[] 45)):=
  ⟨b2 (aP w _) _,FH bu tr,b7 (ku h (c3 _)) (((bd w).alloc _).alloc _) λ_ _=>id,λj R=>(uc h R).2,((ag.refl _ w).alloc _).alloc _⟩
 obtain⟨A,cap,rfl,_,_⟩:=dA h;have F:=ad L;have c:=ad K;have a:=bN hm (bx aw (bx S Q));have u:=afM;generalize P:cU e=X
 go_in
 go_wp2_with fail;subst P;generalize World.alloc (World.alloc w _) _=G at *;go_loopg [5,6,7] xs.length (λg out V i wr=>∃ k:J,g=xs.length-k/\k<=xs.length/\i=aa k/\V=.bool (decide (m<k))/\su w (au A xs.length cap) xs e out (mD xs e m k) wr)
 case atStart=>exact⟨0,rfl,I,rfl,nA,F.o⟩
 obtain⟨k,a7,hk,rfl,rfl,C⟩:=hrel;refine dU;by_cases b:k<xs.length
 .obtain⟨r,rfl⟩:=nR m'.o.sU b4;have B:∀ W,(∃ x:k7 wr,W=x.to)->(Instr.loadAt 43 w).run prog W=.ok (.agg (jf e.k)) W:=λW ⟨x,ak⟩=>ak▸acF (m'.o.keep (ag.bU x.below a1)).bD;have D:∀ W,(∃ x:k7 wr,W=x.to)->(Instr.loadAt 43 (.pointer (dk r (k*9)))).run prog W=.ok (.agg (jf xs[k].k)) W:=λW ⟨x,ak⟩=>ak▸afz (m'.o.keep (ag.bU x.below a1)).sU b;have aU:=ae2 e.k xs[k].k;have N:k<m\/k=m\/m<k:=by omega
  rcases N with an|an|an
  focus
   have d1:decide (m<k)=false:=cN b4;have d2:decide (ez e.k xs[k].k<=0)=false:=cN (by have:=a.o.2.2.1 k b an;rw[KR]at this;omega);have s:=aek e b an;generalize ez e.k xs[k].k=dz at *;go_wp2_with fail;refine rW bc bc ?_
   repeat (first|(refine w8 B rfl rfl ?_;simp only[Act.put,dV])|(refine w8 D rfl rfl ?_;simp only[Act.put,dV])|go_big_quiet_step (first|(go_at_call 252;exact Calls.kn (aU _))))
   refine wpQuiet_nil ?_;intro _ p;obtain⟨x,rfl⟩:=p;have C:=m'.o.keep (ag.bU x.below a1);go_upto_region 9 with fail
   generalize x.to=z at *;have f:=ad (show decide (m<k)=decide (m<k+1)by rw[d1,cN b4])
  rotate_left
  focus
   subst an;have d1:decide (k<k)=false:=cN b4;have d2:decide (ez e.k xs[k].k<=0)=true:=dh (by have:=a.o.2.2.2 k b bu;rw[KR]at this;omega);have s:=aeh e b;generalize ez e.k xs[k].k=dz at *;go_wp2_with fail;refine rW bc bc ?_
   repeat (first|(refine w8 B rfl rfl ?_;simp only[Act.put,dV])|(refine w8 D rfl rfl ?_;simp only[Act.put,dV])|go_big_quiet_step (first|(go_at_call 252;exact Calls.kn (aU _))))
   refine wpQuiet_nil ?_;intro _ p;obtain⟨x,rfl⟩:=p;have C:=m'.o.keep (ag.bU x.below a1);generalize x.to=G at *;have y:=M9 C.bD;obtain⟨Y,z,M,C⟩:=C.more (by have:=FQ (i:=k) e a.o.1 hk;have:=a.o.2.1;omega) 66 e;go_upto_region 9 with(first|refine dg y rfl rfl rfl ?_|refine s_ (u _ _) rfl rfl rfl ?_|refine rU M rfl rfl rfl rfl ?_|fail)
   have f:=ad (show true=decide (k<k+1)by rw[dh b4])
  rotate_left
  focus
   have d1:decide (m<k)=true:=dh an;have s:=aej e b an;go_wp2_with fail;go_quiet (fail);have C:=m'.o.keep ((bd wr).drewN nq);go_upto_region 9 with fail
   generalize wr.drewN nq=z at *;have f:=ad (show decide (m<k)=decide (m<k+1)by rw[d1,dh b4])
  all_goals
   have T:=Ot C.sU b;obtain⟨v2,H,t,n⟩:=C.more (by have:=FQ (i:=k) e a.o.1 hk;have:=a.o.2.1;first|omega|(simp;omega)) 66 xs[k];rw[<-s]at n;have d:=ad n;go_wp2_with first|refine dg T rfl rfl rfl ?_|refine s_ (u _ _) rfl rfl rfl ?_|refine rU t rfl rfl rfl rfl ?_
   go_roundg (xs.length-(k+1))
   case rel=>exact⟨k+1,rfl,I,cT,by first|(rw[<-f.out];done)|rw[<-f.out,d1],d.o⟩
   omega
 obtain rfl:k=xs.length:=I;by_cases an:m<xs.length
 .have E:=c.o;rw[aD an]at E;have c:=ad E;have d1:decide (m<xs.length)=true:=dh an;refine aK;go_ret;exact⟨_,rfl,by rw[<-c.o];exact m'.o.row,m'.o.bF.below bu a1⟩
 have E:=c.o;rw[az an]at E;have c:=ad E;have y:=M9 m'.o.bD;obtain⟨v2,H,t,n⟩:=m'.o.more (by have:=FQ (i:=xs.length) e a.o.1 hk;have:=a.o.2.1;omega) 66 e;have d:=ad n;go_wp2_with first|refine dg y rfl rfl rfl ?_|refine s_ (u _ _) rfl rfl rfl ?_|refine rU t rfl rfl rfl rfl ?_
 go_ret;exact⟨_,rfl,by rw[<-c.o];exact d.o.row,d.o.bF.below bu a1⟩
variable{l:ay}{fr:U}{ys:ai aE}
structure hh(w:aj)(l:ay)(fr:U)(xs:ai aE):ae where
 row:w.ownsRow 0 45 9 l xs.length (b0 xs)
 ok:fk fr xs
 fa:qe fr xs
def hh.keep{S:J->ae}(h:hh w l fr xs)(hk:ag S w w')(aA:∀ j,l.ownBlock=some j->¬ S j):hh w' l fr xs:=⟨b7 h.row hk aA,h.ok,h.fa⟩
def hh.lt(h:hh w l fr xs):∀ j,l.ownBlock=some j->j<w.heap.size:=λ_ a=>(uc h.row a).2
structure om(w:aj)(l:ay)(fr:U)(ys:ai aE)(l':ay)(w':aj):ae where
 ls:hh w' l' fr ys
 be:Below w w w'
 fq:∀ j,l'.ownBlock=some j->l.ownBlock=some j\/w.heap.size<=j
def om.lY{bo:aj}(h:om bo l fr ys l' w')(hk:Below w w bo):om w l fr ys l' w':=⟨h.ls,hk.trans (h.be.mono hk.size),λj a=>(h.fq j a).imp id (cu hk.size)⟩
def om.more{a:aj}(h:om w l fr ys l' w')(hk:ag aH w' a):om w l fr ys l' a:=⟨h.ls.keep hk λ_ _=>id,h.be.trans (hk.below h.be.size λ_ _=>id),h.fq⟩
def Xn(h:qe fr xs)(e:aE)(b:fx (iD fr e)=true):fM fr xs e=if 64<=xs.length\/15<hR xs e.k.em e.k.bq then xs else jv xs (kL (iD fr e) (hR xs e.k.em e.k.bq)):=by
 unfold fM;have a:rf xs (iD fr e).k=min (hR xs e.k.em e.k.bq) 17:=LR h e.k.em e.k.bq 0;rw[az (by rw[b];exact Bool.noConfusion),a];by_cases h1:64<=xs.length\/15<hR xs e.k.em e.k.bq
 .rw[aD h1,aD b4]
 rw[az h1,az b4,show min (hR xs e.k.em e.k.bq) 17=hR xs e.k.em e.k.bq by omega]
def Yo(k:J)(hk:k<xs.length)(em bq:U):hR (xs.take (k+1)) em bq=hR (xs.take k) em bq+if xs[k].k.em=em/\xs[k].k.bq=bq then 1 else 0:=by
 unfold hR;rw[l7 hk,rZ,cG]
 congr 1
 by_cases c:xs[k].k.em=em/\xs[k].k.bq=bq
 .rw[aD c,r0 (by simpa using c)];rfl
 rw[az c,oX (by simpa using c)];rfl
def Yn(xs:ai aE)(em bq:U):hR xs em bq<=xs.length:=oZ _ _
structure od(w:aj)(l:ay)(fr:U)(xs:ai aE)(e:aE)(W:aj):ae where
 bD:W.heap[w.heap.size]?=some (ab (cU e) 45 (0,0))
 rs:W.heap[w.heap.size+1]?=some (ab z4 43 (0,0))
 ls:hh W l fr xs
 lt:∀ j,l.ownBlock=some j->j<w.heap.size
 bF:ag (λj=>w.heap.size<=j) w W
theorem od.keep{W W':aj}(h:od w l fr xs e W)(hk:ag aH W W'):od w l fr xs e W':=
 ⟨hk.heap h.bD id,hk.heap h.rs id,h.ls.keep hk λ_ _=>id,h.lt,h.bF.trans (hk.mono λ_ _ e=>e.elim)⟩
def od.pU{W:aj}(h:od w l fr xs e W)(o:J):od w l fr xs (kL e o) (W.setCell (ah w 3) (aa o)):=by
 have k:=(ag.refl (λj=>j=w) W).setCell (p:=ah w 3) rfl (aa (o:U));exact⟨bX h.bD 3 (aa (o:U)),k.heap h.rs I,h.ls.keep k (λj a e=>by have:=h.lt j a;omega),h.lt,h.bF.setCell (p:=ah w 3) bu _⟩
def od.fin{W:aj}(h:od w l fr xs e W)(a b c d:U):(loadCellsFrom (ah (w.heap.size+1) 0) 0 4 #[]).run prog ((((W.setCell (ah (w+1) 0) (aa a)).setCell (ah (w+1) 1) (aa b)).setCell (ah (w+1) 2) (aa c)).setCell (ah (w+1) 3) (aa d))=.ok #[aa a,aa b,aa c,aa d] ((((W.setCell (ah (w+1) 0) (aa a)).setCell (ah (w+1) 1) (aa b)).setCell (ah (w+1) 2) (aa c)).setCell (ah (w+1) 3) (aa d))/\ag (λj=>j=w.heap.size+1) W ((((W.setCell (ah (w+1) 0) (aa a)).setCell (ah (w+1) 1) (aa b)).setCell (ah (w+1) 2) (aa c)).setCell (ah (w+1) 3) (aa d))/\Below w w ((((W.setCell (ah (w+1) 0) (aa a)).setCell (ah (w+1) 1) (aa b)).setCell (ah (w+1) 2) (aa c)).setCell (ah (w+1) 3) (aa d)):=by
 have hk:=t_ (ag.refl (λj=>j=w.heap.size+1) W) rfl (aa a) (aa b) (aa c) (aa d);exact⟨fN _ _ _ _ (x8 h.rs (aa a) (aa b) (aa c) (aa d)) 4 rfl,hk,(h.bF.trans (hk.mono λj _ e=>b4)).below bu a1⟩
def aeZ(h:hh w l fr xs)(e:aE)(M:fx (iD fr e)=true):aB 118 #[l,aa fr,.agg (cU e)] w λr w'=>∃ (l':ay) (k:dD) (ca:U),r=aV #[l',aG k,aa ca]/\om w l fr (fM fr xs e) l' w':=by
 have b:=Xn h.fa e M;have aw:=h.ok.2.1;have X:=ae' (iD fr e) M;have a:=ph h.ok e;have Y:=h.fa.add e;have bg:=h.ok.1;have u:od w l fr xs (iD fr e) ((w.alloc (ab (cU (iD fr e)) 45)).alloc (ab z4 43)):=by
  have k:=((ag.refl (λj=>w.heap.size<=j) w).alloc (ab (cU (iD fr e)) 45)).alloc (ab z4 43);have t:=aP (w.alloc (ab (cU (iD fr e)) 45)) (ab z4 43);refine Aa;exact⟨b2 (aP w _) _,t,h.keep k (λj f=>by have:=h.lt j f;omega),h.lt,k⟩
 generalize fM fr xs e=ys at *;obtain⟨A,cap,rfl,_,_⟩:=dA h.row;have m:=ad u;have S:=ad X;have q:=bN b (bx a (bx Y bg));clear h M b X a Y bg u;unfold cU at m⊢
 go_in
 go_wp2_with fail;have u:od w (au A xs.length cap) fr xs (iD fr e) ((w.alloc (ab #[aa fr,aa e.k.em,aa e.k.bq,aa 0,aa e.df,aa e.eb,aa e.hq,aa e.eP,aa e.le] 45)).alloc (ab z4 43)):=m.o;clear m;generalize World.alloc (World.alloc w _) _=bo at *;refine aS (S.o _) λaq al=>?_;have m:=ad (u.keep (ag.bU al a1));clear u al S;go_wp2_with fail;go_loopg [9] xs.length (λg i wr=>∃ k:J,g=xs.length-k/\k<=xs.length/\i=aa k/\od w (au A xs.length cap) fr xs (kL (iD fr e) (hR (xs.take k) e.k.em e.k.bq)) wr)
 case atStart=>exact⟨0,rfl,I,rfl,m.o⟩
 obtain⟨k,a7,hk,rfl,a⟩:=hrel;clear m;by_cases fo:k<xs.length
 .obtain⟨r,rfl⟩:=nR a.ls.row b4;obtain⟨ps,D,B⟩:=EC a.ls.row fo;have bI:wr.cell? (ah r (k*9+1))=some (aa xs[k].k.em):=bb D (B 1 _ rfl);have mv:wr.cell? (ah r (k*9+2))=some (aa xs[k].k.bq):=bb D (B 2 _ rfl);have ax:=Yo k fo e.k.em e.k.bq;have an:=Yn (xs.take k) e.k.em e.k.bq;rw[h3]at an;generalize hR (xs.take k) e.k.em e.k.bq=c at *;refine SU;have n:=ad ax;have d:=ad a;clear ax a B D;by_cases bP:xs[k].k.em=e.k.em
  .by_cases bB:xs[k].k.bq=e.k.bq
   .have bS:(xs[k].k.em == e.k.em)=true:=iY.2 bP;have h2:(xs[k].k.bq == e.k.bq)=true:=iY.2 bB;have z:=ad (n.o.trans (by rw[aD ⟨bP,bB⟩]));clear bP bB n;refine sm;have a:=d.o.keep ((bd wr).drewN nq);clear d bI mv R Q;generalize wr.drewN nq=aF at *;refine SU;have dr:=ad (a.pU (c+1));clear a;refine aK;go_roundg (xs.length-(k+1))
    case rel=>exact⟨k+1,rfl,I,cT,by rw[z.o];exact dr.o⟩
    omega
   have bS:(xs[k].k.em == e.k.em)=true:=iY.2 bP;have h2:(xs[k].k.bq == e.k.bq)=false:=ep.2 bB;have z:=ad (n.o.trans (by rw[az λh=>bB h.2]));clear bP bB n;exact WX
  have bS:(xs[k].k.em == e.k.em)=false:=ep.2 bP;have z:=ad (n.o.trans (by rw[az λh=>bP h.1]));clear bP n;exact WX
 obtain rfl:k=xs.length:=I;rw[qS]at a;obtain⟨b,E,L,bg⟩:=q.o;have R:=aX (us:=#[aa fr,aa e.k.em,aa e.k.bq,aa (hR xs e.k.em e.k.bq),aa e.df,aa e.eb,aa e.hq,aa e.eP,aa e.le]) a.bD rfl;have Q:=bV a.bD;have T:=bV a.rs;have g':=aX a.rs;generalize hR xs e.k.em e.k.bq=c at *;by_cases an:64<=xs.length\/15<c
 .rw[aD an]at b;have H:=bN b (bx a (a.fin 0 0 0 0));have hd:decide (64<=(xs.length:U))=true\/decide (64<=(xs.length:U))=false/\decide (15<(c:U))=true:=by
   simp only[hf,tn];omega
  clear a b E L bg an;rcases hd with d1|⟨d1,d2⟩
  all_goals
   go_wp2_with fail;generalize World.setCell _ _ _=a' at *;refine dj (v:=aV #[au A xs.length cap,aG z4,aa 8]) H.o.2.2.1 ?_;refine⟨_,⟨0,0,0,0⟩,8,rfl,?_⟩;rw[H.o.1];exact⟨H.o.2.1.ls.keep H.o.2.2.2.1 (λj f e=>by have:=H.o.2.1.lt j f;omega),H.o.2.2.2.2,λ_=>.inl⟩
 rw[az an]at b;have d1:decide (64<=(xs.length:U))=false:=cN b4;have d2:decide (15<(c:U))=false:=cN b4;have V:=a.keep (bd wr).drew;obtain⟨G,C⟩:=gg (F:=λW=>od w (au A xs.length cap) fr xs (kL (iD fr e) c) W);have cp:=λx:bA G=>aX (us:=#[aa fr,aa e.k.em,aa e.k.bq,aa c,aa e.df,aa e.eb,aa e.hq,aa e.eP,aa e.le]) ((C _).1 x.held).bD rfl;have p:=(C wr.drew).2 V;have d:=ad λW (lb:G W)=>ae_ ((C W).1 lb).ls.row aw bg (kL (iD fr e) c);refine dU;have q:=bN b (bx E L);clear a V C b E L;refine aK;clear R g' Q T;refine cS 8 ?_;refine cJ G (.range 6) 2 6 ?_;refine dN p [0,1,3,4] 2 ?_;refine vr;refine eK 2 λK y=>?_;go_simp;refine(d.o P p).mono ?_;rintro r aF ⟨l',rfl,gf,al⟩;have s:=((m'.o _).1 p).keep (ag.bU al a1);have N:=(m'.o _).2 s;refine y _ _ N ?_;clear y K;refine jh 5 λK y=>?_;go_simp;refine y _ _ N ?_;have g':=aX s.rs;have T:=bV s.rs;have Z:=s.fin fr e.k.em e.k.bq c;have hd:=((m'.o _).1 p).bF.size;have aA:=bZ ((m'.o _).1 p).rs;have H:=bN Z (bx gf (bx hd aA));clear y K cp m' s Z gf hd aA al p N d;refine Uw;refine aK;refine xE;refine dj (v:=aV #[l',aG #[aa fr,aa e.k.em,aa e.k.bq,aa c],aa 0]) H.o.1.1 ?_;refine⟨_,⟨fr,e.k.em,e.k.bq,c⟩,0,rfl,⟨?_,q.o.2.1,q.o.2.2⟩,H.o.1.2.2,λj f=>.inr ?_⟩
 .rw[q.o.1];exact b7 (ku H.o.2.1 (c3 _)) H.o.1.2.1 λj f e=>by have:=(uc H.o.2.1 f).1;have:=H.o.2.2.2;omega
 have:=(uc H.o.2.1 f).1
 have:=H.o.2.2.1
 omega
def rH(h:hh w l fr xs)(em bq eb eP le x:U)(k:J)(hk:bq=k)(s:1<=k/\k<=9)(u:0<=fr/\fr<=1073741824)(t:0<=em/\em<=2)(a7:0<=eb/\eb<=32768)(ao:0<=eP/\eP<=15)(y:0<=le/\le<=600)(ak:aZ x):aB 69 #[l,aa fr,aa em,aa bq,aa eb,aa eP,aa le,af x] w λr w'=>∃ l',r=.returned l'/\om w l fr (fM fr xs (hn em bq bq eb eP le x)) l' w':=by
 subst hk;have B:=ak.1;have C:=ak.2;have A:-32768<=oH em x/\oH em x<=32768:=by unfold oH;split<;>omega
 have j:fx (iD fr (hn em k k eb eP le x))=true:=by
  unfold fx hW gA iD hn;simp only[e9,hf];omega
 have g:∀ W,0<em->aB 116 #[aa (x*32768 / 4194304),aa (-32768),aa 32768] W λe w'=>e=aa (oH em x)/\W=w':=λW a=>by
  have:oH em x=if x*32768 / 4194304 < -32768 then -32768 else if 32768<x*32768 / 4194304 then 32768 else x*32768 / 4194304:=by
   unfold oH;rw[aD a];exact Jl
  rw[this];exact ae1 _ _ _ W
 have f:¬ 0<em->oH em x=0:=λh=>az h;have i:=F2 (x*32768) 4194304 b4 b4;have n:IntKind.i64.wrap x=x:=e0 _ I;have q:IntKind.i64.wrap (x*32768)=x*32768:=e0 _ I;have c:aB 118 #[l,aa fr,.agg (cU (hn em k k eb eP le x))] (w.alloc (ab #[aa 0,aa 1,aa 2,aa 3,aa 4,aa 5,aa 6,aa 7,aa 8,aa 9] 3)) _:=aeZ (h.keep ((bd w).alloc (ab #[aa 0,aa 1,aa 2,aa 3,aa 4,aa 5,aa 6,aa 7,aa 8,aa 9] 3)) (λ_ _=>id)) (hn em k k eb eP le x) j;have an:(w.alloc (ab #[aa 0,aa 1,aa 2,aa 3,aa 4,aa 5,aa 6,aa 7,aa 8,aa 9] 3)).cell? (ah w k)=some (aa k):=bb (aP w _) (by have:k=1\/k=2\/k=3\/k=4\/k=5\/k=6\/k=7\/k=8\/k=9:=I;rcases this with rfl|rfl|rfl|rfl|rfl|rfl|rfl|rfl|rfl<;>rfl);have v:k<10:=I;have z:=h.lt;generalize fM fr xs (hn em k k eb eP le x)=ys at *;unfold hn cU at c;have d:=ad c;have b:=bN i g;generalize oH em x=p at *;by_cases a:0<em
 .refine cg;refine bJ (b.o.1 _) ?_;refine aK;refine bJ (b.o.2 _ a) ?_;exact WY
 rw[f a]at d
 go_in
 exact WY
section
variable{w w':aj}{l:ay}{fr:U}{xs ys:ai aE}{o:J}{u v:J->U}
def ad'{a:U}(h:0<=a/\a<=63):cE a 1=(a%2 == 1)/\cE a 2=(a / 2%2 == 1)/\cE a 4=(a / 4%2 == 1)/\cE a 8=(a / 8%2 == 1)/\cE a 16=(a / 16%2 == 1)/\cE a 32=(a / 32%2 == 1):=by
 obtain⟨n,rfl⟩:=mJ h.1;have b:∀ n:Fin 64,cE (n.val:U) 1=((n.val:U)%2 == 1)/\cE (n.val:U) 2=((n.val:U) / 2%2 == 1)/\cE (n.val:U) 4=((n.val:U) / 4%2 == 1)/\cE (n.val:U) 8=((n.val:U) / 8%2 == 1)/\cE (n.val:U) 16=((n.val:U) / 16%2 == 1)/\cE (n.val:U) 32=((n.val:U) / 32%2 == 1):=by decide +kernel
 exact b ⟨n,b4⟩
def sH(o:J)(v:J->U):J->U:=bn v o (max (v o-1) 0)
def YM(o:J)(v:J->U):sH (o+7) (sH (o+6) v)=qm o v:=by
 unfold sH qm;rw[c0 _ (o+6) (o+7) _ b4]
def v_(o:J)(n:U)(b:aY)(v:J->U):J->U:=if b then bn v (o+4) ((v (o+4)+n)%65536)else v
def ZG(b:0<=v (o+4)/\v (o+4)<=65535)(bS a:aY):v_ o 1024 a (v_ o 64512 bS v)=nV o (kM o 1024 a (kM o (-1024) bS v)):=by
 funext j
 unfold v_ nV kM bn;by_cases h:j=o+4
 .subst h;cases bS<;>cases a<;>simp<;>omega
 cases bS<;>cases a<;>simp[h]
def fv(o:J)(v:J->U):a6 ay:=#[af (v o),af (v (o+1)),af (v (o+2)),af (v (o+3)),aa (v (o+4)),aa (v (o+5)),aa (v (o+6)),aa (v (o+7)),aa (v (o+8)),aa (v (o+9))]
def NK(v:J->U)(ar:ea o)(q:J)(a:q<10):(fv o v)[q]?=some (.int (dw (o+q)) (v (o+q))):=by
 rw[py ar q a]
 match q,a with
 | 0,_=>rfl
 | 1,_=>rfl
 | 2,_=>rfl
 | 3,_=>rfl
 | 4,_=>rfl
 | 5,_=>rfl
 | 6,_=>rfl
 | 7,_=>rfl
 | 8,_=>rfl
 | 9,_=>rfl
def ad6(o:J)(v:J->U)(q:J)(a:q<10)(x:U):(fv o v).setIfInBounds q (.int (if q<4 then .i32 else .i64) x)=fv o (bn v (o+q) x):=by
 unfold fv bn
 match q,a with
 | 0,_=>simp
 | 1,_=>simp
 | 2,_=>simp
 | 3,_=>simp
 | 4,_=>simp
 | 5,_=>simp
 | 6,_=>simp
 | 7,_=>simp
 | 8,_=>simp
 | 9,_=>simp
theorem wM(h:w.heap[g]?=some (ab (aQ v) 99 (0,0)))(ar:ea o):(Instr.loadAt 93 (.pointer (dk g o))).run prog w=.ok (.agg (fv o v)) w:=
 fS (P:=prog) 93 10 g o (fv o v) _ _ isAgg93 sizeOf93 rfl h λj x a=>by
  have b:j<10:=(mI.1 a).1;rw[NK v ar j b]at a;rw[dO v (show o+j<60 by unfold ea at ar;omega)];exact a
def acW(v:J->U)(o n:J)(c:a6 ay)(f:J->U)(an:c.size=n)(ar:o+n<=60)(a:∀ q,q<n->c[q]?=some (.int (dw (o+q)) (f q))):fz (aQ v) o c=aQ (cI o n f v):=by
 refine vt;rw[s5 _ _ _ (by rw[dX,an];omega),an];by_cases hk:k<60
 .rw[dO (cI o n f v) hk];unfold cI;by_cases h:o<=k/\k<o+n
  .rw[aD h,aD h,a _ I,show o+(k-o)=k by omega]
  rw[az h,az h,dO v hk]
 rw[az I,l4 xo,l4 xo]
def BZ(h:w.heap[g]?=some (ab (aQ v) 99 (0,0)))(T:TypeId)(o n:J)(c:a6 ay)(f:J->U)(d:∀ w,(Go.sizeOf T).run prog w=.ok n w)(an:c.size=n)(ar:o+n<=60)(a:∀ q,q<n->c[q]?=some (.int (dw (o+q)) (f q))):(Instr.storeAt T (.pointer (dk g o)) (.agg c)).run prog w=.ok () (w.setRow g (aQ (cI o n f v)))/\(w.setRow g (aQ (cI o n f v))).heap[g]?=some (ab (aQ (cI o n f v)) 99 (0,0))/\ag (λj=>j=g) w (w.setRow g (aQ (cI o n f v))):=by
 have h1:=rK (P:=prog) T n g o c _ _ d an h xo (λx ak=>by
  refine Sf;rfl)
 rw[acW v o n c f an ar a]at h1;exact⟨h1,fb _ _ _ _ _ h,jw w g _⟩
structure dY(w:aj)(ds:ay)(b o:J)(u v:J->U)(fr:U)(l:ay)(xs:ai aE)(W:aj):ae where
 cZ:W.heap[w.heap.size]?=some (ab (aQ u) 99 (0,0))
 eH:W.heap[w.heap.size+1]?=some (ab (aQ bW) 99 (0,0))
 et:W.heap[b]?=some (ab (fv o v) 93 (0,0))
 un:∀ j,j<o\/o+10<=j->u j=v j
 z0:v 0=fr
 ls:hh W l fr xs
 of:∀ j,l.ownBlock=some j->j≠w.heap.size/\j≠w.heap.size+1/\j≠b
 fq:∀ j,l.ownBlock=some j->ds.ownBlock=some j\/w.heap.size<=j
 bF:ag (λj=>w.heap.size<=j) w W
 lb:w.heap.size+2<=b
 ar:ea o
 ho:∀ q,q<4->aZ (v (o+q))
 e':0<=v (o+4)/\v (o+4)<=65535
namespace dY
variable{W W':aj}{b:J}{ds:ay}
theorem keep(h:dY w ds b o u v fr l xs W)(hk:ag aH W W'):dY w ds b o u v fr l xs W':=
 {h with cZ:=hk.heap h.cZ id,eH:=hk.heap h.eH id,et:=hk.heap h.et id,ls:=h.ls.keep hk λ_ _=>id,bF:=h.bF.trans (hk.mono λ_ _ e=>e.elim)}
theorem b8(h:dY w ds b o u v fr l xs W)(ao:om W l fr ys l' W'):dY w ds b o u v fr l' ys W':=
 have hk:ag aH W W':=ag.bU ao.be a1
 {h with cZ:=hk.heap h.cZ id,eH:=hk.heap h.eH id,et:=hk.heap h.et id,ls:=ao.ls,of:=λj a=>(ao.fq j a).elim (h.of j) (λe=>by have:=bZ h.cZ;have:=bZ h.eH;have:=bZ h.et;omega),fq:=λj a=>(ao.fq j a).elim (h.fq j) (λe=>.inr (cu h.bF.size e)),bF:=h.bF.trans (hk.mono λ_ _ e=>e.elim)}
def eR(h:dY w ds b o u v fr l xs W)(q:J)(c:q<10)(k:IntKind)(hk:(if q<4 then IntKind.i32 else .i64)=k)(x:U)(h1:q<4->aZ x)(h2:q=4->0<=x/\x<=65535):dY w ds b o u (bn v (o+q) x) fr l xs (W.setCell (ah b q) (.int k x)):=by
 subst hk;have hk:ag (λj=>j=b) W (W.setCell (ah b q) (.int (if q<4 then .i32 else .i64) x)):=(ag.refl (λj=>j=b) W).setCell (p:=ah b q) rfl _;have ar:=h.ar;have lb:=h.lb;unfold ea at ar;refine {h with cZ:=hk.heap h.cZ I,eH:=hk.heap h.eH I,et:=?_,un:=λj a=>(h.un j a).trans (c0 _ _ _ _ I).symm,z0:=(c0 _ _ _ _ I).trans h.z0,ls:=h.ls.keep hk λj a e=>(h.of j a).2.2 e,bF:=h.bF.setCell (p:=ah b q) (by show w.heap.size<=b;omega) _,ho:=λj a=>?_,e':=?_}
 .rw[<-ad6 o v q c x];exact bX h.et q _
 .rw[n1];split
  .rename_i e;exact h1 (e▸a)
  exact h.ho j a
 rw[n1];split
 .rename_i e;exact h2 e.symm
 exact h.e'
theorem rT(h:dY w ds b o u v fr l xs W)(x y:U)(ak:aZ x)(a8:aZ y):dY w ds b o u (pW o x y v) fr l xs ((W.setCell (ah b 2) (af x)).setCell (ah b 3) (af y)):=
 (h.eR 2 I .i32 rfl x (λ_=>ak) a1).eR 3 I .i32 rfl y (λ_=>a8) a1
def done(h:dY w ds b o u v fr l xs W):cI o 10 (λq=>v (o+q)) u=v:=by
 funext j
 unfold cI;split
 .show v (o+(j-o))=v j;rw[show o+(j-o)=j by omega]
 exact h.un j I
def row(h:dY w ds b o u v fr l xs W)(T:TypeId)(s n:J)(c:a6 ay)(f:J->U)(k:∀ w,(Go.sizeOf T).run prog w=.ok n w)(an:c.size=n)(aA:24<=s/\s+n<=60)(g:∀ q,q<n->c[q]?=some (.int (dw (s+q)) (f q))):∃ i,(Instr.storeAt T (.pointer (dk w s)) (.agg c)).run prog W=.ok () i/\dY w ds b o (cI s n f u) (cI s n f v) fr l xs i:=by
 have ar:=h.ar;have lb:=h.lb;unfold ea at ar;have⟨h1,h2,a⟩:=BZ h.cZ T s n c f k an aA.2 g;refine⟨_,h1,{h with cZ:=h2,eH:=a.heap h.eH I,et:=?_,un:=λj d=>?_,z0:=(iI _ _ _ _ _ I).trans h.z0,ls:=h.ls.keep a λj d e=>(h.of j d).1 e,bF:=h.bF.trans (a.mono λj _ e=>b4),ho:=λq g=>?_,e':=?_}⟩
 .have e:fv o (cI s n f v)=fv o v:=by
   unfold fv;rw[iI _ _ _ _ o I,iI _ _ _ _ (o+1) I,iI _ _ _ _ (o+2) I,iI _ _ _ _ (o+3) I,iI _ _ _ _ (o+4) I,iI _ _ _ _ (o+5) I,iI _ _ _ _ (o+6) I,iI _ _ _ _ (o+7) I,iI _ _ _ _ (o+8) I,iI _ _ _ _ (o+9) I]
  rw[e];exact a.heap h.et I
 .unfold cI;split
  .rfl
  exact h.un j d
 .rw[iI _ _ _ _ _ I];exact h.ho q g
 rw[iI _ _ _ _ _ I];exact h.e'
end dY
def B0{W:aj}(h:W.heap[g]?=some (ab (aQ v) 99 (0,0)))(k:J)(q:IntKind)(a:dw k=q)(x:U):(W.setCell (ah g k) (.int q x)).heap[g]?=some (ab (aQ (bn v k x)) 99 (0,0)):=by
 subst a;rw[bX h k,yB]
def y2{W:aj}{t:J}(aA:W.heap[g]?=some (ab (aQ v) 99 (0,0)))(c:W.heap[t]?=some (ab (aQ bW) 99 (0,0))):∃ a,(Instr.loadAt 99 g).run prog W=.ok (.agg (aQ v)) W/\(Instr.storeAt 99 t (.agg (aQ v))).run prog W=.ok () a/\(loadCellsFrom (ah t 0) 0 60 #[]).run prog a=.ok (aQ v) a/\ag (λj=>j=t) W a:=by
 have⟨h1,h2,b⟩:=dT W 99 60 t (aQ v) _ sizeOf99 (dX _) (dX _) c (rr v);exact⟨_,ks aA,h1,h2,b⟩
def dY.fin{W:aj}{b:J}{ds:ay}(h:dY w ds b o u v fr l xs W):∃ d c,(Instr.loadAt 93 b).run prog W=.ok (.agg (fv o v)) W/\(Instr.storeAt 93 (.pointer (dk w o)) (.agg (fv o v))).run prog W=.ok () d/\(Instr.loadAt 99 w).run prog d=.ok (.agg (aQ v)) d/\(Instr.storeAt 99 (w.heap.size+1:J) (.agg (aQ v))).run prog d=.ok () c/\(loadCellsFrom (ah (w.heap.size+1) 0) 0 60 #[]).run prog c=.ok (aQ v) c/\hh c l fr xs/\Below w w c:=by
 have ar:=h.ar;unfold ea at ar;obtain⟨h1,h2,f⟩:=BZ h.cZ 93 o 10 (fv o v) (λq=>v (o+q)) sizeOf93 rfl b4 (NK v h.ar);rw[h.done]at h1 h2 f;obtain⟨c,i,k,m,g⟩:=y2 h2 (f.heap h.eH I);exact⟨_,c,fS (P:=prog) 93 10 b 0 (fv o v) _ _ isAgg93 sizeOf93 rfl h.et (λj x a=>km),h1,i,k,m,(h.ls.keep f (λj a e=>(h.of j a).1 e)).keep g (λj a e=>(h.of j a).2.1 e),((h.bF.trans (f.mono λj _ e=>b4)).trans (g.mono λj _ e=>b4)).below bu a1⟩
def vH(w:aj)(l:ay)(fr:U)(s:(J->U)×ai aE)(e:Ending)(w':aj):ae:=∃ l',e=aV #[.agg (aQ s.1),l']/\om w l fr s.2 l' w'
end
section
variable{w w':aj}{l:ay}{fr:U}{xs ys:ai aE}{o:J}{u v:J->U}
def dY.made(a:Mid c f r v)(s:hh w l f xs)(ar:ea o):dY w l (w.heap.size+1+1) o v v f l xs (((w.alloc (ab (aQ v) 99)).alloc (ab (aQ bW) 99)).alloc (ab (fv o v) 93)):=by
 have hk:=(((ag.refl (λj=>w.heap.size<=j) w).alloc (ab (aQ v) 99)).alloc (ab (aQ bW) 99)).alloc (ab (fv o v) 93);have h1:=aP (w.alloc (ab (aQ v) 99)) (ab (aQ bW) 99);have h2:=aP ((w.alloc (ab (aQ v) 99)).alloc (ab (aQ bW) 99)) (ab (fv o v) 93);simp only[ft]at h1 h2;have ao:=a.pl o ar;refine⟨b2 (b2 (aP w _) _) _,b2 h1 _,h2,λ_ _=>rfl,a.f0,s.keep hk λj u=>CX,λj u=>CX,λ_=>.inl,hk,bu,ar,λq b=>?_,ao.e'⟩
 match q,b with
 | 0,_=>have:=ao.x;change _<=v (o+0)/\v (o+0)<=_ at this;unfold aZ;omega
 | 1,_=>have:=ao.y;change _<=v (o+1)/\v (o+1)<=_ at this;unfold aZ;omega
 | 2,_=>exact ao.bE
 | 3,_=>exact ao.gV
def ae3(d:Mid c f r v)(m:hh w l f xs)(i:J)(av:i<2)(a:U)(hd:1<v (4+i*10+8)):aB 67 #[.agg (aQ v),l,aa i,aa a] w (vH w l f (fw i a f (v,xs))):=by
 have ar:=kR i av;have h:=ad (dY.made d m ar);have x:=(d.pl _ ar).e5;change 0<=v (4+i*10+8)/\v (4+i*10+8)<=30 at x;have u:fw i a f (v,xs)=(bn v (4+i*10+8) (v (4+i*10+8)-1),xs):=by
  unfold fw qj;rw[aD (show 0<v (4+i*10+8)by omega)];exact aD hd
 rw[u];have n:=kh (w.alloc (ab (aQ v) 99));simp only[ft]at n;have q:=wM (o:=4+i*10) (b2 (aP w (ab (aQ v) 99)) (ab (aQ bW) 99)) ar;unfold fv at q h;have b5:=bN d.f0 (bx m.lt ar)
 go_in
 go_upto_region 2 with first|refine eL n rfl rfl ?_|refine dg q rfl rfl rfl ?_|fail
 generalize World.alloc (World.alloc (World.alloc w _) _) _=W at *;have b:=h.o;have bw:W.cell? (ah w 0)=some (aa f):=by rw[<-b5.o.1];exact bb b.cZ (dO v I)
 have gQ:W.cell? (ah w (4+i*10+8))=some (aa (v (4+i*10+8))):=bb b.cZ (by rw[dO v I,py b5.o.2.2 8 I];rfl);have bR:=aX (us:=(fU (v (4+i*10)) (v (4+i*10+1)) (v (4+i*10+2)) (v (4+i*10+3)) (v (4+i*10+4)) (v (4+i*10+5)) (v (4+i*10+6)) (v (4+i*10+7)) (v (4+i*10+8)) (v (4+i*10+9)))) b.et rfl;have g0:=bV b.cZ;have ax:=B0 b.cZ (4+i*10+8) .i64 (by rw[py b5.o.2.2 8 I];rfl) (v (4+i*10+8)-1);have hk:=(ag.refl (λj=>j=w.heap.size) W).setCell (p:=ah w (4+i*10+8)) rfl (aa (v (4+i*10+8)-1));obtain⟨y,h1,h2,t,k⟩:=y2 ax (hk.heap b.eH I);have H:=bN ((b.ls.keep hk λj g e=>(b.of j g).1 e).keep k λj g e=>(b.of j g).2.1 e) (((b.bF.trans (hk.mono λj _ e=>b4)).trans (k.mono λj _ e=>b4)).below bu a1);have s:=ad t;go_wp2_with first|refine dg h1 rfl rfl rfl ?_|refine c' h2 rfl rfl rfl rfl ?_
 refine dj (v:=aV #[.agg (aQ (bn v (4+i*10+8) (v (4+i*10+8)-1))),l]) s.o ?_;exact⟨l,rfl,H.o.1,H.o.2,λ_=>.inl⟩
end
section
variable{w w':aj}{l:ay}{fr:U}{xs ys:ai aE}{o:J}{u v:J->U}
def AG:a6 ay:=#[af (-2621440),af (-2621440),af 2621440,af (-2621440),af (-2621440),af 2621440,af 2621440,af 2621440]
structure tI(w:aj)(eX o:J)(u v:J->U)(fr:U)(l:ay)(xs:ai aE)(W:aj):ae where
 cZ:W.heap[w.heap.size]?=some (ab (aQ u) 99 (0,0))
 eH:W.heap[w.heap.size+1]?=some (ab (aQ bW) 99 (0,0))
 et:W.heap[w.heap.size+1+1]?=some (ab (fv o v) 93 (0,0))
 nF:W.heap[eX]?=some (ab AG 91 (0,0))
 ls:hh W l fr xs
 of:∀ j,l.ownBlock=some j->j<w.heap.size
 bF:ag (λj=>w.heap.size<=j) w W
 lb:w.heap.size+3<=eX
theorem tI.keep{eX:J}{W W':aj}(h:tI w eX o u v fr l xs W)(hk:ag aH W W'):tI w eX o u v fr l xs W':=
 {h with cZ:=hk.heap h.cZ id,eH:=hk.heap h.eH id,et:=hk.heap h.et id,nF:=hk.heap h.nF id,ls:=h.ls.keep hk λ_ _=>id,bF:=h.bF.trans (hk.mono λ_ _ e=>e.elim)}
def XC(o:J)(f:J->U)(x:U)(N:U)(v:J->U)(ar:4<=o):cI o 10 f (bn (bn v (o+8) x) 1 N)=cI o 10 f (bn v 1 N):=by
 funext j
 unfold cI;split
 .rfl
 unfold bn;split
 .rfl
 exact az I
def afa(z:Mid c f r v)(M:hh w l f xs)(w':0<=f/\f<=1000000)(i:J)(av:i<2)(a:U)(hd:v (4+i*10+8)=1):aB 67 #[.agg (aQ v),l,aa i,aa a] w (vH w l f (fw i a f (v,xs))):=by
 have ar:=kR i av;have d:=ad (dY.made z M ar);have mv:fw i a f (v,xs)=(cI (4+i*10) 10 (lZ (lj (l0 v)) (nH (l0 v)) 0 (v (4+i*10+9))) (bn v 1 (gJ (v 1))),fM f xs (hn (i+1) 6 6 16384 9 0 (lj (l0 v)))):=by
  unfold fw qj;rw[aD (show 0<v (4+i*10+8)by omega)];refine(az (show ¬ 1<v (4+i*10+8)by omega)).trans ?_;rw[XC _ _ _ _ _ b4]
 rw[mv];have d1:decide (1<v (4+i*10+8))=false:=cN b4;have d2:(v (4+i*10+8) == 1)=true:=iY.2 hd;have aw:0<=gJ (v 1)/\gJ (v 1)<=4294967295:=by unfold gJ;omega
 have u:=ad (aff (v 1) z.f1);unfold l0;generalize gJ (v 1)=N at *;have t:0<=N / 65536*4 / 65536/\N / 65536*4 / 65536<=3:=I;generalize N / 65536*4 / 65536=K at *;obtain⟨g,rfl⟩:=mJ t.1;have ps:AG[g*2]?=some (af (lj g))/\AG[g*2+1]?=some (af (nH g)):=by
  have:g=0\/g=1\/g=2\/g=3:=I
  rcases this with rfl|rfl|rfl|rfl<;>exact⟨rfl,rfl⟩
 have r':aZ (lj g):=by unfold lj aZ;split<;>omega
 generalize lj g=X at *;generalize nH g=Y at *;have ys:g<4:=I;have O:=kh (w.alloc (ab (aQ v) 99));simp only[ft]at O;have P:=wM (o:=4+i*10) (b2 (aP w (ab (aQ v) 99)) (ab (aQ bW) 99)) ar;unfold fv at P d;have b5:=bN z.f0 (bx M.lt (bx ar (bx ps r')));clear z M mv ar hd ps r' aw t
 go_in
 go_upto_region 2 with first|refine eL O rfl rfl ?_|refine dg P rfl rfl rfl ?_|fail
 generalize World.alloc (World.alloc (World.alloc w _) _) _=W at *;have b:dY w l (w.heap.size+1+1) (4+i*10) v v f l xs W:=d.o;clear d O P;have bw:W.cell? (ah w 0)=some (aa f):=by rw[<-b5.o.1];exact bb b.cZ (dO v I)
 have bP:W.cell? (ah w 1)=some (bz (v 1)):=bb b.cZ (dO v I);have bR:=aX (us:=(fU (v (4+i*10)) (v (4+i*10+1)) (v (4+i*10+2)) (v (4+i*10+3)) (v (4+i*10+4)) (v (4+i*10+5)) (v (4+i*10+6)) (v (4+i*10+7)) (v (4+i*10+8)) (v (4+i*10+9)))) b.et rfl;have g0:=bV b.cZ;have ax:=B0 b.cZ 1 .u32 rfl N;have hk:=(ag.refl (λj=>j=w.heap.size) W).setCell (p:=ah w 1) rfl (bz N);have k:=bN ax (bx (hk.heap b.eH I) (bx (hk.heap b.et I) (bx (b.ls.keep hk λj m e=>(b.of j m).1 e) (b.bF.trans (hk.mono λj _ e=>b4)))));clear b ax hk;go_wp2_with fail;refine bJ (u.out _) ?_;go_wp2_with fail;generalize World.setCell _ _ _=fo at *;refine aS (sY (-40) (-40) bs bs _) λaF bK=>?_;go_wp2_with fail;refine aS (sY 40 (-40) bs bs _) λbr S=>?_;go_wp2_with fail;refine aS (sY (-40) 40 bs bs _) λzd T=>?_;go_wp2_with fail;refine aS (sY 40 40 bs bs _) λA Z=>?_;have s:=(((((bd fo).ga bK).ga S).ga T).ga Z).alloc (ab AG 91);have b:tI w A (4+i*10) (bn v 1 N) v f l xs (A.alloc (ab #[af (-2621440),af (-2621440),af 2621440,af (-2621440),af (-2621440),af 2621440,af 2621440,af 2621440] 91)):=⟨s.heap k.o.1 id,s.heap k.o.2.1 id,s.heap k.o.2.2.1 id,aP _ _,k.o.2.2.2.1.keep s λ_ _=>id,b5.o.2.1,k.o.2.2.2.2.trans (s.mono λ_ _ e=>e.elim),by have:=bZ k.o.2.2.1;have:=((((bd fo).ga bK).ga S).ga T).ga Z;have:=this.size;omega⟩;clear s bK S T Z k bR g0 bw bP u;have d:=ad b;clear b;go_wp2_with fail;generalize World.alloc A _=C at *;generalize A.heap.size=eX at *;have b:=d.o.keep (bd C).drew;obtain⟨R,Q,q⟩:=BZ b.cZ 93 (4+i*10) 10 (yN X Y 0 (v (4+i*10+9))) _ sizeOf93 rfl I (Bx X Y 0 (v (4+i*10+9)) b5.o.2.2.1);obtain⟨G,h⟩:=gg (F:=λW=>tI w eX (4+i*10) (bn v 1 N) v f l xs W);have cp:=λx:bA G=>aX (us:=(fU (v (4+i*10)) (v (4+i*10+1)) (v (4+i*10+2)) (v (4+i*10+3)) (v (4+i*10+4)) (v (4+i*10+5)) (v (4+i*10+6)) (v (4+i*10+7)) (v (4+i*10+8)) (v (4+i*10+9)))) ((h _).1 x.held).et rfl;have E:∀ x:bA G,x.to.cell? (ah eX (g*2))=some (af X):=λx=>bb ((h _).1 x.held).nF b5.o.2.2.2.1.1;have vl:∀ x:bA G,x.to.cell? (ah eX (g*2+1))=some (af Y):=λx=>bb ((h _).1 x.held).nF b5.o.2.2.2.1.2;have y:=(h C.drew).2 b;have lb:=b.lb;have vs:=bZ Q;have g':tI w eX (4+i*10) (cI (4+i*10) 10 (lZ X Y 0 (v (4+i*10+9))) (bn v 1 N)) v f l xs (C.drew.setRow w (aQ (cI (4+i*10) 10 (lZ X Y 0 (v (4+i*10+9))) (bn v 1 N)))):=⟨Q,q.heap b.eH I,q.heap b.et I,q.heap b.nF I,b.ls.keep q (λj m e=>by have:=b.of j m;omega),b.of,b.bF.trans (q.mono λj _ e=>b4),lb⟩;have a':=ad g';clear b d g' Q q vs;unfold yN at R;generalize World.setRow _ _ _=D at *;refine cS 11 ?_;refine cJ G (.range 10) 1 10 ?_;refine dN y (.range 10) 0 ?_;refine nf ?_;refine cJ (λW=>0<=W.heap.size) [10] 0 1 ?_;refine pE 10 (c3 _) (l3 rfl rfl rfl R) ?_;simp only[Act.put];clear cp E vl y h R;go_wp2_with fail;have b:=a'.o.keep (bd D).drew;generalize m':cI (4+i*10) 10 (lZ X Y 0 (v (4+i*10+9))) (bn v 1 N)=V at *;have s':=ad m';clear m';obtain⟨G,h⟩:=gg (F:=λW=>tI w eX (4+i*10) V v f l xs W);have E:∀ x:bA G,x.to.cell? (ah eX (g*2))=some (af X):=λx=>bb ((h _).1 x.held).nF b5.o.2.2.2.1.1;have sd:∀ W,(∃ x:bA G,W=x.to)->(Instr.loadAt 99 w).run prog W=.ok (.agg (aQ V)) W:=λW ⟨x,ak⟩=>ak▸ks ((h _).1 x.held).cZ;have y:=(h D.drew).2 b;have u:=ad (rH b.ls (i+1) 6 16384 9 0 X 6 rfl I I I I I I b5.o.2.2.2.2);have d:=ad b;clear b a';refine cS 13 ?_;refine cJ G (.range 11) 2 11 ?_;refine pz y (.range 10) 1 λ_=>?_
 repeat (first|(refine rV sd rfl rfl rfl ?_;simp only[Act.put,dV])|go_big_quiet_step (fail))
 refine wpQuiet_nil ?_;generalize D.drew=wd at *;refine jh 10 λK t=>?_;go_simp;refine u.o.mono ?_;rintro e aF ⟨l',rfl,n⟩;have bK:ag aH wd aF:=ag.bU n.be a1;refine t _ _ ((h _).2 (d.o.keep bK)) ?_;obtain⟨v',_,h2,gf,L⟩:=y2 (bK.heap d.o.cZ id) (bK.heap d.o.eH id);have H:=bN (n.ls.keep L λj m e=>by
  have:=bZ d.o.eH
  rcases n.fq j m with fr|fr
  .have:=d.o.of j fr;omega
  .omega) (bx (((d.o.bF.ga n.be).trans (L.mono λj _ e=>b4)).below (B:=w.heap.size) bu a1) (λj m=>(n.fq j m).imp id λe=>cu d.o.bF.size e))
 have se:=ad gf;clear t K E sd y h u d n bK gf L;refine cJ (λW=>0<=W.heap.size) [11,12] 0 2 ?_;refine sT 11 (c3 _) (l3 rfl rfl rfl h2) ?_;simp only[Act.put];refine iV 12 (c3 _) ?_;go_wp2_with fail;refine dj (v:=aV #[.agg (aQ V),l']) se.o ?_;exact⟨l',by rw[<-s'.o],H.o.1,H.o.2.1,H.o.2.2⟩
end
section
section
variable{P:Program}{ops:a6 Oper}{md:Region.Mode}{Q:Exit->Act->aj->ae}{F:aj->ae}{late:J->aY}{aI full:a6 aY}{h7 m:J}{a:Act}{w:aj}
def w9{o:Oper}{K:Act->aj->ae}{v:ay}{w':aj}(s:J)(hrun:(Instr.alloc T true (aV #[])).run P w=.ok v w')(h:K (a.put (some s) v) w')(ar:o.op=.alloc T:=by rfl)(hd:o.dst=some s:=by rfl):o.wp P a w K Q:=by
 unfold Oper.wp execOp;rw[<-hd]at h;exact Vu
end
variable{w w':aj}{l:ay}{fr:U}{xs ys:ai aE}{o b:J}{u v:J->U}
structure oi(w:aj)(ds:ay)(b o:J)(u v:J->U)(fr:U)(l:ay)(xs:ai aE)(qz cv:cr J)(W:aj):ae where
 pl:dY w ds b o u v fr l xs W
 c:∀ c,qz=some c->W.heap[c]?=some (ab cH 91 (0,0))/\b<c/\l.ownBlock≠some c
 d:∀ c,cv=some c->W.heap[c]?=some (ab cH 91 (0,0))/\b<c/\l.ownBlock≠some c
 n:∀ c d,qz=some c->cv=some d->c≠d
def Xr(w:aj):(Instr.alloc 91 true (aV #[])).run prog w=.ok w (w.alloc (ab cH 91)):=bc
namespace oi
variable{W W':aj}{qz cv:cr J}{ds:ay}
theorem call(h:oi w ds b o u v fr l xs qz cv W)(al:Below W W W'):oi w ds b o u v fr l xs qz cv W':=
 have hk:ag aH W W':=ag.bU al a1
 ⟨h.pl.keep hk,λc e=>⟨hk.heap (h.c c e).1 id,(h.c c e).2⟩,λc e=>⟨hk.heap (h.d c e).1 id,(h.d c e).2⟩,h.n⟩
theorem new(h:oi w ds b o u v fr l xs qz cv W):W.heap.size<W.heap.size+1/\(W.alloc (ab cH 91)).heap[W.heap.size]?=some (ab cH 91 (0,0))/\b<W.heap.size/\l.ownBlock≠some W.heap.size:=
 ⟨I,aP W _,bZ h.pl.et,λe=>p5 _ (h.pl.ls.lt _ e)⟩
def aQ(h:oi w ds b o u v fr l xs none cv W):∃ (c:J) (a:aj),(Instr.alloc 91 true (aV #[])).run prog W=.ok (c:ay) a/\oi w ds b o u v fr l xs (some c) cv a:=by
 refine Rx;refine⟨h.pl.keep hk,λc e=>?_,λc e=>⟨hk.heap (h.d c e).1 id,(h.d c e).2⟩,λc d e f=>?_⟩
 .cases e;exact h.new.2
 cases e;have:=bZ (h.d d f).1;omega
def acX(h:oi w ds b o u v fr l xs qz none W):∃ (d:J) (a:aj),(Instr.alloc 91 true (aV #[])).run prog W=.ok (d:ay) a/\oi w ds b o u v fr l xs qz (some d) a:=by
 refine Rx;refine⟨h.pl.keep hk,λc e=>⟨hk.heap (h.c c e).1 id,(h.c c e).2⟩,λc e=>?_,λc d e f=>?_⟩
 .cases e;exact h.new.2
 cases f;have:=bZ (h.c c e).1;omega
def fin{c d:J}(h:oi w ds b o u v fr l xs (some c) (some d) W)(cx a cm f:U):((((W.setCell (ah c 0) (af cx)).setCell (ah c 1) (af a)).setCell (ah d 0) (af cm)).setCell (ah d 1) (af f)).heap[c]?=some (ab #[af cx,af a] 91 (0,0))/\((((W.setCell (ah c 0) (af cx)).setCell (ah c 1) (af a)).setCell (ah d 0) (af cm)).setCell (ah d 1) (af f)).heap[d]?=some (ab #[af cm,af f] 91 (0,0))/\dY w ds b o u v fr l xs ((((W.setCell (ah c 0) (af cx)).setCell (ah c 1) (af a)).setCell (ah d 0) (af cm)).setCell (ah d 1) (af f)):=by
 have an:=h.c c rfl;have hd:=h.d d rfl;have aw:=h.n c d rfl rfl;have lb:=h.pl.lb;have hk:ag (λj=>j=c\/j=d) W ((((W.setCell (ah c 0) (af cx)).setCell (ah c 1) (af a)).setCell (ah d 0) (af cm)).setCell (ah d 1) (af f)):=((((ag.refl (λj=>j=c\/j=d) W).setCell (p:=ah c 0) (.inl rfl) _).setCell (p:=ah c 1) (.inl rfl) _).setCell (p:=ah d 0) (.inr rfl) _).setCell (p:=ah d 1) (.inr rfl) _;refine⟨eB (eB (jq an.1 _ _) (p:=ah d 0) aw _) (p:=ah d 1) aw _,jq (eB (eB hd.1 (p:=ah c 0) aw.symm _) (p:=ah c 1) aw.symm _) _ _,?_⟩;have al:=an.2.1;have i:=hd.2.1;exact {h.pl with cZ:=hk.heap h.pl.cZ b4,eH:=hk.heap h.pl.eH b4,et:=hk.heap h.pl.et b4,ls:=h.pl.ls.keep hk λj g e=>e.elim (λe=>an.2.2 (e▸g)) (λe=>hd.2.2 (e▸g)),bF:=h.pl.bF.trans (hk.mono λj _ e=>b4)}
def half{c:J}(h:oi w ds b o u v fr l xs (some c) cv W)(x y:U):dY w ds b o u v fr l xs ((W.setCell (ah c 0) (af x)).setCell (ah c 1) (af y)):=by
 have an:=h.c c rfl;have lb:=h.pl.lb;have hk:ag (λj=>j=c) W ((W.setCell (ah c 0) (af x)).setCell (ah c 1) (af y)):=((ag.refl (λj=>j=c) W).setCell (p:=ah c 0) rfl _).setCell (p:=ah c 1) rfl _;have al:=an.2.1;exact {h.pl with cZ:=hk.heap h.pl.cZ b4,eH:=hk.heap h.pl.eH b4,et:=hk.heap h.pl.et b4,ls:=h.pl.ls.keep hk λj a e=>an.2.2 (e▸a),bF:=h.pl.bF.trans (hk.mono λj _ e=>b4)}
end oi
def aiN(p v bt av lX v' b a:U):(bits .or .i64 (fI p v bt av 1 2).2.2 (fI lX v' b a 4 8).2.2 != 0)=decide (0<(fI p v bt av 1 2).2.2+(fI lX v' b a 4 8).2.2):=by
 have h:∀ x y:U,(x=0\/x=1\/x=2)->(y=0\/y=4\/y=8)->(bits .or .i64 x y != 0)=decide (0<x+y):=by
  intro x y ak a8;rcases ak with rfl|rfl|rfl<;>rcases a8 with rfl|rfl|rfl<;>rfl
 refine h _ _ ?_ ?_
 .exact TB
 exact TB
end
section
variable{w w':aj}{l:ay}{fr:U}{xs ys:ai aE}{o k:J}{u v:J->U}
def s3(k:J)(v:J->U):a6 ay:=#[af (v (24+k*6)),af (v (24+k*6+1)),af (v (24+k*6+2)),af (v (24+k*6+3)),aa (v (24+k*6+4)),aa (v (24+k*6+5))]
def Gm(v:J->U)(hk:k<6)(q:J)(a:q<6):(s3 k v)[q]?=some (.int (dw (24+k*6+q)) (v (24+k*6+q))):=by
 rw[t' k hk q a]
 match q,a with
 | 0,_=>rfl
 | 1,_=>rfl
 | 2,_=>rfl
 | 3,_=>rfl
 | 4,_=>rfl
 | 5,_=>rfl
theorem ag6(h:w.heap[g]?=some (ab (aQ v) 99 (0,0)))(hk:k<6):(Instr.loadAt 96 (.pointer (dk g (24+k*6)))).run prog w=.ok (.agg (s3 k v)) w:=
 fS (P:=prog) 96 6 g (24+k*6) (s3 k v) _ _ isAgg96 sizeOf96 rfl h λj x a=>by
  have b:j<6:=(mI.1 a).1;rw[Gm v hk j b]at a;rw[dO v (show 24+k*6+j<60 by omega)];exact a
structure lG(w:aj)(u:J->U)(A:a6 ay)(fr:U)(l:ay)(xs:ai aE)(W:aj):ae where
 cZ:W.heap[w.heap.size]?=some (ab (aQ u) 99 (0,0))
 eH:W.heap[w.heap.size+1]?=some (ab (aQ bW) 99 (0,0))
 bD:W.heap[w.heap.size+1+1]?=some (ab A 96 (0,0))
 ls:hh W l fr xs
 of:∀ j,l.ownBlock=some j->j<w.heap.size
 bF:ag (λj=>w.heap.size<=j) w W
namespace lG
variable{W W':aj}{A:a6 ay}
theorem keep(h:lG w u A fr l xs W)(hk:ag aH W W'):lG w u A fr l xs W':=
 {h with cZ:=hk.heap h.cZ id,eH:=hk.heap h.eH id,bD:=hk.heap h.bD id,ls:=h.ls.keep hk λ_ _=>id,bF:=h.bF.trans (hk.mono λ_ _ e=>e.elim)}
theorem set(h:lG w u A fr l xs W)(q:J)(x:ay):lG w u (A.setIfInBounds q x) fr l xs (W.setCell (ah (w+1+1) q) x):=
 have hk:=(ag.refl (λj=>j=w.heap.size+1+1) W).setCell (p:=ah (w+1+1) q) rfl _
 {h with cZ:=hk.heap h.cZ I,eH:=hk.heap h.eH I,bD:=bX h.bD q x,ls:=h.ls.keep hk λj d e=>ts,bF:=h.bF.trans (hk.mono λj _ e=>b4)}
def row(h:lG w u A fr l xs W)(c:a6 ay)(f:J->U)(hk:k<6)(an:c.size=6)(g:∀ q,q<6->c[q]?=some (.int (dw (24+k*6+q)) (f q))):∃ b,(Instr.storeAt 96 (.pointer (dk w (24+k*6))) (.agg c)).run prog W=.ok () b/\lG w (cI (24+k*6) 6 f u) A fr l xs b:=by
 have⟨h1,h2,a⟩:=BZ h.cZ 96 (24+k*6) 6 c f sizeOf96 an I g;exact⟨_,h1,{h with cZ:=h2,eH:=a.heap h.eH I,bD:=a.heap h.bD I,ls:=h.ls.keep a λj d e=>ts,bF:=h.bF.trans (a.mono λj _ e=>b4)}⟩
def ret(h:lG w u A fr l xs W):∃ a,(Instr.loadAt 99 w).run prog W=.ok (.agg (aQ u)) W/\(Instr.storeAt 99 (w.heap.size+1:J) (.agg (aQ u))).run prog W=.ok () a/\(loadCellsFrom (ah (w.heap.size+1) 0) 0 60 #[]).run prog a=.ok (aQ u) a/\om w l fr xs l a:=by
 have⟨a,h1,h2,c,b⟩:=y2 h.cZ h.eH;exact⟨a,h1,h2,c,h.ls.keep b (λj d e=>ts),(h.bF.trans (b.mono λj _ e=>b4)).below bu a1,λ_=>.inl⟩
def yM(h:lG w u A fr l xs W)(ar:ea o)(b:u 0=fr)(a:∀ q,q<4->aZ (u (o+q)))(an:0<=u (o+4)/\u (o+4)<=65535):dY w l W o u u fr l xs (W.alloc (ab (fv o u) 93))/\(W.alloc (ab (fv o u) 93)).heap[w.heap.size+1+1]?=some (ab A 96 (0,0)):=by
 have hk:ag aH W (W.alloc (ab (fv o u) 93)):=(bd W).alloc _;have al:=bZ h.bD;exact⟨⟨hk.heap h.cZ id,hk.heap h.eH id,aP W _,λ_ _=>rfl,b,h.ls.keep hk λ_ _=>id,λj d=>ts,λ_=>.inl,h.bF.trans (hk.mono λ_ _ e=>e.elim),I,ar,a,an⟩,hk.heap h.bD id⟩
end lG
def dY.bw{W:aj}{ds:ay}{b:J}(h:dY w ds b o u v fr l xs W):W.cell? (ah w 0)=some (aa fr):=by
 have ar:=h.ar;unfold ea at ar;rw[<-(h.un 0 b4).trans h.z0];exact bb h.cZ (dO u b4)
def dY.ait{W:aj}{ds:ay}{b:J}(h:dY w ds b o u v fr l xs W)(s:J)(aA:4<=s/\(s<o\/o+10<=s))(q:IntKind)(c:dw s=q)(x:U):dY w ds b o (bn u s x) (bn v s x) fr l xs (W.setCell (ah w s) (.int q x)):=by
 have hk:ag (λj=>j=w.heap.size) W (W.setCell (ah w s) (.int q x)):=(ag.refl (λj=>j=w.heap.size) W).setCell (p:=ah w s) rfl _;have lb:=h.lb;refine {h with cZ:=B0 h.cZ s q c x,eH:=hk.heap h.eH I,et:=?_,un:=λj a=>?_,z0:=(c0 _ _ _ _ I).trans h.z0,ls:=h.ls.keep hk λj a e=>(h.of j a).1 e,bF:=h.bF.trans (hk.mono λj _ e=>b4),ho:=λj a=>?_,e':=?_}
 .have e:fv o (bn v s x)=fv o v:=by
   unfold fv;rw[c0 _ _ o _ I,c0 _ _ (o+1) _ I,c0 _ _ (o+2) _ I,c0 _ _ (o+3) _ I,c0 _ _ (o+4) _ I,c0 _ _ (o+5) _ I,c0 _ _ (o+6) _ I,c0 _ _ (o+7) _ I,c0 _ _ (o+8) _ I,c0 _ _ (o+9) _ I]
  rw[e];exact hk.heap h.et I
 .unfold bn;split
  .rfl
  exact h.un j a
 .rw[c0 _ _ _ _ I];exact h.ho j a
 rw[c0 _ _ _ _ I];exact h.e'
end
section
variable{w w':aj}{l:ay}{fr:U}{xs ys:ai aE}{o k:J}{u v:J->U}
def lG.made{A:a6 ay}(s:hh w l fr xs):lG w v A fr l xs (((w.alloc (ab (aQ v) 99)).alloc (ab (aQ bW) 99)).alloc (ab A 96)):=by
 have hk:=(((ag.refl (λj=>w<=j) w).alloc (ab (aQ v) 99)).alloc (ab (aQ bW) 99)).alloc (ab A 96);have h1:=aP (w.alloc (ab (aQ v) 99)) (ab (aQ bW) 99);have h2:=aP ((w.alloc (ab (aQ v) 99)).alloc (ab (aQ bW) 99)) (ab A 96);simp only[ft]at h1 h2;exact⟨b2 (b2 (aP w _) _) _,b2 h1 _,h2,s.keep hk λj u=>CX,s.lt,hk⟩
def ajn(hk:k<6)(q:J)(a:q<6):(#[af 0,af 0,af 0,af 0,aa 0,aa 0]:a6 ay)[q]?=some (.int (dw (24+k*6+q)) 0):=by
 have:=Gm (λ_=>0) hk q a
 exact this
def aaN(k:J)(v:J->U):s3 k (fp (24+k*6) v)=#[af (nJ k v),af (nK k v),af (v (24+k*6+2)),af (v (24+k*6+3)),aa (v (24+k*6+4)),aa (v (24+k*6+5)-1)]:=by
 have g:=wk (24+k*6) v;unfold s3;rw[g.1,g.2.1,g.2.2.1,g.2.2.2 (24+k*6+2) I I I,g.2.2.2 (24+k*6+3) I I I,g.2.2.2 (24+k*6+4) I I I];rfl
def aaM(k:J)(v:J->U):cI (24+k*6) 6 (λq=>fp (24+k*6) v (24+k*6+q)) (dJ k v)=fp (24+k*6) v:=by
 funext j
 unfold dJ cI;split
 .dsimp only;rw[show 24+k*6+(j-(24+k*6))=j by omega]
 exact((wk _ v).2.2.2 j I I I).symm
def afc(P:Mid c f r v)(an:c<=1000)(s':hh w l f xs)(aj1:0<=f/\f<=1000000)(hk:k<6)(r':v (24+k*6+4)≠0):aB 70 #[.agg (aQ v),l,aa k] w (vH w l f (nt k f (v,xs))):=by
 have z:=(P.pN k hk).resolve_left (λajR=>r' (ajR 4 I));have F:v (24+k*6+4)=1\/v (24+k*6+4)=2:=by have:1<=v (24+k*6+4)/\v (24+k*6+4)<=2:=z.2.2.2.2.1;omega
 obtain⟨i,av⟩:=c8 (2-v (24+k*6+4)).toNat;have ajT:i<2:=I;have M:=ahf (fr:=f) (xs:=xs) F i av;obtain⟨R,T⟩:∃ R,nt k f (v,xs)=R:=⟨_,rfl⟩;rw[T];have d:=ad (T.symm.trans M);have aj4:1<=v (24+k*6+5)/\v (24+k*6+5)<=40:=z.2.2.2.2.2;have f0:aZ (v (24+k*6)):=by have:-4194304<=v (24+k*6)/\v (24+k*6)<=4194304:=z.1;unfold aZ;omega
 have f1:aZ (v (24+k*6+1)):=by have:-4194304<=v (24+k*6+1)/\v (24+k*6+1)<=4194304:=z.2.1;unfold aZ;omega
 have sd:∀ w,aB 108 #[aG #[af (v (24+k*6)),af (v (24+k*6+1))],aG #[af (v (24+k*6+2)),af (v (24+k*6+3))]] w λe w'=>e=aG #[af (nJ k v),af (nK k v)]/\Below w w w':=yS f0 f1 z.2.2.1 z.2.2.2.1;have gf:=ad sd;have D:=ad (lG.made (v:=v) (A:=s3 k v) s');have X:=kh (w.alloc (ab (aQ v) 99));simp only[ft]at X;have p:=ag6 (b2 (aP w (ab (aQ v) 99)) (ab (aQ bW) 99)) hk;unfold s3 at p D;have b5:=ad P;clear P M T z s' r' f0 f1 sd
 go_in
 go_upto_region 2 with first|refine eL X rfl rfl ?_|refine dg p rfl rfl rfl ?_|fail
 generalize World.alloc (World.alloc (World.alloc w _) _) _=W at *;have C:=D.o;clear D X p;have dq:=aX C.bD;have g0:=bV C.bD;have D:Hid (lG w v #[af (v (24+k*6)),af (v (24+k*6+1)),af (v (24+k*6+2)),af (v (24+k*6+3)),aa (v (24+k*6+4)),aa (v (24+k*6+5)-1)] f l xs _):=ad (C.set 5 (aa (v (24+k*6+5)-1)));clear C;go_upto_region 3 with fail
 have C:=D.o;generalize World.setCell _ _ _=W at *;clear D dq g0;have dq:=aX C.bD;have D:=ad C;clear C;go_wp2_with fail;refine aS (gf.o _) λaq m=>?_;have C:=D.o.keep (ag.bU m a1);clear D dq gf m;have dq:=aX C.bD;have g0:=bV C.bD;have D:Hid (lG w v #[af (nJ k v),af (nK k v),af (v (24+k*6+2)),af (v (24+k*6+3)),aa (v (24+k*6+4)),aa (v (24+k*6+5)-1)] f l xs _):=ad ((C.set 0 (af (nJ k v))).set 1 (af (nK k v)));clear C;go_upto_region 4 with fail
 have C:=D.o;generalize World.setCell (World.setCell _ _ _) _ _=W at *;clear D dq g0;obtain⟨g',vs,C⟩:=C.row #[af 0,af 0,af 0,af 0,aa 0,aa 0] (λ_=>0) hk rfl (ajn hk);have D:Hid (lG w (dJ k v) _ f l xs g'):=ad C;clear C;go_upto_region 5 with first|refine c' vs rfl rfl rfl rfl ?_|fail
 clear vs;simp only[Act.put,dV];generalize g'=W at *;have dq:=aX D.o.bD;by_cases h1:v (24+k*6+5)=1
 .have d1:(v (24+k*6+5)-1 == 0)=true:=iY.2 I;replace d:Hid (R=(dJ k v,xs)):=ad (d.o.trans (aD h1));clear h1;go_quiet (fail);have C:=D.o.keep ((bd W).drewN nq);have⟨hd,m,bK,s,n⟩:=C.ret;have K:=bN s n;clear C D dq s n;exact Q3
 have d1:(v (24+k*6+5)-1 == 0)=false:=ep.2 b4;replace d:=ad (d.o.trans (az h1));have a0:=ej (bb (k:=0) D.o.bD rfl);have T':=ej (bb (k:=1) D.o.bD rfl);have a5:=ej (bb (k:=5) D.o.bD rfl);have se:∀ w,aB 112 #[aa 64] w λe w'=>e=aG (d' (-4194304) (-4194304) 4194304 4194304)/\Below w w w':=Od 64 bs;have vl:=ae5 (-4194304) (-4194304) 4194304 4194304 (nJ k v) (nK k v);generalize gm (-4194304) (-4194304) 4194304 4194304 (nJ k v) (nK k v)=V' at *;clear h1;refine rW bc bc ?_
 repeat (go_big_quiet_step (first|(go_at_call 112;exact Calls.kn (se _))|(go_at_call 119;exact Calls.kn (vl _))))
 refine wpQuiet_nil ?_;intro _ zp;obtain⟨x,rfl⟩:=zp;have C:=D.o.keep (ag.bU x.below a1);generalize x.to=hd at *;clear a0 T' a5 se vl dq D;cases V'
 .replace d:Hid (R=(dJ k v,xs)):=ad (d.o.trans (aD rfl));obtain⟨TS,m,bK,s,n⟩:=C.ret;have K:=bN s n;clear C s n;exact Q3
 replace d:Hid (R=if tX k i v=true then j' i f (dJ k v,xs)else(fp (24+k*6) v,xs)):=ad (d.o.trans (az Bool.noConfusion));have dq:=aX C.bD;refine tE;go_upto_if 43 with fail
 go_cut [9]from 43 to 43 (λt bE=>t=aa i/\bE=hd)
 case first=>
  rcases F with F|F
  .have e:(v (24+k*6+4) == 2)=false:=ep.2 b4;have E:=ad (show(i:U)=1 by omega);exact VB
  have e:(v (24+k*6+4) == 2)=true:=iY.2 F;have E:=ad (show(i:U)=0 by omega);exact VB
 obtain⟨rfl,rfl⟩:=hcut;clear dq F av d1;have ar:=kR i ajT;have h:∀ j,j<24->dJ k v j=v j:=λj aj3=>iI _ _ _ _ _ I;have ao:=b5.o.pl _ ar;have Y:∀ q,q<4->aZ (dJ k v (4+i*10+q)):=λq ajU=>by
  rw[h _ b4]
  match q,ajU with
  | 0,_=>have:=ao.x;change _<=v (4+i*10+0)/\v (4+i*10+0)<=_ at this;unfold aZ;omega
  | 1,_=>have:=ao.y;change _<=v (4+i*10+1)/\v (4+i*10+1)<=_ at this;unfold aZ;omega
  | 2,_=>exact ao.bE
  | 3,_=>exact ao.gV
 obtain⟨a,L⟩:=D.o.yM ar ((h 0 b4).trans b5.o.f0) Y (by rw[h _ b4];exact ao.e');have p:=wM D.o.cZ ar;have B:=ad (D.o.keep ((bd wc).alloc (ab (fv (4+i*10) (dJ k v)) 93)));unfold fv at p B L;have Tq:=ad Y;have g:Hid (dY w l wc (4+i*10) (dJ k v) (dJ k v) f l xs (wc.alloc (ab (fU (dJ k v (4+i*10)) (dJ k v (4+i*10+1)) (dJ k v (4+i*10+2)) (dJ k v (4+i*10+3)) (dJ k v (4+i*10+4)) (dJ k v (4+i*10+5)) (dJ k v (4+i*10+6)) (dJ k v (4+i*10+7)) (dJ k v (4+i*10+8)) (dJ k v (4+i*10+9))) 93))):=ad a;clear a D ao Y;go_upto_region 11 with first|refine dg p rfl rfl rfl ?_|fail
 clear p;generalize World.alloc wc _=TS at *;generalize wc.heap.size=b at *;have a:=g.o;have ax:=B.o;have M:tX k i v=(decide (dJ k v (4+i*10+8)=0)&&jj (d_ (dJ k v (4+i*10)) (nJ k v)) (d_ (dJ k v (4+i*10+1)) (nK k v)) (cY 65536 262144)):=by
  unfold tX;rw[h _ b4,h _ b4,h _ b4]
 have ajS:0<=dJ k v (4+i*10+8):=by rw[h _ b4];exact(b5.o.pl _ ar).e5.1
 have Z:=ad (Oj (nJ k v) (nK k v) 65536 (dJ k v (4+i*10)) (dJ k v (4+i*10+1)) 262144 (gE _) (gE _) eN (a.ho 0 I) (a.ho 1 I) eN);have fo:0<=dJ k v (4+i*10+5)/\dJ k v (4+i*10+5)<=3/\(dJ k v (4+i*10+8)=0->0<dJ k v (4+i*10+5)):=by
  rw[h _ b4,h _ b4]
  have:=(b5.o.pl _ ar).ao
  exact⟨this.1,this.2,(b5.o.pl _ ar).up.2⟩
 have mv:0<=dJ k v (4+(1-i)*10+9)/\dJ k v (4+(1-i)*10+9)<=1000:=by
  rw[h _ b4]
  have:=(b5.o.pl _ (kR (1-i) b4)).dF
  change 0<=v (4+(1-i)*10+9)/\v (4+(1-i)*10+9)<=c at this;omega
 refine p9;refine j1;have bI:=aX a.et;rw[M]at d;clear a ax h b5 Tq L M fo mv;have Q':decide (0<dJ k v (4+i*10+8))=true\/decide (0<dJ k v (4+i*10+8))=false:=by cases decide (0<dJ k v (4+i*10+8))<;>simp
 rcases Q' with d1|d1
 .replace d:Hid (R=(fp (24+k*6) v,xs)):=ad (d.o.trans (az (by have:=r8 d1;rw[cN (show ¬ dJ k v (4+i*10+8)=0 by omega)];simp)));clear Z g Q;exact Tg
 have d0:dJ k v (4+i*10+8)=0:=by have:=CL d1;omega
 rw[dh d0,r_]at d;have G:=bN (Q.o.1.2.2 d0) Q.o;clear d0 ajS Q;generalize jj (d_ (dJ k v (4+i*10)) (nJ k v)) (d_ (dJ k v (4+i*10+1)) (nK k v)) (cY 65536 262144)=W' at *;refine aK;refine aS (Z.out _) λaj5 u=>?_;have u:=ag.bU (S:=aH) u a1;clear dq bI Z;cases W'
 .replace d:Hid (R=(fp (24+k*6) v,xs)):=ad (d.o.trans (az Bool.noConfusion));replace B:=ad (B.o.keep u);have dq:=aX B.o.bD;clear g G u;exact Tg
 replace d:Hid (R=j' i f (dJ k v,xs)):=ad (d.o.trans (aD rfl));replace g:=ad (g.o.keep u);clear B u;generalize dJ k v=V at *;have bI:=aX g.o.et;have g1:=bV g.o.et;have ajZ:0<V (4+i*10+5)/\V (4+i*10+5)<=3:=⟨G.o.1,G.o.2.1.2.1⟩;have aj0:=G.o.2.2;replace g:=ad (g.o.eR 5 I .i64 rfl (V (4+i*10+5)-1) a1 a1);have lb:bn V (4+i*10+5) (V (4+i*10+5)-1) (4+i*10)=V (4+i*10):=c0 _ _ _ _ I;have m':bn V (4+i*10+5) (V (4+i*10+5)-1) (4+i*10+5)=V (4+i*10+5)-1:=pV _ _ _;unfold j' at d;dsimp only at d;clear G;simp only;go_upto_region 15 with fail
 have a:=g.o;refine xE;generalize bn V (4+i*10+5) (V (4+i*10+5)-1)=v1 at *;have E:=bN lb m';clear g bI g1 lb m';have bI:=aX a.et;have bw:=a.bw;have Z:=ad (rH a.ls (i+1) 2 32768 8 0 (v1 (4+i*10)) 2 rfl I I I I I I (a.ho 0 I));have aj2:(i:U)+1<=2:=I;have g:=ad a;clear a;refine si;rintro e ajV ⟨l',rfl,H⟩;have a:=g.o.b8 H;rw[E.out.1]at a;clear H Z bI g bw;have bI:=aX a.et;generalize fM f xs (hn (i+1) 2 2 32768 8 0 (V (4+i*10)))=cm at *;have g1:=bV a.et;by_cases al:1<V (4+i*10+5)
 focus
  have h2:(v1 (4+i*10+5) == 0)=false:=ep.2 (by rw[E.out.2];omega);replace d:=ad (d.o.trans (aD al));clear al E
 rotate_left
 focus
  have h2:(v1 (4+i*10+5) == 0)=true:=iY.2 (by rw[E.out.2];omega);replace d:=ad (d.o.trans (az al));have g:=ad (a.eR 8 I .i64 rfl 30 a1 a1);have N:=ad ((c0 v1 (4+i*10+8) (4+i*10) 30 I).trans E.out.1);clear al E a;go_upto_region 18 with fail
  have a:=g.o;generalize World.setCell _ _ _=a' at *;generalize bn v1 (4+i*10+8) 30=v2 at *;clear g bI g1 h2;have ajY:(1:U)-i=((1-i:J):U):=I;have ps:1-i<2:=I;have Eg:a'.cell? (ah w (4+(1-i)*10+9))=aa (V (4+(1-i)*10+9)):=bb a.cZ (by rw[dO V b4,py (kR (1-i) ps) 9 b4];rfl);have h7:=bV a.cZ;have g:=ad (a.ait (4+(1-i)*10+9) b4 .i64 (by rw[py (kR (1-i) ps) 9 b4];rfl) (V (4+(1-i)*10+9)+1));replace N:=ad ((c0 v2 (4+(1-i)*10+9) (4+i*10) (V (4+(1-i)*10+9)+1) I).trans N.o);clear a;go_upto_region 19 with fail
  have a:=g.o;generalize World.setCell _ _ _=a' at *;generalize bn v2 (4+(1-i)*10+9) (V (4+(1-i)*10+9)+1)=v3 at *;clear g Eg h7;have bI:=aX a.et;have bw:=a.bw;have Z:=ad (rH a.ls (i+1) 5 32768 10 0 (v3 (4+i*10)) 5 rfl I I I I I I (a.ho 0 I));have g:=ad a;clear a;go_wp2_with fail;refine Z.o.mono ?_;rintro e ajV ⟨l',rfl,H⟩;have a:=g.o.b8 H;rw[N.out]at a;clear H Z bI g bw N
 rotate_left
 all_goals
  obtain⟨ajW,ajX,m,bK,s,n,v',ys,zd⟩:=a.fin;have K:=bN v' (bx ys (bx zd a.fq));clear a v' ys zd;go_wp2_with first|((with_reducible refine dg m rfl rfl ?_ ?_);exact rfl)|((with_reducible refine c' bK rfl rfl ?_ ?_ ?_);exact rfl;exact rfl)|((with_reducible refine dg s rfl rfl ?_ ?_);exact rfl)|((with_reducible refine c' n rfl rfl ?_ ?_ ?_);exact rfl;exact rfl)
 focus
  refine dj (v:=aV #[.agg (aQ v1),l']) K.out.1 ?_
 rotate_left
 focus
  refine dj (v:=aV #[.agg (aQ v3),l']) K.out.1 ?_
 rotate_left
 all_goals
  exact⟨_,by rw[d.o],by rw[d.o];exact⟨K.out.2.1,K.out.2.2.1,K.out.2.2.2⟩⟩
end
end Go.Proofs.YtalagblioepadaaGreatDoor
