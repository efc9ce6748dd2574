/- The proof, part 24. -/
import Derived.Test.YtalagblioepadaaGreatDoorZb19
import Derived.Test.YtalagblioepadaaGreatDoorZb13
namespace Go.Proofs.YtalagblioepadaaGreatDoor
set_option linter.all false
open Proofs.Tryz List Go.RowKit
set_option maxRecDepth 100000
set_option maxHeartbeats 2000000
def w0{p:ak}(h:p:=by rw[r];omega):p:=h
def zP{p:ak}(h:p:=by simpa using a):p:=h
def uN{p:ak}(h:p:=by have:=ax _ e;omega):p:=h
def DZ{p:ak}(h:p:=by cases e;exact c.out.mz.size):p:=h
def DX{p:ak}(h:p:=by unfold maxLen;show 1<=_;omega):p:=h
def Mo{p:ak}(h:p:=by
 have F:=af j;have r':(l.b_%8 != 0)=false:=by simp[j]
 have sd:l.b_.tmod 8=l.b_%8:=pf aN.1;clear j;obtain⟨Q,T⟩:∃ Q,nT l lead=Q:=⟨_,rfl⟩;have ps:=UA l lead;rw[T]at ps;have CW:=af T;clear T;obtain⟨g,u⟩|⟨g,u⟩|⟨g,u⟩|⟨g,u⟩|⟨⟨g,g'⟩,u⟩:=ps
 all_goals
  have m':=af u;clear u;go_wp2_with fail;refine iK 10 aH aH ?_;simp only[hI,il,hG,hA]
  repeat (go_big_quiet_step ((go_at_call 262;exact(l'.o _).mono λ_ _ h=>⟨h.1,_,h.2.symm⟩)))
  refine wpQuiet_nil ?_;intro _ zp;obtain⟨nq,Aw⟩:=zp;subst Aw;go_wp2_with fail;go_ret;have G:=aW (aB.drewN nq) (ae (je [i,⟨Q,none,0⟩]).toArray 254);have hk:=((a_ aB).drewN nq).alloc (ae (je [i,⟨Q,none,0⟩]).toArray 254);have r:=c.out.mz.trans (hk.below c.out.mz.size (λ_ _ x=>x));have u:=m'.o;clear m';subst u;refine⟨⟨some (ad aB 0 ab),2,[i,⟨_,none,0⟩],rfl,⟨uj G rfl (by unfold maxLen;show 2<=_;omega),?_,λy e=>DZ⟩,?_⟩,r⟩
  .intro x L;simp only[e3,uz,or_false]at L;rcases L with rfl|rfl
   .exact⟨c.out.bytes.keeps hk (λ_ _ _=>id),c.out.new⟩
   exact⟨nA _,λ_ e=>by simp at e⟩
  show [i.m,_]=ml l _;unfold ml;rw[aD F.out,c.out.is,CW.out]
 ):p:=h
def M_{p:ak}(h:p:=by
 intro x L;simp only[e3,uz,or_false]at L;subst L;exact⟨c.out.bytes.keeps hk (λ_ _ _=>id),c.out.new⟩
 ):p:=h
def Nc{p:ak}(h:p:=by
 exact b3 s ((Keeps.refl (λk=>k=w) an).setCell (p:=ad w 0 ab) rfl _) (λb aj h=>zF)
 ):p:=h
def Nh{p:ak}(h:p:=by
 refine⟨aI,.inl ⟨_,_,rfl,run_takeDeferred hd,?_⟩⟩;refine⟨_,zb rfl _ _ _,?_⟩;exact Zc.o _
 ):p:=h
def LR{p:ak}(h:p:=by
 rw[hh]at this;rw[this];unfold ml;split<;>simp
 ):p:=h
variable{w:ai}{B:ir}{l:b9}
def SH(a:Addr)(w:ai):az 197 #[.pointer (some a)] w λe w'=>e=.returned (.func (.func 260) #[] #[w.heap.size])/\w.alloc (ae #[.pointer (some a)] 60)=w':=by
 go_in
 go_wp2;go_ret;exact⟨rfl,rfl⟩
def Yb{L:ah aZ}(h:iq w B.h2 B.d2 8 L)(V:w.cell? (ad B.p 9 ab)=some (.pointer (some (ad B.h2 0 ab))))(a:J)(aq:w.cell? (ad a 0 ab)=some (.pointer (some (ad B.p 0 ab))))(z:a<w.heap.size/\B.p<w.heap.size)(hne:a≠B.h2/\a≠B.d2/\B.p≠B.h2/\B.p≠B.d2)(i:J->ak)(t:¬ i a/\¬ i B.p/\¬ i B.h2/\¬ i B.d2):E1 prog 260 #[a] (λm:aZ=>#[.agg (bx m)]) L i (λb=>b=B.h2\/b=B.d2) (λW=>iq W B.h2 B.d2 8 []) w:=by
 intro l S W gf hk v' D Z T;subst gf;have vl:=h.le;have Q:=af z;have g':=hne.1;have hd:=hne.2.1;have lb:=hne.2.2.1;have l':=hne.2.2.2;refine gD.2 ?_
 go_in
 go_wp2_with fail;go_loopg [] L.length (λg wr=>∃ pre rest:ah aZ,L=pre++rest/\g=rest.length/\wr.cell? (ad a 0 ab)=some (.pointer (some (ad B.p 0 ab)))/\wr.cell? (ad B.p 9 ab)=some (.pointer (some (ad B.h2 0 ab)))/\iq wr B.h2 B.d2 8 rest/\S pre wr/\w.heap.size+2<=wr.heap.size)
 case atStart=>exact⟨[],L,rfl,rfl,hk.cell aq id,hk.cell V id,h.keeps hk id id,T,U⟩
 have⟨pre,rest,E,a1,M,H,C,A,m'⟩:=hrel;have y:=af E;clear E;cases rest with
 | nil=>
  go_wp2_with fail;refine(Ta C).mono ?_;rintro e aB ⟨rfl,k,d⟩;have dF:=my aB;have f:=aW aB (ae (bx aZ.zero) 254);obtain⟨u,_,q⟩:=dO (aB.alloc (ae (bx aZ.zero) 254)) 254 7 aB.heap.size (bx aZ.zero) _ sizeOf254 rfl rfl f (mK _);have c:=cK ((a_ aB).alloc (ae (bx aZ.zero) 254)) q a7;have s:=k.keeps c id id;have r:=D _ _ _ A (d.trans (c.mono λ_ _ x=>x.elim));clear f q c k d;generalize (aB.alloc (ae (bx aZ.zero) 254)).setRow aB.heap.size (bx aZ.zero)=P at *;go_wp2_with (first|(refine ea dF rfl rfl ?_;simp only[Act.put,c_])|(refine c8 u rfl rfl rfl rfl ?_;try simp only[Act.put]));refine cU (v:=aV #[]) jc rfl ?_;have he:L=pre:=by rw[y.out,eX]
  exact⟨⟨_,rfl⟩,by rw[he];exact r,s⟩
 | cons m rest=>
  go_wp2_with fail;refine(S' C).mono ?_;rintro e aB ⟨rfl,k,d⟩;have dF:=my aB;have f:=aW aB (ae (bx aZ.zero) 254);obtain⟨u,_,q⟩:=dO (aB.alloc (ae (bx aZ.zero) 254)) 254 7 aB.heap.size (bx m) _ sizeOf254 rfl rfl f (mK _);have G:=fe (aB.alloc (ae (bx aZ.zero) 254)) aB.heap.size _ (bx m) 254 f;have c:=cK ((a_ aB).alloc (ae (bx aZ.zero) 254)) q a7;have s:=k.keeps c id id;have r:=D _ _ _ A (d.trans (c.mono λ_ _ x=>x.elim));have ps:=b7 (b7 m' d.size) c.size;have N:=(d.trans (c.mono λ_ _ x=>x.elim)).cell (p:=ad a 0 ab) M (λe=>e.elim g' hd);have K:=(d.trans (c.mono λ_ _ x=>x.elim)).cell (p:=ad B.p 9 ab) H (λe=>e.elim lb l');clear f q c k d M H A C;generalize (aB.alloc (ae (bx aZ.zero) 254)).setRow aB.heap.size (bx m)=P at *;have sd:=aP G;clear G;go_upto_region 1 with(first|(refine ea dF rfl rfl ?_;simp only[Act.put,c_])|(refine c8 u rfl rfl rfl rfl ?_;try simp only[Act.put]))
  refine(ob (n:=0)).1 ?_;obtain⟨fn,tmps,assign,body,O,F⟩:=Z pre m rest P y.out r;simp only[bx]at O;gi_wp2;refine⟨rfl,F.mono ?_⟩;rintro e s' ⟨rfl,X,j⟩;clear O F sd;have z:=Q.out;have a':=j.cell (p:=ad a 0 ab) N (λe=>e.elim t.1 (λe=>by have e:a=w.heap.size+1:=e;omega));have fr:=j.cell (p:=ad B.p 9 ab) K (λe=>e.elim t.2.1 (λe=>by have e:B.p=w.heap.size+1:=e;omega));have Y:=s.keeps j (λe=>e.elim t.2.2.1 a7) (λe=>e.elim t.2.2.2 a7);have r':=b7 ps j.size;have R:=af (show L=(pre++[m])++rest by rw[y.out];simp);clear z N K s r j dF u;gi_wp2;go_wp2;go_roundg rest.length
  case measure=>simp at a1;omega
  exact⟨pre++[m],rest,R.o,rfl,a',fr,Y,X,r'⟩
structure ho where
 m:aZ
 a:b4 Addr
 c:J
def ko(x:ho):a6 aw:=#[I x.m.kind,aK x.m.bL,bz x.m.cl,bz x.m.cj,ao x.a x.m.a8.length x.c,aK x.m.sum,I x.m.lead]
def je(xs:ah ho):ah aw:=xs.flatMap λx=>(ko x).toList
structure zX(b:J)(w:ai)(A:b4 Addr)(cap:J)(xs:ah ho):ak where
 bt:dQ w 7 A xs.length cap (je xs)
 a8:∀ x∈xs,c1 w x.a x.c x.m.a8/\∀ y,x.a=some y->b<=y.block
 new:∀ y,A=some y->b<=y.block
def mZ(l:b9):aZ:=if l.own=[]then⟨5,0,0,l.next%65536,[],0,0⟩else⟨3,0,l.c2%65536,l.next%65536,l.own,0,0⟩
def nT(l:b9)(lead:aa):aZ:=⟨6,0,l.next%65536,0,[],0,max (-1000) (min lead 1000)⟩
def ml(l:b9)(lead:aa):ah aZ:=if l.b_%8=0 then [mZ l,nT l lead]else [mZ l]
def Oq{a:b4 Addr}{n cap:J}{L:ah aQ}(h:dQ w 1 a n cap ((j5 L).map λx=>aF x)):c1 w a cap L:=by
 have⟨h1,h2,c,d⟩:=h;have au:n=L.length:=by simp[j5]at h1;omega
 refine⟨U,c,?_⟩;by_cases e:L=[]
 .exact .inl e
 have⟨b,o,bj,aq⟩:=d (by have:=p'.2 e;omega);exact .inr ⟨b,o,bj,λi av=>aq i _ (by simp[j5,av,eg])⟩
def nA(w:ai):c1 w none 0 []:=⟨c9 _,c' _,.inl rfl⟩
theorem uj{b n cD:J}{xs:ah aw}{t:TypeId}(c:w.heap[b]?=some (ae xs.toArray t (0,0)))(d:xs.length=n*cD)(hm:n<=maxLen):dQ w cD (some (ad b 0 ab)) n n xs:=
 ⟨d,c9 _,hm,λ_=>⟨b,0,rfl,λj u a=>by rw[gv];exact bb c zP⟩⟩
structure EZ(bl w:ai)(l:b9)(x:ho):ak where
 bytes:c1 w x.a x.c x.m.a8
 new:∀ y,x.a=some y->bl.heap.size<=y.block
 is:x.m=mZ l
 mz:Below bl bl w
def UA(l:b9)(lead:aa):(lead < -1000/\nT l lead=⟨6,0,l.next%65536,0,[],0,-1000⟩)\/(lead=-1000/\nT l lead=⟨6,0,l.next%65536,0,[],0,-1000⟩)\/(lead=1000/\nT l lead=⟨6,0,l.next%65536,0,[],0,1000⟩)\/(1000<lead/\nT l lead=⟨6,0,l.next%65536,0,[],0,1000⟩)\/((-1000<lead/\lead<1000)/\nT l lead=⟨6,0,l.next%65536,0,[],0,lead⟩):=by
 unfold nT;by_cases h1:lead<=-1000
 .rw[show max (-1000) (min lead 1000)=-1000 by omega];by_cases h2:lead=-1000
  .exact .inr (.inl ⟨h2,rfl⟩)
  exact .inl ⟨U,rfl⟩
 by_cases b:1000<=lead
 .rw[show max (-1000) (min lead 1000)=1000 by omega];by_cases a:lead=1000
  .exact .inr (.inr (.inl ⟨a,rfl⟩))
  exact .inr (.inr (.inr (.inl ⟨U,rfl⟩)))
 rw[show max (-1000) (min lead 1000)=lead by omega];exact .inr (.inr (.inr (.inr ⟨⟨U,U⟩,rfl⟩)))
def SG(h:IsLink w B l)(lead:aa)(aN:0<=l.b_/\l.b_<=1099511627776):az 198 #[B.p,I lead] w λe w'=>(∃ A cap xs,e=.returned (ao A xs.length cap)/\zX w.heap.size w' A cap xs/\xs.map ho.m=ml l lead)/\Below w w w':=by
 have dR:=h.dR;have dS:=h.dS;have c6:=h.c6;have fv:=h.fv;have H:=af h;have Q':=h.lt;clear h;by_cases O:l.own=[]
 .have z:=λw' (R:Below w w w')=>vG (H.o.below R).own;rw[O]at z;have C:=af z;clear z
  go_in
  go_wp2_with fail;refine(qR _ _).mono ?_;rintro e _ ⟨rfl,rfl⟩;go_wp2_with fail;have g:=(bY w.heap.size w).alloc bA (ae (ko ⟨⟨5,0,0,l.next%65536,[],0,0⟩,none,0⟩) 254);have f:=aW w (ae (ko ⟨⟨5,0,0,l.next%65536,[],0,0⟩,none,0⟩) 254);have c:=af (show EZ w (w.alloc (ae (ko ⟨⟨5,0,0,l.next%65536,[],0,0⟩,none,0⟩) 254)) l ⟨⟨5,0,0,l.next%65536,[],0,0⟩,none,0⟩from⟨nA _,λ_ e=>by simp at e,by show _=mZ l;unfold mZ;rw[aD O],g⟩);have d:=H.out.below g;have t:=C.out _ g;unfold ko at f c d t g;clear dR dS c6 fv C;refine t.mono ?_;rintro e aB ⟨rfl,lb⟩;rw[lb]at f c d g;clear t lb;generalize P:(⟨⟨5,0,0,l.next%65536,[],0,0⟩,none,0⟩:ho)=i at *;have fr:aB.heap[w.heap.size]?=some (ae (ko i) 254 (0,0)):=f;clear P f;have f:=fr;clear fr;have v':=aP f;have dR:=d.dR;have fv:=d.fv;have E:=λn=>qR l.next (aB.drewN n);have l':=af E;clear E;by_cases j:l.b_%8=0
  .exact Mo
  have F:=af j;have r':(l.b_%8 != 0)=true:=by simpa using j
  have sd:l.b_.tmod 8=l.b_%8:=pf aN.1;clear j;go_wp2_with fail;go_ret;have G:=aW aB (ae (je [i]).toArray 254);have hk:=(a_ aB).alloc (ae (je [i]).toArray 254);have r:=c.out.mz.trans (hk.below c.out.mz.size (λ_ _ x=>x));refine⟨⟨some (ad aB 0 ab),1,[i],rfl,⟨uj G rfl DX,?_,λy e=>DZ⟩,?_⟩,r⟩
  .exact M_
  show [i.m]=ml l lead;unfold ml;rw[aA F.o,c.out.is]
 have vl:(j5 l.own).length=l.own.length:=by simp[j5]
 have Tq:0<l.own.length:=p'.2 O;have z:=λw' (R:Below w w w')=>vG (H.out.below R).own;rw[vl]at z;have C:=af z;clear z
 go_in
 go_wp2_with fail;refine(qR _ _).mono ?_;rintro e _ ⟨rfl,rfl⟩;go_wp2_with fail;have g:=(bY w.heap.size w).alloc bA (ae (ko ⟨⟨5,0,0,l.next%65536,[],0,0⟩,none,0⟩) 254);have f:=aW w (ae (ko ⟨⟨5,0,0,l.next%65536,[],0,0⟩,none,0⟩) 254);have d:=H.out.below g;have t:=C.out _ g;unfold ko at f d t g;simp only[e2]at f d t g;clear dR dS c6 fv C;refine t.mono ?_;rintro e an ⟨rfl,hd⟩;rw[hd]at f d g;clear t hd;have dS:=d.dS;have c6:=d.c6;have ys:=j0 (S:=aG) (w:=an.drew) (p:=ad B.p 6 ab) dS id;have zd:=j0 (S:=aG) (w:=an.drew) (p:=ad B.p 7 ab) c6 id;go_wp2_with fail;refine cB 16 ?_;have s':an.drew=an.drewN 1:=rfl;refine fk (λ_=>False) [0,1,2,3,5,6,7,8,10] [4,9] 5 ?_;refine f_ λK a=>?_;go_simp;refine(qR _ _).mono ?_;rintro e _ ⟨rfl,rfl⟩;refine a _ _ (cX (Keeps.refl _ _)) ?_;clear a K;refine km λK a=>?_;go_simp;refine(RS (d.drew 1).own).mono ?_;rintro e q ⟨s,v,rfl,a',Y,g'⟩;have Q:Keeps aG an.drew q:=Keeps.bE g' (λk h1 h2=>by rw[s']at h1;omega);refine a _ _ (cX (Q)) ?_;clear a K;have D:Keeps aG an q:=((Keeps.refl _ an).drew).trans Q;have M:=D.heap f id;have V:=d.keeps D (λ_ _=>id);have r:=g.trans (D.below g.size (λ_ _ x=>x));have f0:=bJ M;have g0:=aP M;refine fk (λ_=>True) [] [11,12,13,14,15] 0 ?_;refine f_ λK a=>?_;go_simp;refine a _ _ (cX ((Keeps.refl (λ_=>True) _).setCell trivial _)) ?_;clear a K;refine f_ λK a=>?_;go_simp;refine a _ _ (cX ((Keeps.refl (λ_=>True) _).setCell trivial _)) ?_;clear a K;refine f_ λK a=>?_;go_simp;refine a _ _ (cX (((Keeps.refl (λ_=>True) _).setCell trivial _).setCell trivial _)) ?_;clear a K;refine f_ λK a=>?_;go_simp;refine a _ _ (cX (((Keeps.refl (λ_=>True) _).setCell trivial _).setCell trivial _)) ?_;clear a K;refine km λK a=>?_;go_simp;refine a _ _ (cX ((((Keeps.refl (λ_=>True) _).setCell trivial _).setCell trivial _).setCell trivial _)) ?_;clear a K;refine ih ?_;have gf:=bW (bW (bW M 0 (I 3)) 2 (bz (l.c2%65536))) 4 (ao s l.own.length v)
 have N:Keeps (λb=>b=w) q (((q.setCell (ad w 0 ab) (I 3)).setCell (ad w 2 ab) (bz (l.c2%65536))).setCell (ad w 4 ab) (ao s l.own.length v)):=
  Keeps.setCell (S:=λb=>b=w.heap.size) (Keeps.setCell (S:=λb=>b=w.heap.size) (Keeps.setCell (S:=λb=>b=w.heap.size) (Keeps.refl _ q) (p:=ad w 0 ab) rfl _) (p:=ad w 2 ab) rfl _) (p:=ad w 4 ab) rfl _
 have X:=Oq a';have TS:an.heap.size<=q.heap.size:=D.size;have St:w.heap.size<an.heap.size:=bR f;have Z:∀ y,s=some y->an.heap.size<=y.block:=Y
 have c:=af (show EZ w (((q.setCell (ad w 0 ab) (I 3)).setCell (ad w 2 ab) (bz (l.c2%65536))).setCell (ad w 4 ab) (ao s l.own.length v)) l ⟨⟨3,0,l.c2%65536,l.next%65536,l.own,0,0⟩,s,v⟩from
  ⟨X.keeps N (λ_ y e h=>by have:=Z y e;have h:y.block=w.heap.size:=h;omega),λy e=>by have:=Z y e;omega,by show _=mZ l;unfold mZ;rw[aA O],r.trans (N.below r.size a7)⟩)
 have W:=V.keeps N (λb aj h=>by
  have h:b=w.heap.size:=h;rcases aj with e|e|e|e|e<;>omega)
 change Exit.then _ _ _ _ (((q.setCell (ad w 0 ab) (I 3)).setCell (ad w 2 ab) (bz (l.c2%65536))).setCell (ad w 4 ab) (ao s l.own.length v));clear f0 g0 M f V d N D Q a' Y g' X ys zd dS c6 r g;generalize ((q.setCell (ad w 0 ab) (I 3)).setCell (ad w 2 ab) (bz (l.c2%65536))).setCell (ad w 4 ab) (ao s l.own.length v)=aB at *;have d:=W;clear W;generalize P:(⟨⟨3,0,l.c2%65536,l.next%65536,l.own,0,0⟩,s,v⟩:ho)=i at *;have f:aB.heap[w.heap.size]?=some (ae (ko i) 254 (0,0)):=by rw[<-P];exact gf
 clear P gf;have v':=aP f;have dR:=d.dR;have fv:=d.fv;have E:=λn=>qR l.next (aB.drewN n);have l':=af E;clear E;by_cases j:l.b_%8=0
 .exact Mo
 have F:=af j;have r':(l.b_%8 != 0)=true:=by simpa using j
 have sd:l.b_.tmod 8=l.b_%8:=pf aN.1;clear j;go_wp2_with fail;go_ret;have G:=aW aB (ae (je [i]).toArray 254);have hk:=(a_ aB).alloc (ae (je [i]).toArray 254);have r:=c.out.mz.trans (hk.below c.out.mz.size (λ_ _ x=>x));refine⟨⟨some (ad aB 0 ab),1,[i],rfl,⟨uj G rfl DX,?_,λy e=>DZ⟩,?_⟩,r⟩
 .exact M_
 show [i.m]=ml l lead;unfold ml;rw[aA F.o,c.out.is]
section
attribute [local go_sem] Oper.semAt_some
variable{w:ai}{B:ir}{l:b9}
def vj:aZ:=⟨7,0,0,0,[],0,0⟩
def mF(l:b9):aZ:=⟨1,l.bL,0,0,[],0,0⟩
def lI(l:b9)(lead:aa):ah aZ×b9:=
 if l.state=2 then(if l.jy then([vj],{l with jy:=false})else([],l))else(l.out++(if l.state=0 then [mF l]else ml l lead),{l with out:=[]})
def s4(w:ai)(B:ir)(l:b9)(lead:aa)(e:Ending)(w':ai):ak:=
 (∃ A cap xs,e=.returned (ao A xs.length cap)/\zX w.heap.size w' A cap xs/\xs.map ho.m=(lI l lead).1)/\IsLink w' B (lI l lead).2/\Keeps B.S w w'
def RD:(prog.info? 254).map (λi=>(i.zero,i.size,i.bytes))=some (some (.agg (bx aZ.zero)),7,56):=aH
def V7(h:IsLink w B l)(lead:aa)(ax:l.state=2):az 134 #[B.p,I lead] w (s4 w B l lead):=by
 have bs:=h.bs;have ez:=h.ez;have f3:=h.free 3;rw[ax]at bs;unfold s4 lI;rw[aD ax];cases aj:l.jy
 .rw[aA aI];rw[aj]at ez
  go_in
  go_wp2;go_ret;exact⟨⟨none,0,[],rfl,⟨dQ.nil _ _,λx a=>(by cases a),λy e=>(by cases e)⟩,rfl⟩,h,Keeps.refl _ _⟩
 rw[aD rfl];rw[aj]at ez;have d:=af (h.set 3 (.bool false) {l with jy:=false} rfl rfl rfl);have c:=af (Keeps.setCell (S:=B.S) (Keeps.refl _ w) (p:=ad B.p 3 ab) (.inl rfl) (.bool false))
 go_in
 go_wp2;go_ret;have f:(w.setCell (ad B.p 3 ab) (.bool false)).heap.size=w.heap.size:=aI;have b:=aW (w.setCell (ad B.p 3 ab) (.bool false)) (ae (je [⟨vj,none,0⟩]).toArray 254);rw[f]at b;refine⟨⟨some (ad w 0 ab),1,[⟨vj,none,0⟩],rfl,⟨uj b rfl DX,?_,λy e=>by cases e;exact c9 _⟩,rfl⟩,(d.o.below ((bY _ (w.setCell (ad B.p 3 ab) (.bool false))).alloc bA (ae (je [⟨vj,none,0⟩]).toArray 254))),c.o.alloc _⟩;intro x a;simp only[e3,uz,or_false]at a;subst a;exact⟨nA _,λ_ e=>by simp at e⟩
def OC(A:ai)(cs:a6 aw)(t:TypeId)(j:J)(u:aw)(h:cs.toList[j]?=some u):(A.alloc (ae cs t)).cell? (((ad A 0 ab):Addr).add j)=some u:=by
 rw[hN,gv];exact bb (aW _ _) h8
def oH(xs:ah aZ):ah aw:=xs.flatMap λm=>(bx m).toList
structure s6(w W:ai)(B:ir)(l:b9)(pre:ah aZ):ak where
 row:∃ v,W.heap[w.heap.size]?=some (ae #[v] 250 (0,0))/\W.ownsRow (w.heap.size+4) 254 7 v pre.length (oH pre)
 bM:W.heap[w.heap.size+1]?=some (ae #[B.p] 60 (0,0))
 aE:W.heap[B.p]?=some (ae (lo B l) 124 (0,0))
 du:jV W B.h1 B.d1 64 (j5 l.own)
 eI:Keeps (λb=>b=B.h2\/b=B.d2) w W
 cD:w.heap.size+2<=W.heap.size
def s6.keep{w W W':ai}{pre:ah aZ}{S:J->ak}(h:s6 w W B l pre)(hk:Keeps S W W')(d:IsLink w B l)(ax:∀ b,S b->b=B.h2\/b=B.d2\/(w.heap.size+2<=b/\b<=w.heap.size+3)):s6 w W' B l pre:=by
 have m:=d.lt;have a:=d.ok.a;have i:=d.ok.b;have c:=d.ok.c;have⟨v,g,f⟩:=h.row;refine⟨⟨v,hk.heap g (λe=>uN),b3 f hk (λb aj e=>by have:=(f.lt b aj).1;have:=ax _ e;omega)⟩,hk.heap h.bM (λe=>uN),hk.heap h.aE (λe=>uN),h.du.keeps hk (λe=>uN) (λe=>uN),?_,b7 h.cD hk.size⟩;exact cK h.eI hk (λk j e=>uN)
theorem KM{P:Program}{c:Code}{Q:Exit->Act->ai->ak}{a:Act}{w:ai}(h:c.wp P (λe a' w'=>e=Exit.normal/\Q .normal a' w') a w):c.wp P Q a w:=
 wp_mono h (λe a' w' ⟨b,d⟩=>by subst b;exact d)
def Qc(L:ah aZ)(h:∀ m∈L,m.a8=[]):je (L.map λm=>(⟨m,none,0⟩:ho))=oH L:=by
 unfold je oH
 induction L with
 | nil=>rfl
 | cons m L b=>
  rw[jo,iL,iL,b (λx a=>h x (by simp[a]))]
  congr 1
  simp[ko,bx,(h m aI)]
def Js{w W an:ai}{v:aw}{n:J}{ys:ah ho}{lead:aa}(f:s6 w W B l l.out)(p:iq W B.h2 B.d2 8 [])(g:IsLink w B l)(hk:Keeps (λk=>w.heap.size+3<k) W an)(s:an.ownsRow (w.heap.size+4) 254 7 v n (oH l.out++je ys))(au:n=l.out.length+ys.length)(jZ:∀ m∈l.out,m.a8=[])(t:∀ x∈ys,c1 an x.a x.c x.m.a8/\∀ y,x.a=some y->w.heap.size+3<=y.block)(ax:lI l lead=(l.out++ys.map ho.m,{l with out:=[]}))(o:Obj):s4 w B l lead (.returned v) (an.putObj (w.heap.size+2) o):=by
 have u:=g.lt;have ar:Keeps (λk=>k=w+2) an (an.putObj (w.heap.size+2) o):=Keeps.putObj (S:=λk=>k=w.heap.size+2) (Keeps.refl _ an) rfl _;obtain⟨A,cap,rfl,aX,aj⟩:=cP s;have r:Keeps (λk=>w.heap.size+2=k\/w.heap.size+3<k) W (an.putObj (w.heap.size+2) o):=(hk.mono λ_ _ h=>.inr h).trans (ar.mono λ_ _ h=>.inl h.symm);have q:IsLink W B {l with out:=[]}:=⟨f.aE,f.du,p,g.ok⟩;unfold s4;rw[ax];refine⟨⟨A,cap,(l.out.map λm=>(⟨m,none,0⟩:ho))++ys,?_,⟨?_,?_,λy e=>by have:=(aj y e).1;omega⟩,?_⟩,q.keeps r (λb i=>by rcases i with e|e|e|e|e<;>omega),?_⟩
 .rw[au,cx,hh]
 .rw[cx,hh,<-au,show je ((l.out.map λm=>(⟨m,none,0⟩:ho))++ys)=oH l.out++je ys by rw[<-Qc _ jZ];simp[je]];exact aX.keeps ar (λ_ y e h=>by have:=(aj y e).1;omega)
 .intro x d;rcases ft.1 d with d|d
  .obtain⟨m,hm,rfl⟩:=fu.1 d;exact⟨by show c1 _ none 0 m.a8;rw[jZ m hm];exact nA _,λ_ e=>by simp at e⟩
  have⟨h1,h2⟩:=t x d;exact⟨h1.keeps ar (λ_ y e h=>by have:=h2 y e;omega),λy e=>by have:=h2 y e;omega⟩
 .rw[jO,map_map]
  congr 1
  show l.out.map (λm=>m)=l.out;simp
 exact cK (cK (f.eI.mono (T:=B.S) λb _ h=>h.elim (λe=>.inr (.inr (.inr (.inl e)))) (λe=>.inr (.inr (.inr (.inr e))))) hk (λk j e=>U)) ar (λk j e=>U)
def V8(h:IsLink w B l)(lead:aa)(ax:l.state≠2)(aN:0<=l.b_/\l.b_<=1099511627776)(jZ:∀ m∈l.out,m.a8=[]):az 134 #[B.p,I lead] w (s4 w B l lead):=by
 obtain⟨i0,av,Q',St,Tq⟩:∃ i,prog.info? 254=some i/\i.zero=some (.agg (bx aZ.zero))/\i.size=7/\i.bytes=56:=by
  have h:=RD;cases aR:prog.info? 254 with
  | none=>rw[aR]at h;cases h
  | some i=>rw[aR]at h;simp only[pb,hi,jq]at h;exact⟨i,rfl,h.1,h.2.1,h.2.2⟩
 have Y':=h.lt;have CW:=h.ok;have ps:=af av;have bs:=h.bs;have H:=af h;have Zx:=h.out.le.1;refine(gD (n:=0)).1 ?_;refine callsIn_of_wp_marks func134 rfl trivial ?_ rfl;simp only[ntmps134,gR,dr,e2,Nat.reduceAdd,Nat.reduceSub,sx,sy,sF,sA,oi,ku];gi_wp2_with (fail);refine⟨trivial,rfl,gD.2 ((SH _ _).mono ?_)⟩;rintro e aB ⟨rfl,fr⟩;gi_wp2_with (fail);have r:aB.heap.size=w.heap.size+2:=by rw[<-fr];simp
 have Y9:Keeps aG w aB:=by rw[<-fr];exact((Keeps.refl _ w).alloc _).alloc _
 have Zh:aB.heap[w.heap.size]?=some (ae #[ao none 0 0] 250 (0,0)):=by rw[<-fr];exact cm (aW _ _) _
 have Y7:aB.heap[w.heap.size+1]?=some (ae #[B.p] 60 (0,0)):=by
  have:=aW (w.alloc (ae #[ao none 0 0] 250)) (ae #[B.p] 60)
  rw[fF,fr]at this;exact this
 have P:=H.out.keeps Y9 (λ_ _=>id)
 refine Yq (gf:=260) (lb:=#[.pointer (some (ad (w+1) 0 ab))]) rfl (enters_of func260 aH rfl)
  (λ_=>rfl) l.out (λk=>k=w.heap.size\/w.heap.size+3<k) (λb=>b=B.h2\/b=B.d2) (λW=>iq W B.h2 B.d2 8 [])
  (Yb P.out P.e5 (w.heap.size+1) (bb Y7 rfl) ⟨U,U⟩ ⟨U,U,CW.a.2.2.1,CW.a.2.2.2⟩ _ ⟨U,U,U,U⟩)
  (λX Y f Z hk=>f.keeps hk U U)
  w0 w0
  (λpre W=>s6 w W B l pre)
  ?inv ?start
  (λpre x a' W=>∃ X,a'={tmps:=#[.pointer (some (ad B.p 0 ab)),I lead,undef,undef,ao none 0 0,.pointer (some (ad w 0 ab)),.pointer (some (ad X 0 ab)),.pointer (some (ad B.p 0 ab)),.pointer (some (ad B.p 0 ab)),.pointer (some (ad B.p 2 ab)),I l.state,.bool false,undef,undef,undef,undef,undef,undef,undef,undef,undef,undef,.pointer (some (ad B.p 0 ab)),.func (.func 260) #[] #[.pointer (some (ad (w+1) 0 ab))],.agg (bx x),undef,undef,undef,undef,undef,undef,undef,undef,undef,undef,undef,undef,undef,undef,undef,undef,undef,undef,undef,undef,undef,undef],defers:=[]}/\w.heap.size+4<=X/\W.heap[X]?=some (ae (bx x) 254 (0,0))/\s6 w W B l pre)
  ?ass ?assign ?body ?done
 case inv=>
  intro pre X Y f Z hk;exact f.keep hk H.out (λb aj=>by rw[r]at aj;omega)
 case start=>exact⟨⟨_,Zh,gB _ _ _ _⟩,Y7,P.bc,P.own,Y9.mono λ_ _ x=>x.elim,U⟩
 case ass=>
  rintro pre x a' A cA ⟨X,rfl,R,f,c⟩ Z hk;exact⟨X,rfl,R,hk.heap f U,c.keep hk H.out a7⟩
 case assign=>
  intro l' pre x rest A K zp g c Z j;have f:=aW A (ae (bx aZ.zero) 254);obtain⟨Zq,_,Zn⟩:=dO (A.alloc (ae (bx aZ.zero) 254)) 254 7 A.heap.size (bx x) _ sizeOf254 rfl rfl f (mK _);have R:=fe (A.alloc (ae (bx aZ.zero) 254)) A.heap.size _ (bx x) 254 f;have C:=cK ((a_ A).alloc (ae (bx aZ.zero) 254)) Zn a7;generalize (A.alloc (ae (bx aZ.zero) 254)).setRow A.heap.size (bx x)=V' at *;refine Db ?_;simp only[zw,zu,zv,zl,od,q9,c_];refine yY (my A) rfl rfl ?_;refine yZ (p:=.pointer (some (ad A 0 ab))) (u:=.agg (bx x)) Zq rfl rfl rfl rfl ?_;refine Dc ?_;refine j _ _ ⟨A,rfl,U,R,c.keep C H.out (λb aj=>aj.elim)⟩ (C.mono λ_ _ x=>x.elim)
 case body=>
  rintro l' pre x rest a' A zp g ⟨X,rfl,R,f,c⟩ Z;obtain⟨v,D,d⟩:=c.row;have Zz:pre.length+1<=8:=by
   have:=cV length g
   simp at this;omega
  have Y_:=tD f;have r':=jl D;have Zu:=nf D;have H1:=af D;have Zd:=af c;have Hx:=af g;have Zs:=af zp;have q:=af r;have ZB:w.heap.size+4<=A.heap.size:=U;clear zp r;have Zg:=aW A (ae (bx x) 254);clear D c g f;unfold bx at Y_ Zg;have Zl:=OC A (bx x) 254;have T:=d.alloc (ae (bx x) 254);gi_wp2_with (first|(refine CK Y_ rfl rfl rfl ?_)|(gi_at_builtin;refine wpListIn_append_own _ rfl _ _ 250 rfl (w.heap.size+4) 254 i0 (.agg (bx aZ.zero)) 7 56 underlying250 ps.out Q' St Tq rfl bq _ _ _ rfl T (ad A 0 ab) 1 1 (bx x).toList rfl rfl Zl (ff.1 (mK x)) pj U bU ?_;intro v' an s z _;have Zm:Keeps (λk=>k=w.heap.size\/w.heap.size+3<k) A an:=((Keeps.refl _ A).alloc _).grown z (λk hk=>.inl (.inr uJ));obtain⟨g',T',rfl⟩:=ownsRow_succ s;have h2:=(z.block w.heap.size bU (λe=>wV)).trans (cm H1.o _);have Zt:=jl h2;have Zv:=nf h2;have Q:=af h2;clear h2 z));have E:=Zm.setCell (p:=ad w 0 ab) (.inl rfl) (ao (some (ad g' 0 ab)) (pre.length+1) T');have G:=Zd.o;refine⟨E,⟨⟨ao (some (ad g' 0 ab)) (pre.length+1) T',wW,?_⟩,E.heap G.bM U,E.heap G.aE U,G.du.keeps E U U,cK G.eI E a7,b7 G.cD E.size⟩⟩;rw[cx,iM,show oH (pre++[x])=oH pre++(bx x).toList by simp[oH]];exact Nc
 rintro W c sd Zr Y6;rw[r]at Zr;have⟨v,D,d⟩:=c.row;have w':IsLink W B {l with out:=[]}:=⟨c.aE,c.du,sd,CW⟩;have r':=jl D;have bs:=w'.bs;have W':=af c;have cE:=af sd;have Y2:=af w';have q:=af r;have m':=af Y6;have ZC:=c.cD;have Y3:=af jZ;clear D c w' sd r Y6 jZ;have Zw:w.heap.size+2<W.heap.size:=by
  have:=bR m'.o
  rw[q.o]at this;exact this
 by_cases V:l.state=0
 .have vl:=af (show lI l lead=(l.out++[(⟨mF l,none,0⟩:ho)].map ho.m,{l with out:=[]})by unfold lI;rw[aA ax,aD V];rfl);rw[V]at bs;gi_wp2_with (fail);refine(ob (n:=0)).2 (KM ?_);have Zp:=Y';have z0:=j0 (S:=λk=>w.heap.size+3<k) (w:=W.drew) (p:=ad B.p 0 ab) Y2.o.bu (by show ¬ w.heap.size+3<B.p;omega);have TS:=j0 (S:=λk=>w.heap.size+3<k) (w:=W.drew) (p:=ad w 0 ab) r' (by show ¬ w.heap.size+3<w.heap.size;omega);have O:=b3 d ((a_ W).drew) (λ_ _=>id);have T:=O.alloc (ae (bx (mF l)) 254);have Y5:=aW W.drew (ae (bx (mF l)) 254);have Y8:Keeps aG W.drew (W.drew.alloc (ae (bx (mF l)) 254)):=(Keeps.refl _ _).alloc _;have Zb:dQ (W.drew.alloc (ae (bx (mF l)) 254)) 7 (some (ad W 0 ab)) 1 1 (bx (mF l)).toList:=uj (t:=254) Y5 rfl jR;have Y4:=ff.1 (mK (mF l));refine cB 9 ?_;refine fk (λk=>w.heap.size+3<k) (.range 6) [6,7,8] 0 ?_;refine ig (cX (Y8.mono λ_ _ x=>x.elim)) ?_;refine f_ λK j=>?_;refine CP _ _ _ 250 rfl (w.heap.size+4) 254 i0 (.agg (bx aZ.zero)) 7 56 underlying250 ps.out Q' St Tq rfl U v l.out.length (oH l.out) rfl T (some (ad W 0 ab)) 1 1 _ rfl Zb Y4 pj U bU ?_;intro v' an s z _;simp only[Act.put,c_];have M:Keeps (λk=>w.heap.size+3<k) W.drew an:=(Y8.mono λ_ _ x=>x.elim).grown z (λk hk=>.inl uJ);have N:Keeps (λk=>w.heap.size+3<k) W an:=((Keeps.refl _ W).drew).trans M;refine j _ _ (cX (M)) ?_;clear j K;refine nM (cX (M)) ?_;refine ih ?_;refine⟨rfl,?_⟩;have hd:=N.heap m'.o (by rw[q.o];omega);rw[q.o]at hd;have L:=λo=>Js (v:=v') (lead:=lead) (ys:=[⟨mF l,none,0⟩]) W'.o cE.o H.out N s rfl Y3.o (λx g=>by
   simp only[e3,uz,or_false]at g;subst g;exact⟨nA _,λ_ e=>by simp at e⟩) vl.o o
  have Zc:=af L;rw[q.o];clear L s T O Zb Y5 Y4 z0 TS;gi_wp2;exact Nh
 have vl:=af (show lI l lead=(l.out++ml l lead,{l with out:=[]})by unfold lI;rw[aA ax,aA V]);have ZE:(l.state == 0)=false:=by rw[er];exact V
 gi_wp2_with (fail);refine(ob (n:=0)).2 (KM ?_);have Zp:=Y';have TS:=j0 (S:=λk=>w.heap.size+3<k) (w:=W.drew) (p:=ad w 0 ab) r' (by show ¬ w.heap.size+3<w.heap.size;omega);have Zi:=SG (Y2.o.drew 1) lead aN;refine cB 6 ?_;refine fk (λk=>w.heap.size+3<k) [0,1,2] [3,4,5] 0 ?_;refine f_ λK j=>?_;go_simp;refine Zi.mono ?_;rintro e F ⟨⟨V',Ze,ys,rfl,s',Aw⟩,Zk⟩;have C:Keeps aG W.drew F:=Keeps.bE Zk (λk h1 h2=>by have h1:k<W.heap.size:=h1;have h2:W.heap.size<=k:=h2;omega);refine j _ _ (cX (C.mono λ_ _ x=>x.elim)) ?_;clear j K;refine f_ λK j=>?_;have O:=b3 d (((a_ W).drew).trans C) (λ_ _=>id);have Zy:0<ys.length:=by
  have:=cV length Aw
  exact LR
 have ZD:ys.length<=2:=by
  have:=cV length Aw
  exact LR
 have Za:∀ u∈je ys,u.oneCell'=true:=by
  intro u hu;unfold je at hu;have⟨x,_,g⟩:=wI.1 hu;have Zj:(ko x).toList.all (λv=>v.oneCell')=true:=aH;exact ff.1 Zj u g
 have ZA:W.heap.size<=F.heap.size:=C.size;refine CP _ _ _ 250 rfl (w.heap.size+4) 254 i0 (.agg (bx aZ.zero)) 7 56 underlying250 ps.out Q' St Tq rfl U v l.out.length (oH l.out) rfl O V' ys.length Ze _ rfl s'.bt Za pj U U ?_;intro v' an s z _;simp only[Act.put,c_];have M:Keeps (λk=>w.heap.size+3<k) F an:=(Keeps.refl _ F).grown z (λk hk=>.inl uJ);have Zo:Keeps (λk=>k<W.heap.size) F an:=(Keeps.refl _ F).grown z (λk hk=>.inl (d.lt k hk).2);have zd:Keeps (λk=>w.heap.size+3<k) W.drew an:=(C.mono λ_ _ x=>x.elim).trans M;refine j _ _ (cX (zd)) ?_;clear j K;refine nM (cX (zd)) ?_;refine ih ?_;refine⟨rfl,?_⟩;have N:Keeps (λk=>w.heap.size+3<k) W an:=((Keeps.refl _ W).drew).trans zd;have hd:=N.heap m'.out (by rw[q.out];omega);rw[q.out]at hd;have L:=λo=>Js (v:=v') (lead:=lead) (ys:=ys) W'.out cE.out H.out N s rfl Y3.out (λx g=>by
  obtain⟨h1,h2⟩:=s'.a8 x g;exact⟨h1.keeps Zo (λ_ y e h=>by have Zf:W.heap.size<=y.block:=h2 y e;have h:y.block<W.heap.size:=h;omega),λy e=>by have Zf:W.heap.size<=y.block:=h2 y e;omega⟩) (by rw[Aw];exact vl.out) o
 have Zc:=af L;rw[q.out];clear L s O TS s' Za;gi_wp2;exact Nh
def HX(h:IsLink w B l)(lead:aa)(aN:0<=l.b_/\l.b_<=1099511627776)(jZ:∀ m∈l.out,m.a8=[]):az 134 #[B.p,I lead] w (s4 w B l lead):=by
 by_cases ax:l.state=2
 .exact V7 h lead ax
 exact V8 h lead ax aN jZ
end
end Go.Proofs.YtalagblioepadaaGreatDoor
