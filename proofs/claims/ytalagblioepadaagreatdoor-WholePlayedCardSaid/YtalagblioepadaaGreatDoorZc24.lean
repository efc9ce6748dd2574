/- The proof, part 24. -/
import Derived.Test.YtalagblioepadaaGreatDoorZc19
import Derived.Test.YtalagblioepadaaGreatDoorZc13
namespace Go.Proofs.YtalagblioepadaaGreatDoor
set_option linter.all false
open Proofs.Tryz List Go.RowKit
set_option maxRecDepth 100000
set_option maxHeartbeats 2000000
def xi{p:ak}(h:p:=by rw[r];omega):p:=h
def Ae{p:ak}(h:p:=by simpa using a):p:=h
def va{p:ak}(h:p:=by have:=av _ e;omega):p:=h
def En{p:ak}(h:p:=by cases e;exact c.out.mN.size):p:=h
def Em{p:ak}(h:p:=by unfold maxLen;show 1<=_;omega):p:=h
def MW{p:ak}(h:p:=by
 have F:=af j;have ps:(l.b_%8 != 0)=false:=by simp[j]
 have r':l.b_.tmod 8=l.b_%8:=oA aO.1;clear j;obtain⟨Q,T⟩:∃ Q,ob l lead=Q:=⟨_,rfl⟩;have m':=Vb l lead;rw[T]at m';have Aw:=af T;clear T;obtain⟨g,u⟩|⟨g,u⟩|⟨g,u⟩|⟨g,u⟩|⟨⟨g,g'⟩,u⟩:=m'
 all_goals
  have mv:=af u;clear u;go_wp2_with fail;refine iR 10 aH aH ?_;simp only[hV,iy,hU,hI]
  repeat (go_big_quiet_step ((go_at_call 262;exact(l'.o _).mono λ_ _ h=>⟨h.1,_,h.2.symm⟩)))
  refine wpQuiet_nil ?_;intro _ zd;obtain⟨nq,zp⟩:=zd;subst zp;go_wp2_with fail;go_ret;have G:=aX (aC.drewN nq) (ae (jm [i,⟨Q,none,0⟩]).toArray 254);have hk:=((ba aC).drewN nq).alloc (ae (jm [i,⟨Q,none,0⟩]).toArray 254);have r:=c.out.mN.trans (hk.below c.out.mN.size (λ_ _ x=>x));have u:=mv.o;clear mv;subst u;refine⟨⟨some (ad aC 0 ab),2,[i,⟨_,none,0⟩],rfl,⟨uD G rfl (by unfold maxLen;show 2<=_;omega),?_,λy e=>En⟩,?_⟩,r⟩
  .intro x L;simp only[e6,uP,or_false]at L;rcases L with rfl|rfl
   .exact⟨c.out.bytes.keeps hk (λ_ _ _=>id),c.out.new⟩
   exact⟨nR _,λ_ e=>by simp at e⟩
  show [i.m,_]=mB l _;unfold mB;rw[aD F.out,c.out.is,Aw.out]
 ):p:=h
def NJ{p:ak}(h:p:=by
 intro x L;simp only[e6,uP,or_false]at L;subst L;exact⟨c.out.bytes.keeps hk (λ_ _ _=>id),c.out.new⟩
 ):p:=h
def NN{p:ak}(h:p:=by
 exact b4 s ((Keeps.refl (λk=>k=w) ao).setCell (p:=ad w 0 ab) rfl _) (λb aj h=>zZ)
 ):p:=h
def NR{p:ak}(h:p:=by
 refine⟨aK,.inl ⟨_,_,rfl,run_takeDeferred hd,?_⟩⟩;refine⟨_,zz rfl _ _ _,?_⟩;exact ZR.o _
 ):p:=h
def Mo{p:ak}(h:p:=by
 rw[gV]at this;rw[this];unfold mB;split<;>simp
 ):p:=h
variable{w:ai}{B:iB}{l:b9}
def Ti(a:Addr)(w:ai):aA 197 #[.pointer (some a)] w λe w'=>e=.returned (.func (.func 260) #[] #[w.heap.size])/\w.alloc (ae #[.pointer (some a)] 60)=w':=by
 go_in
 go_wp2;go_ret;exact⟨rfl,rfl⟩
def YP{L:ah a1}(h:iA w B.h2 B.d2 8 L)(V:w.cell? (ad B.p 9 ab)=some (.pointer (some (ad B.h2 0 ab))))(a:J)(al:w.cell? (ad a 0 ab)=some (.pointer (some (ad B.p 0 ab))))(z:a<w.heap.size/\B.p<w.heap.size)(hne:a≠B.h2/\a≠B.d2/\B.p≠B.h2/\B.p≠B.d2)(i:J->ak)(t:¬ i a/\¬ i B.p/\¬ i B.h2/\¬ i B.d2):Ft prog 260 #[a] (λm:a1=>#[.agg (bw m)]) L i (λb=>b=B.h2\/b=B.d2) (λW=>iA W B.h2 B.d2 8 []) w:=by
 intro l S W gf hk vl D Z T;subst gf;have s':=h.le;have Q:=af z;have g':=hne.1;have hd:=hne.2.1;have lb:=hne.2.2.1;have l':=hne.2.2.2;refine gK.2 ?_
 go_in
 go_wp2_with fail;go_loopg [] L.length (λg wr=>∃ pre rest:ah a1,L=pre++rest/\g=rest.length/\wr.cell? (ad a 0 ab)=some (.pointer (some (ad B.p 0 ab)))/\wr.cell? (ad B.p 9 ab)=some (.pointer (some (ad B.h2 0 ab)))/\iA wr B.h2 B.d2 8 rest/\S pre wr/\w.heap.size+2<=wr.heap.size)
 case atStart=>exact⟨[],L,rfl,rfl,hk.cell al id,hk.cell V id,h.keeps hk id id,T,U⟩
 have⟨pre,rest,E,aZ,M,H,C,A,mv⟩:=hrel;have y:=af E;clear E;cases rest with
 | nil=>
  go_wp2_with fail;refine(TN C).mono ?_;rintro e aC ⟨rfl,k,d⟩;have dw:=mM aC;have f:=aX aC (ae (bw a1.zero) 254);obtain⟨u,_,q⟩:=dP (aC.alloc (ae (bw a1.zero) 254)) 254 7 aC.heap.size (bw a1.zero) _ sizeOf254 rfl rfl f (mX _);have c:=cL ((ba aC).alloc (ae (bw a1.zero) 254)) q a7;have s:=k.keeps c id id;have r:=D _ _ _ A (d.trans (c.mono λ_ _ x=>x.elim));clear f q c k d;generalize (aC.alloc (ae (bw a1.zero) 254)).setRow aC.heap.size (bw a1.zero)=P at *;go_wp2_with (first|(refine d_ dw rfl rfl ?_;simp only[Act.put,c7])|(refine c8 u rfl rfl rfl rfl ?_;try simp only[Act.put]));refine cU (v:=aV #[]) jj rfl ?_;have he:L=pre:=by rw[y.out,e4]
  exact⟨⟨_,rfl⟩,by rw[he];exact r,s⟩
 | cons m rest=>
  go_wp2_with fail;refine(TM C).mono ?_;rintro e aC ⟨rfl,k,d⟩;have dw:=mM aC;have f:=aX aC (ae (bw a1.zero) 254);obtain⟨u,_,q⟩:=dP (aC.alloc (ae (bw a1.zero) 254)) 254 7 aC.heap.size (bw m) _ sizeOf254 rfl rfl f (mX _);have G:=fl (aC.alloc (ae (bw a1.zero) 254)) aC.heap.size _ (bw m) 254 f;have c:=cL ((ba aC).alloc (ae (bw a1.zero) 254)) q a7;have s:=k.keeps c id id;have r:=D _ _ _ A (d.trans (c.mono λ_ _ x=>x.elim));have m':=b7 (b7 mv d.size) c.size;have N:=(d.trans (c.mono λ_ _ x=>x.elim)).cell (p:=ad a 0 ab) M (λe=>e.elim g' hd);have K:=(d.trans (c.mono λ_ _ x=>x.elim)).cell (p:=ad B.p 9 ab) H (λe=>e.elim lb l');clear f q c k d M H A C;generalize (aC.alloc (ae (bw a1.zero) 254)).setRow aC.heap.size (bw m)=P at *;have r':=aS G;clear G;go_upto_region 1 with(first|(refine d_ dw rfl rfl ?_;simp only[Act.put,c7])|(refine c8 u rfl rfl rfl rfl ?_;try simp only[Act.put]))
  refine(oz (n:=0)).1 ?_;obtain⟨fn,tmps,assign,body,O,F⟩:=Z pre m rest P y.out r;simp only[bw]at O;gi_wp2;refine⟨rfl,F.mono ?_⟩;rintro e sd ⟨rfl,X,j⟩;clear O F r';have z:=Q.out;have a':=j.cell (p:=ad a 0 ab) N (λe=>e.elim t.1 (λe=>by have e:a=w.heap.size+1:=e;omega));have fr:=j.cell (p:=ad B.p 9 ab) K (λe=>e.elim t.2.1 (λe=>by have e:B.p=w.heap.size+1:=e;omega));have Y:=s.keeps j (λe=>e.elim t.2.2.1 a7) (λe=>e.elim t.2.2.2 a7);have ps:=b7 m' j.size;have R:=af (show L=(pre++[m])++rest by rw[y.out];simp);clear z N K s r j dw u;gi_wp2;go_wp2;go_roundg rest.length
  case measure=>simp at aZ;omega
  exact⟨pre++[m],rest,R.o,rfl,a',fr,Y,X,ps⟩
structure ht where
 m:a1
 a:b5 Addr
 c:J
def ky(x:ht):a6 ax:=#[I x.m.kind,aP x.m.bK,bx x.m.cj,bx x.m.ch,aq x.a x.m.a8.length x.c,aP x.m.sum,I x.m.lead]
def jm(xs:ah ht):ah ax:=xs.flatMap λx=>(ky x).toList
structure Al(b:J)(w:ai)(A:b5 Addr)(cap:J)(xs:ah ht):ak where
 br:dR w 7 A xs.length cap (jm xs)
 a8:∀ x∈xs,c3 w x.a x.c x.m.a8/\∀ y,x.a=some y->b<=y.block
 new:∀ y,A=some y->b<=y.block
def nr(l:b9):a1:=if l.own=[]then⟨5,0,0,l.next%65536,[],0,0⟩else⟨3,0,l.c4%65536,l.next%65536,l.own,0,0⟩
def ob(l:b9)(lead:aa):a1:=⟨6,0,l.next%65536,0,[],0,max (-1000) (min lead 1000)⟩
def mB(l:b9)(lead:aa):ah a1:=if l.b_%8=0 then [nr l,ob l lead]else [nr l]
def OV{a:b5 Addr}{n cap:J}{L:ah aR}(h:dR w 1 a n cap ((kc L).map λx=>aF x)):c3 w a cap L:=by
 have⟨h1,h2,c,d⟩:=h;have ar:n=L.length:=by simp[kc]at h1;omega
 refine⟨U,c,?_⟩;by_cases e:L=[]
 .exact .inl e
 have⟨b,o,bd,al⟩:=d (by have:=qo.2 e;omega);exact .inr ⟨b,o,bd,λi aw=>al i _ (by simp[kc,aw,ef])⟩
def nR(w:ai):c3 w none 0 []:=⟨c9 _,c' _,.inl rfl⟩
theorem uD{b n cE:J}{xs:ah ax}{t:TypeId}(c:w.heap[b]?=some (ae xs.toArray t (0,0)))(d:xs.length=n*cE)(hm:n<=maxLen):dR w cE (some (ad b 0 ab)) n n xs:=
 ⟨d,c9 _,hm,λ_=>⟨b,0,rfl,λj u a=>by rw[gC];exact bb c Ae⟩⟩
structure Fq(bk w:ai)(l:b9)(x:ht):ak where
 bytes:c3 w x.a x.c x.m.a8
 new:∀ y,x.a=some y->bk.heap.size<=y.block
 is:x.m=nr l
 mN:Below bk bk w
def Vb(l:b9)(lead:aa):(lead < -1000/\ob l lead=⟨6,0,l.next%65536,0,[],0,-1000⟩)\/(lead=-1000/\ob l lead=⟨6,0,l.next%65536,0,[],0,-1000⟩)\/(lead=1000/\ob l lead=⟨6,0,l.next%65536,0,[],0,1000⟩)\/(1000<lead/\ob l lead=⟨6,0,l.next%65536,0,[],0,1000⟩)\/((-1000<lead/\lead<1000)/\ob l lead=⟨6,0,l.next%65536,0,[],0,lead⟩):=by
 unfold ob;by_cases h1:lead<=-1000
 .rw[show max (-1000) (min lead 1000)=-1000 by omega];by_cases h2:lead=-1000
  .exact .inr (.inl ⟨h2,rfl⟩)
  exact .inl ⟨U,rfl⟩
 by_cases b:1000<=lead
 .rw[show max (-1000) (min lead 1000)=1000 by omega];by_cases a:lead=1000
  .exact .inr (.inr (.inl ⟨a,rfl⟩))
  exact .inr (.inr (.inr (.inl ⟨U,rfl⟩)))
 rw[show max (-1000) (min lead 1000)=lead by omega];exact .inr (.inr (.inr (.inr ⟨⟨U,U⟩,rfl⟩)))
def Th(h:IsLink w B l)(lead:aa)(aO:0<=l.b_/\l.b_<=1099511627776):aA 198 #[B.p,I lead] w λe w'=>(∃ A cap xs,e=.returned (aq A xs.length cap)/\Al w.heap.size w' A cap xs/\xs.map ht.m=mB l lead)/\Below w w w':=by
 have dM:=h.dM;have eb:=h.eb;have c5:=h.c5;have fy:=h.fy;have H:=af h;have CW:=h.lt;clear h;by_cases O:l.own=[]
 .have z:=λw' (R:Below w w w')=>vU (H.o.below R).own;rw[O]at z;have C:=af z;clear z
  go_in
  go_wp2_with fail;refine(q9 _ _).mono ?_;rintro e _ ⟨rfl,rfl⟩;go_wp2_with fail;have g:=(b3 w.heap.size w).alloc bs (ae (ky ⟨⟨5,0,0,l.next%65536,[],0,0⟩,none,0⟩) 254);have f:=aX w (ae (ky ⟨⟨5,0,0,l.next%65536,[],0,0⟩,none,0⟩) 254);have c:=af (show Fq w (w.alloc (ae (ky ⟨⟨5,0,0,l.next%65536,[],0,0⟩,none,0⟩) 254)) l ⟨⟨5,0,0,l.next%65536,[],0,0⟩,none,0⟩from⟨nR _,λ_ e=>by simp at e,by show _=nr l;unfold nr;rw[aD O],g⟩);have d:=H.out.below g;have t:=C.out _ g;unfold ky at f c d t g;clear dM eb c5 fy C;refine t.mono ?_;rintro e aC ⟨rfl,lb⟩;rw[lb]at f c d g;clear t lb;generalize P:(⟨⟨5,0,0,l.next%65536,[],0,0⟩,none,0⟩:ht)=i at *;have fr:aC.heap[w.heap.size]?=some (ae (ky i) 254 (0,0)):=f;clear P f;have f:=fr;clear fr;have vl:=aS f;have dM:=d.dM;have fy:=d.fy;have E:=λn=>q9 l.next (aC.drewN n);have l':=af E;clear E;by_cases j:l.b_%8=0
  .exact MW
  have F:=af j;have ps:(l.b_%8 != 0)=true:=by simpa using j
  have r':l.b_.tmod 8=l.b_%8:=oA aO.1;clear j;go_wp2_with fail;go_ret;have G:=aX aC (ae (jm [i]).toArray 254);have hk:=(ba aC).alloc (ae (jm [i]).toArray 254);have r:=c.out.mN.trans (hk.below c.out.mN.size (λ_ _ x=>x));refine⟨⟨some (ad aC 0 ab),1,[i],rfl,⟨uD G rfl Em,?_,λy e=>En⟩,?_⟩,r⟩
  .exact NJ
  show [i.m]=mB l lead;unfold mB;rw[az F.o,c.out.is]
 have s':(kc l.own).length=l.own.length:=by simp[kc]
 have St:0<l.own.length:=qo.2 O;have z:=λw' (R:Below w w w')=>vU (H.out.below R).own;rw[s']at z;have C:=af z;clear z
 go_in
 go_wp2_with fail;refine(q9 _ _).mono ?_;rintro e _ ⟨rfl,rfl⟩;go_wp2_with fail;have g:=(b3 w.heap.size w).alloc bs (ae (ky ⟨⟨5,0,0,l.next%65536,[],0,0⟩,none,0⟩) 254);have f:=aX w (ae (ky ⟨⟨5,0,0,l.next%65536,[],0,0⟩,none,0⟩) 254);have d:=H.out.below g;have t:=C.out _ g;unfold ky at f d t g;simp only[e_]at f d t g;clear dM eb c5 fy C;refine t.mono ?_;rintro e ao ⟨rfl,hd⟩;rw[hd]at f d g;clear t hd;have eb:=d.eb;have c5:=d.c5;have v':=j8 (S:=aI) (w:=ao.drew) (p:=ad B.p 6 ab) eb id;have ys:=j8 (S:=aI) (w:=ao.drew) (p:=ad B.p 7 ab) c5 id;go_wp2_with fail;refine cH 16 ?_;have sd:ao.drew=ao.drewN 1:=rfl;refine fs (λ_=>False) [0,1,2,3,5,6,7,8,10] [4,9] 5 ?_;refine gi λK a=>?_;go_simp;refine(q9 _ _).mono ?_;rintro e _ ⟨rfl,rfl⟩;refine a _ _ (c0 (Keeps.refl _ _)) ?_;clear a K;refine kv λK a=>?_;go_simp;refine(Sv (d.drew 1).own).mono ?_;rintro e q ⟨s,v,rfl,a',Y,g'⟩;have Q:Keeps aI ao.drew q:=Keeps.bD g' (λk h1 h2=>by rw[sd]at h1;omega);refine a _ _ (c0 (Q)) ?_;clear a K;have D:Keeps aI ao q:=((Keeps.refl _ ao).drew).trans Q;have M:=D.heap f id;have V:=d.keeps D (λ_ _=>id);have r:=g.trans (D.below g.size (λ_ _ x=>x));have f0:=bI M;have g0:=aS M;refine fs (λ_=>True) [] [11,12,13,14,15] 0 ?_;refine gi λK a=>?_;go_simp;refine a _ _ (c0 ((Keeps.refl (λ_=>True) _).setCell trivial _)) ?_;clear a K;refine gi λK a=>?_;go_simp;refine a _ _ (c0 ((Keeps.refl (λ_=>True) _).setCell trivial _)) ?_;clear a K;refine gi λK a=>?_;go_simp;refine a _ _ (c0 (((Keeps.refl (λ_=>True) _).setCell trivial _).setCell trivial _)) ?_;clear a K;refine gi λK a=>?_;go_simp;refine a _ _ (c0 (((Keeps.refl (λ_=>True) _).setCell trivial _).setCell trivial _)) ?_;clear a K;refine kv λK a=>?_;go_simp;refine a _ _ (c0 ((((Keeps.refl (λ_=>True) _).setCell trivial _).setCell trivial _).setCell trivial _)) ?_;clear a K;refine iu ?_;have gf:=bV (bV (bV M 0 (I 3)) 2 (bx (l.c4%65536))) 4 (aq s l.own.length v)
 have N:Keeps (λb=>b=w) q (((q.setCell (ad w 0 ab) (I 3)).setCell (ad w 2 ab) (bx (l.c4%65536))).setCell (ad w 4 ab) (aq s l.own.length v)):=
  Keeps.setCell (S:=λb=>b=w.heap.size) (Keeps.setCell (S:=λb=>b=w.heap.size) (Keeps.setCell (S:=λb=>b=w.heap.size) (Keeps.refl _ q) (p:=ad w 0 ab) rfl _) (p:=ad w 2 ab) rfl _) (p:=ad w 4 ab) rfl _
 have X:=OV a';have Tq:ao.heap.size<=q.heap.size:=D.size;have Q':w.heap.size<ao.heap.size:=bP f;have Z:∀ y,s=some y->ao.heap.size<=y.block:=Y
 have c:=af (show Fq w (((q.setCell (ad w 0 ab) (I 3)).setCell (ad w 2 ab) (bx (l.c4%65536))).setCell (ad w 4 ab) (aq s l.own.length v)) l ⟨⟨3,0,l.c4%65536,l.next%65536,l.own,0,0⟩,s,v⟩from
  ⟨X.keeps N (λ_ y e h=>by have:=Z y e;have h:y.block=w.heap.size:=h;omega),λy e=>by have:=Z y e;omega,by show _=nr l;unfold nr;rw[az O],r.trans (N.below r.size a7)⟩)
 have W:=V.keeps N (λb aj h=>by
  have h:b=w.heap.size:=h;rcases aj with e|e|e|e|e<;>omega)
 change Exit.then _ _ _ _ (((q.setCell (ad w 0 ab) (I 3)).setCell (ad w 2 ab) (bx (l.c4%65536))).setCell (ad w 4 ab) (aq s l.own.length v));clear f0 g0 M f V d N D Q a' Y g' X v' ys eb c5 r g;generalize ((q.setCell (ad w 0 ab) (I 3)).setCell (ad w 2 ab) (bx (l.c4%65536))).setCell (ad w 4 ab) (aq s l.own.length v)=aC at *;have d:=W;clear W;generalize P:(⟨⟨3,0,l.c4%65536,l.next%65536,l.own,0,0⟩,s,v⟩:ht)=i at *;have f:aC.heap[w.heap.size]?=some (ae (ky i) 254 (0,0)):=by rw[<-P];exact gf
 clear P gf;have vl:=aS f;have dM:=d.dM;have fy:=d.fy;have E:=λn=>q9 l.next (aC.drewN n);have l':=af E;clear E;by_cases j:l.b_%8=0
 .exact MW
 have F:=af j;have ps:(l.b_%8 != 0)=true:=by simpa using j
 have r':l.b_.tmod 8=l.b_%8:=oA aO.1;clear j;go_wp2_with fail;go_ret;have G:=aX aC (ae (jm [i]).toArray 254);have hk:=(ba aC).alloc (ae (jm [i]).toArray 254);have r:=c.out.mN.trans (hk.below c.out.mN.size (λ_ _ x=>x));refine⟨⟨some (ad aC 0 ab),1,[i],rfl,⟨uD G rfl Em,?_,λy e=>En⟩,?_⟩,r⟩
 .exact NJ
 show [i.m]=mB l lead;unfold mB;rw[az F.o,c.out.is]
section
attribute [local go_sem] Oper.semAt_some
variable{w:ai}{B:iB}{l:b9}
def vx:a1:=⟨7,0,0,0,[],0,0⟩
def mS(l:b9):a1:=⟨1,l.bK,0,0,[],0,0⟩
def lX(l:b9)(lead:aa):ah a1×b9:=
 if l.state=2 then(if l.jI then([vx],{l with jI:=false})else([],l))else(l.out++(if l.state=0 then [mS l]else mB l lead),{l with out:=[]})
def th(w:ai)(B:iB)(l:b9)(lead:aa)(e:Ending)(w':ai):ak:=
 (∃ A cap xs,e=.returned (aq A xs.length cap)/\Al w.heap.size w' A cap xs/\xs.map ht.m=(lX l lead).1)/\IsLink w' B (lX l lead).2/\Keeps B.S w w'
def Se:(prog.info? 254).map (λi=>(i.zero,i.size,i.bytes))=some (some (.agg (bw a1.zero)),7,56):=aH
def WI(h:IsLink w B l)(lead:aa)(av:l.state=2):aA 134 #[B.p,I lead] w (th w B l lead):=by
 have bo:=h.bo;have eo:=h.eo;have f3:=h.free 3;rw[av]at bo;unfold th lX;rw[aD av];cases aj:l.jI
 .rw[az aK];rw[aj]at eo
  go_in
  go_wp2;go_ret;exact⟨⟨none,0,[],rfl,⟨dR.nil _ _,λx a=>(by cases a),λy e=>(by cases e)⟩,rfl⟩,h,Keeps.refl _ _⟩
 rw[aD rfl];rw[aj]at eo;have d:=af (h.set 3 (.bool false) {l with jI:=false} rfl rfl rfl);have c:=af (Keeps.setCell (S:=B.S) (Keeps.refl _ w) (p:=ad B.p 3 ab) (.inl rfl) (.bool false))
 go_in
 go_wp2;go_ret;have f:(w.setCell (ad B.p 3 ab) (.bool false)).heap.size=w.heap.size:=aK;have b:=aX (w.setCell (ad B.p 3 ab) (.bool false)) (ae (jm [⟨vx,none,0⟩]).toArray 254);rw[f]at b;refine⟨⟨some (ad w 0 ab),1,[⟨vx,none,0⟩],rfl,⟨uD b rfl Em,?_,λy e=>by cases e;exact c9 _⟩,rfl⟩,(d.o.below ((b3 _ (w.setCell (ad B.p 3 ab) (.bool false))).alloc bs (ae (jm [⟨vx,none,0⟩]).toArray 254))),c.o.alloc _⟩;intro x a;simp only[e6,uP,or_false]at a;subst a;exact⟨nR _,λ_ e=>by simp at e⟩
def O6(A:ai)(cs:a6 ax)(t:TypeId)(j:J)(u:ax)(h:cs.toList[j]?=some u):(A.alloc (ae cs t)).cell? (((ad A 0 ab):Addr).add j)=some u:=by
 rw[h3,gC];exact bb (aX _ _) ik
def oV(xs:ah a1):ah ax:=xs.flatMap λm=>(bw m).toList
structure tj(w W:ai)(B:iB)(l:b9)(pre:ah a1):ak where
 row:∃ v,W.heap[w.heap.size]?=some (ae #[v] 250 (0,0))/\W.ownsRow (w.heap.size+4) 254 7 v pre.length (oV pre)
 bM:W.heap[w.heap.size+1]?=some (ae #[B.p] 60 (0,0))
 aE:W.heap[B.p]?=some (ae (lH B l) 124 (0,0))
 du:j2 W B.h1 B.d1 64 (kc l.own)
 eN:Keeps (λb=>b=B.h2\/b=B.d2) w W
 cE:w.heap.size+2<=W.heap.size
def tj.keep{w W W':ai}{pre:ah a1}{S:J->ak}(h:tj w W B l pre)(hk:Keeps S W W')(d:IsLink w B l)(av:∀ b,S b->b=B.h2\/b=B.d2\/(w.heap.size+2<=b/\b<=w.heap.size+3)):tj w W' B l pre:=by
 have m:=d.lt;have a:=d.ok.a;have i:=d.ok.b;have c:=d.ok.c;have⟨v,g,f⟩:=h.row;refine⟨⟨v,hk.heap g (λe=>va),b4 f hk (λb aj e=>by have:=(f.lt b aj).1;have:=av _ e;omega)⟩,hk.heap h.bM (λe=>va),hk.heap h.aE (λe=>va),h.du.keeps hk (λe=>va) (λe=>va),?_,b7 h.cE hk.size⟩;exact cL h.eN hk (λk j e=>va)
theorem Lg{P:Program}{c:Code}{Q:Exit->Act->ai->ak}{a:Act}{w:ai}(h:c.wp P (λe a' w'=>e=Exit.normal/\Q .normal a' w') a w):c.wp P Q a w:=
 wp_mono h (λe a' w' ⟨b,d⟩=>by subst b;exact d)
def QN(L:ah a1)(h:∀ m∈L,m.a8=[]):jm (L.map λm=>(⟨m,none,0⟩:ht))=oV L:=by
 unfold jm oV
 induction L with
 | nil=>rfl
 | cons m L b=>
  rw[jz,iS,iS,b (λx a=>h x (by simp[a]))]
  congr 1
  simp[ky,bw,(h m aK)]
def JU{w W ao:ai}{v:ax}{n:J}{ys:ah ht}{lead:aa}(f:tj w W B l l.out)(p:iA W B.h2 B.d2 8 [])(g:IsLink w B l)(hk:Keeps (λk=>w.heap.size+3<k) W ao)(s:ao.ownsRow (w.heap.size+4) 254 7 v n (oV l.out++jm ys))(ar:n=l.out.length+ys.length)(j7:∀ m∈l.out,m.a8=[])(t:∀ x∈ys,c3 ao x.a x.c x.m.a8/\∀ y,x.a=some y->w.heap.size+3<=y.block)(av:lX l lead=(l.out++ys.map ht.m,{l with out:=[]}))(o:Obj):th w B l lead (.returned v) (ao.putObj (w.heap.size+2) o):=by
 have u:=g.lt;have au:Keeps (λk=>k=w+2) ao (ao.putObj (w.heap.size+2) o):=Keeps.putObj (S:=λk=>k=w.heap.size+2) (Keeps.refl _ ao) rfl _;obtain⟨A,cap,rfl,aW,aj⟩:=cS s;have r:Keeps (λk=>w.heap.size+2=k\/w.heap.size+3<k) W (ao.putObj (w.heap.size+2) o):=(hk.mono λ_ _ h=>.inr h).trans (au.mono λ_ _ h=>.inl h.symm);have q:IsLink W B {l with out:=[]}:=⟨f.aE,f.du,p,g.ok⟩;unfold th;rw[av];refine⟨⟨A,cap,(l.out.map λm=>(⟨m,none,0⟩:ht))++ys,?_,⟨?_,?_,λy e=>by have:=(aj y e).1;omega⟩,?_⟩,q.keeps r (λb i=>by rcases i with e|e|e|e|e<;>omega),?_⟩
 .rw[ar,cx,gV]
 .rw[cx,gV,<-ar,show jm ((l.out.map λm=>(⟨m,none,0⟩:ht))++ys)=oV l.out++jm ys by rw[<-QN _ j7];simp[jm]];exact aW.keeps au (λ_ y e h=>by have:=(aj y e).1;omega)
 .intro x d;rcases e5.1 d with d|d
  .obtain⟨m,hm,rfl⟩:=e3.1 d;exact⟨by show c3 _ none 0 m.a8;rw[j7 m hm];exact nR _,λ_ e=>by simp at e⟩
  have⟨h1,h2⟩:=t x d;exact⟨h1.keeps au (λ_ y e h=>by have:=h2 y e;omega),λy e=>by have:=h2 y e;omega⟩
 .rw[jy,map_map]
  congr 1
  show l.out.map (λm=>m)=l.out;simp
 exact cL (cL (f.eN.mono (T:=B.S) λb _ h=>h.elim (λe=>.inr (.inr (.inr (.inl e)))) (λe=>.inr (.inr (.inr (.inr e))))) hk (λk j e=>U)) au (λk j e=>U)
def WJ(h:IsLink w B l)(lead:aa)(av:l.state≠2)(aO:0<=l.b_/\l.b_<=1099511627776)(j7:∀ m∈l.out,m.a8=[]):aA 134 #[B.p,I lead] w (th w B l lead):=by
 obtain⟨i0,aw,CW,Q',St⟩:∃ i,prog.info? 254=some i/\i.zero=some (.agg (bw a1.zero))/\i.size=7/\i.bytes=56:=by
  have h:=Se;cases aJ:prog.info? 254 with
  | none=>rw[aJ]at h;cases h
  | some i=>rw[aJ]at h;simp only[pw,hr,jA]at h;exact⟨i,rfl,h.1,h.2.1,h.2.2⟩
 have ZO:=h.lt;have Aw:=h.ok;have m':=af aw;have bo:=h.bo;have H:=af h;have aaa:=h.out.le.1;refine(gK (n:=0)).1 ?_;refine callsIn_of_wp_marks func134 rfl trivial ?_ rfl;simp only[ntmps134,gW,ds,e_,Nat.reduceAdd,Nat.reduceSub,sJ,sK,sT,sM,nD,kF];gi_wp2_with (fail);refine⟨trivial,rfl,gK.2 ((Ti _ _).mono ?_)⟩;rintro e aC ⟨rfl,fr⟩;gi_wp2_with (fail);have r:aC.heap.size=w.heap.size+2:=by rw[<-fr];simp
 have ZM:Keeps aI w aC:=by rw[<-fr];exact((Keeps.refl _ w).alloc _).alloc _
 have ZW:aC.heap[w.heap.size]?=some (ae #[aq none 0 0] 250 (0,0)):=by rw[<-fr];exact cm (aX _ _) _
 have ZK:aC.heap[w.heap.size+1]?=some (ae #[B.p] 60 (0,0)):=by
  have:=aX (w.alloc (ae #[aq none 0 0] 250)) (ae #[B.p] 60)
  rw[fK,fr]at this;exact this
 have P:=H.out.keeps ZM (λ_ _=>id)
 refine Y4 (gf:=260) (lb:=#[.pointer (some (ad (w+1) 0 ab))]) rfl (enters_of func260 aH rfl)
  (λ_=>rfl) l.out (λk=>k=w.heap.size\/w.heap.size+3<k) (λb=>b=B.h2\/b=B.d2) (λW=>iA W B.h2 B.d2 8 [])
  (YP P.out P.fa (w.heap.size+1) (bb ZK rfl) ⟨U,U⟩ ⟨U,U,Aw.a.2.2.1,Aw.a.2.2.2⟩ _ ⟨U,U,U,U⟩)
  (λX Y f Z hk=>f.keeps hk U U)
  xi xi
  (λpre W=>tj w W B l pre)
  ?inv ?start
  (λpre x a' W=>∃ X,a'={tmps:=#[.pointer (some (ad B.p 0 ab)),I lead,undef,undef,aq none 0 0,.pointer (some (ad w 0 ab)),.pointer (some (ad X 0 ab)),.pointer (some (ad B.p 0 ab)),.pointer (some (ad B.p 0 ab)),.pointer (some (ad B.p 2 ab)),I l.state,.bool false,undef,undef,undef,undef,undef,undef,undef,undef,undef,undef,.pointer (some (ad B.p 0 ab)),.func (.func 260) #[] #[.pointer (some (ad (w+1) 0 ab))],.agg (bw x),undef,undef,undef,undef,undef,undef,undef,undef,undef,undef,undef,undef,undef,undef,undef,undef,undef,undef,undef,undef,undef,undef],defers:=[]}/\w.heap.size+4<=X/\W.heap[X]?=some (ae (bw x) 254 (0,0))/\tj w W B l pre)
  ?ass ?assign ?body ?done
 case inv=>
  intro pre X Y f Z hk;exact f.keep hk H.out (λb aj=>by rw[r]at aj;omega)
 case start=>exact⟨⟨_,ZW,gI _ _ _ _⟩,ZK,P.bc,P.own,ZM.mono λ_ _ x=>x.elim,U⟩
 case ass=>
  rintro pre x a' A cB ⟨X,rfl,R,f,c⟩ Z hk;exact⟨X,rfl,R,hk.heap f U,c.keep hk H.out a7⟩
 case assign=>
  intro l' pre x rest A K zd g c Z j;have f:=aX A (ae (bw a1.zero) 254);obtain⟨Z5,_,Z2⟩:=dP (A.alloc (ae (bw a1.zero) 254)) 254 7 A.heap.size (bw x) _ sizeOf254 rfl rfl f (mX _);have R:=fl (A.alloc (ae (bw a1.zero) 254)) A.heap.size _ (bw x) 254 f;have C:=cL ((ba A).alloc (ae (bw a1.zero) 254)) Z2 a7;generalize (A.alloc (ae (bw a1.zero) 254)).setRow A.heap.size (bw x)=T' at *;refine DC ?_;simp only[zQ,zO,zP,zH,oC,rz,c7];refine zi (mM A) rfl rfl ?_;refine zj (p:=.pointer (some (ad A 0 ab))) (u:=.agg (bw x)) Z5 rfl rfl rfl rfl ?_;refine DD ?_;refine j _ _ ⟨A,rfl,U,R,c.keep C H.out (λb aj=>aj.elim)⟩ (C.mono λ_ _ x=>x.elim)
 case body=>
  rintro l' pre x rest a' A zd g ⟨X,rfl,R,f,c⟩ Z;obtain⟨v,D,d⟩:=c.row;have aac:pre.length+1<=8:=by
   have:=cV length g
   simp at this;omega
  have ZN:=tT f;have ps:=jv D;have Z9:=nx D;have H1:=af D;have ZS:=af c;have Hx:=af g;have Z7:=af zd;have q:=af r;have aae:w.heap.size+4<=A.heap.size:=U;clear zd r;have ZV:=aX A (ae (bw x) 254);clear D c g f;unfold bw at ZN ZV;have Z0:=O6 A (bw x) 254;have T:=d.alloc (ae (bw x) 254);gi_wp2_with (first|(refine Da ZN rfl rfl rfl ?_)|(gi_at_builtin;refine wpListIn_append_own _ rfl _ _ 250 rfl (w.heap.size+4) 254 i0 (.agg (bw a1.zero)) 7 56 underlying250 m'.out CW Q' St rfl bq _ _ _ rfl T (ad A 0 ab) 1 1 (bw x).toList rfl rfl Z0 (fg.1 (mX x)) pB U bT ?_;intro v' ao s z _;have Z1:Keeps (λk=>k=w.heap.size\/w.heap.size+3<k) A ao:=((Keeps.refl _ A).alloc _).grown z (λk hk=>.inl (.inr uY));obtain⟨g',TS,rfl⟩:=ownsRow_succ s;have h2:=(z.block w.heap.size bT (λe=>xe)).trans (cm H1.o _);have Z8:=jv h2;have Z_:=nx h2;have Q:=af h2;clear h2 z));have E:=Z1.setCell (p:=ad w 0 ab) (.inl rfl) (aq (some (ad g' 0 ab)) (pre.length+1) TS);have G:=ZS.o;refine⟨E,⟨⟨aq (some (ad g' 0 ab)) (pre.length+1) TS,xf,?_⟩,E.heap G.bM U,E.heap G.aE U,G.du.keeps E U U,cL G.eN E a7,b7 G.cE E.size⟩⟩;rw[cx,iT,show oV (pre++[x])=oV pre++(bw x).toList by simp[oV]];exact NN
 rintro W c r' Z6 ZJ;rw[r]at Z6;have⟨v,D,d⟩:=c.row;have vl:IsLink W B {l with out:=[]}:=⟨c.aE,c.du,r',Aw⟩;have ps:=jv D;have bo:=vl.bo;have V':=af c;have cF:=af r';have W':=af vl;have q:=af r;have mv:=af ZJ;have aaf:=c.cE;have ZG:=af j7;clear D c vl r' r ZJ j7;have Z':w.heap.size+2<W.heap.size:=by
  have:=bP mv.o
  rw[q.o]at this;exact this
 by_cases V:l.state=0
 .have s':=af (show lX l lead=(l.out++[(⟨mS l,none,0⟩:ht)].map ht.m,{l with out:=[]})by unfold lX;rw[az av,aD V];rfl);rw[V]at bo;gi_wp2_with (fail);refine(oz (n:=0)).2 (Lg ?_);have Z4:=ZO;have z0:=j8 (S:=λk=>w.heap.size+3<k) (w:=W.drew) (p:=ad B.p 0 ab) W'.o.bt (by show ¬ w.heap.size+3<B.p;omega);have Tq:=j8 (S:=λk=>w.heap.size+3<k) (w:=W.drew) (p:=ad w 0 ab) ps (by show ¬ w.heap.size+3<w.heap.size;omega);have O:=b4 d ((ba W).drew) (λ_ _=>id);have T:=O.alloc (ae (bw (mS l)) 254);have ZI:=aX W.drew (ae (bw (mS l)) 254);have ZL:Keeps aI W.drew (W.drew.alloc (ae (bw (mS l)) 254)):=(Keeps.refl _ _).alloc _;have ZQ:dR (W.drew.alloc (ae (bw (mS l)) 254)) 7 (some (ad W 0 ab)) 1 1 (bw (mS l)).toList:=uD (t:=254) ZI rfl jY;have ZH:=fg.1 (mX (mS l));refine cH 9 ?_;refine fs (λk=>w.heap.size+3<k) (.range 6) [6,7,8] 0 ?_;refine ir (c0 (ZL.mono λ_ _ x=>x.elim)) ?_;refine gi λK j=>?_;refine Df _ _ _ 250 rfl (w.heap.size+4) 254 i0 (.agg (bw a1.zero)) 7 56 underlying250 m'.out CW Q' St rfl U v l.out.length (oV l.out) rfl T (some (ad W 0 ab)) 1 1 _ rfl ZQ ZH pB U bT ?_;intro v' ao s z _;simp only[Act.put,c7];have M:Keeps (λk=>w.heap.size+3<k) W.drew ao:=(ZL.mono λ_ _ x=>x.elim).grown z (λk hk=>.inl uY);have N:Keeps (λk=>w.heap.size+3<k) W ao:=((Keeps.refl _ W).drew).trans M;refine j _ _ (c0 (M)) ?_;clear j K;refine n3 (c0 (M)) ?_;refine iu ?_;refine⟨rfl,?_⟩;have hd:=N.heap mv.o (by rw[q.o];omega);rw[q.o]at hd;have L:=λo=>JU (v:=v') (lead:=lead) (ys:=[⟨mS l,none,0⟩]) V'.o cF.o H.out N s rfl ZG.o (λx g=>by
   simp only[e6,uP,or_false]at g;subst g;exact⟨nR _,λ_ e=>by simp at e⟩) s'.o o
  have ZR:=af L;rw[q.o];clear L s T O ZQ ZI ZH z0 Tq;gi_wp2;exact NR
 have s':=af (show lX l lead=(l.out++mB l lead,{l with out:=[]})by unfold lX;rw[az av,az V]);have aah:(l.state == 0)=false:=by rw[eu];exact V
 gi_wp2_with (fail);refine(oz (n:=0)).2 (Lg ?_);have Z4:=ZO;have Tq:=j8 (S:=λk=>w.heap.size+3<k) (w:=W.drew) (p:=ad w 0 ab) ps (by show ¬ w.heap.size+3<w.heap.size;omega);have ZX:=Th (W'.o.drew 1) lead aO;refine cH 6 ?_;refine fs (λk=>w.heap.size+3<k) [0,1,2] [3,4,5] 0 ?_;refine gi λK j=>?_;go_simp;refine ZX.mono ?_;rintro e F ⟨⟨T',ZT,ys,rfl,sd,zp⟩,ZZ⟩;have C:Keeps aI W.drew F:=Keeps.bD ZZ (λk h1 h2=>by have h1:k<W.heap.size:=h1;have h2:W.heap.size<=k:=h2;omega);refine j _ _ (c0 (C.mono λ_ _ x=>x.elim)) ?_;clear j K;refine gi λK j=>?_;have O:=b4 d (((ba W).drew).trans C) (λ_ _=>id);have aab:0<ys.length:=by
  have:=cV length zp
  exact Mo
 have aag:ys.length<=2:=by
  have:=cV length zp
  exact Mo
 have ZP:∀ u∈jm ys,u.oneCell'=true:=by
  intro u hu;unfold jm at hu;have⟨x,_,g⟩:=uO.1 hu;have ZY:(ky x).toList.all (λv=>v.oneCell')=true:=aH;exact fg.1 ZY u g
 have aad:W.heap.size<=F.heap.size:=C.size;refine Df _ _ _ 250 rfl (w.heap.size+4) 254 i0 (.agg (bw a1.zero)) 7 56 underlying250 m'.out CW Q' St rfl U v l.out.length (oV l.out) rfl O T' ys.length ZT _ rfl sd.br ZP pB U U ?_;intro v' ao s z _;simp only[Act.put,c7];have M:Keeps (λk=>w.heap.size+3<k) F ao:=(Keeps.refl _ F).grown z (λk hk=>.inl uY);have Z3:Keeps (λk=>k<W.heap.size) F ao:=(Keeps.refl _ F).grown z (λk hk=>.inl (d.lt k hk).2);have w':Keeps (λk=>w.heap.size+3<k) W.drew ao:=(C.mono λ_ _ x=>x.elim).trans M;refine j _ _ (c0 (w')) ?_;clear j K;refine n3 (c0 (w')) ?_;refine iu ?_;refine⟨rfl,?_⟩;have N:Keeps (λk=>w.heap.size+3<k) W ao:=((Keeps.refl _ W).drew).trans w';have hd:=N.heap mv.out (by rw[q.out];omega);rw[q.out]at hd;have L:=λo=>JU (v:=v') (lead:=lead) (ys:=ys) V'.out cF.out H.out N s rfl ZG.out (λx g=>by
  have⟨h1,h2⟩:=sd.a8 x g;exact⟨h1.keeps Z3 (λ_ y e h=>by have ZU:W.heap.size<=y.block:=h2 y e;have h:y.block<W.heap.size:=h;omega),λy e=>by have ZU:W.heap.size<=y.block:=h2 y e;omega⟩) (by rw[zp];exact s'.out) o
 have ZR:=af L;rw[q.out];clear L s O Tq sd ZP;gi_wp2;exact NR
def Ir(h:IsLink w B l)(lead:aa)(aO:0<=l.b_/\l.b_<=1099511627776)(j7:∀ m∈l.out,m.a8=[]):aA 134 #[B.p,I lead] w (th w B l lead):=by
 by_cases av:l.state=2
 .exact WI h lead av
 exact WJ h lead av aO j7
end
end Go.Proofs.YtalagblioepadaaGreatDoor
