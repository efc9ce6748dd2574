/- The proof, part 24. -/
import Derived.Test.YtalagblioepadaaGreatDoorZd19
import Derived.Test.YtalagblioepadaaGreatDoorZd13
namespace Go.Proofs.YtalagblioepadaaGreatDoor
set_option linter.all false
open Proofs.Tryz List Go.RowKit
set_option maxRecDepth 100000
set_option maxHeartbeats 2000000
def xC{p:al}(h:p:=by rw[r];omega):p:=h
def AI{p:al}(h:p:=by simpa using a):p:=h
def vr{p:al}(h:p:=by have:=aw _ e;omega):p:=h
def EW{p:al}(h:p:=by cases e;exact c.out.nc.size):p:=h
def EV{p:al}(h:p:=by unfold maxLen;show 1<=_;omega):p:=h
def NF{p:al}(h:p:=by
 have F:=ag j;have ps:(l.cf%8 != 0)=false:=by simp[j]
 have r':l.cf.tmod 8=l.cf%8:=oS aK.1;clear j;obtain⟨Q,T⟩:∃ Q,oC l lead=Q:=⟨_,rfl⟩;have m':=VP l lead;rw[T]at m';have Aw:=ag T;clear T;obtain⟨g,u⟩|⟨g,u⟩|⟨g,u⟩|⟨g,u⟩|⟨⟨g,g'⟩,u⟩:=m'
 all_goals
  have l':=ag u;clear u;go_wp2_with fail;refine iN 10 aI aI ?_;simp only[hY,iE,hX,hF]
  repeat (go_big_quiet_step ((go_at_call 262;exact(lb.o _).mono λ_ _ h=>⟨h.1,_,h.2.symm⟩)))
  refine wpQuiet_nil ?_;intro _ zd;obtain⟨nq,zp⟩:=zd;subst zp;go_wp2_with fail;go_ret;have G:=aX (aD.drewN nq) (af (jD [i,⟨Q,none,0⟩]).toArray 254);have hk:=((bb aD).drewN nq).alloc (af (jD [i,⟨Q,none,0⟩]).toArray 254);have r:=c.out.nc.trans (hk.below c.out.nc.size (λ_ _ x=>x));have u:=l'.o;clear l';subst u;refine⟨⟨some (ae aD 0 ad),2,[i,⟨_,none,0⟩],rfl,⟨uS G rfl (by unfold maxLen;show 2<=_;omega),?_,λy e=>EW⟩,?_⟩,r⟩
  .intro x L;simp only[ff,vb,or_false]at L;rcases L with rfl|rfl
   .exact⟨c.out.bytes.keeps hk (λ_ _ _=>id),c.out.new⟩
   exact⟨ob _,λ_ e=>by simp at e⟩
  show [i.m,_]=mR l _;unfold mR;rw[aE F.out,c.out.is,Aw.out]
 ):p:=h
def Ot{p:al}(h:p:=by
 intro x L;simp only[ff,vb,or_false]at L;subst L;exact⟨c.out.bytes.keeps hk (λ_ _ _=>id),c.out.new⟩
 ):p:=h
def Oy{p:al}(h:p:=by
 exact b5 s ((Keeps.refl (λk=>k=w) ao).setCell (p:=ae w 0 ad) rfl _) (λb ak h=>Av)
 ):p:=h
def OD{p:al}(h:p:=by
 refine⟨aM,.inl ⟨_,_,rfl,run_takeDeferred fr,?_⟩⟩;refine⟨_,zV rfl _ _ _,?_⟩;exact aaB.o _
 ):p:=h
def M5{p:al}(h:p:=by
 rw[hG]at this;rw[this];unfold mR;split<;>simp
 ):p:=h
variable{w:aj}{B:iR}{l:cd}
def T1(a:Addr)(w:aj):aA 197 #[.pointer (some a)] w λe w'=>e=.returned (.func (.func 260) #[] #[w.heap.size])/\w.alloc (af #[.pointer (some a)] 60)=w':=by
 go_in
 go_wp2;go_ret;exact⟨rfl,rfl⟩
def Zy{L:ah a6}(h:iQ w B.h2 B.d2 8 L)(V:w.cell? (ae B.p 9 ad)=some (.pointer (some (ae B.h2 0 ad))))(a:J)(an:w.cell? (ae a 0 ad)=some (.pointer (some (ae B.p 0 ad))))(z:a<w.heap.size/\B.p<w.heap.size)(hne:a≠B.h2/\a≠B.d2/\B.p≠B.h2/\B.p≠B.d2)(i:J->al)(t:¬ i a/\¬ i B.p/\¬ i B.h2/\¬ i B.d2):F2 prog 260 #[a] (λm:a6=>#[.agg (bB m)]) L i (λb=>b=B.h2\/b=B.d2) (λW=>iQ W B.h2 B.d2 8 []) w:=by
 intro l S W fr hk vl D Z T;subst fr;have s':=h.le;have Q:=ag z;have gf:=hne.1;have g':=hne.2.1;have hd:=hne.2.2.1;have lb:=hne.2.2.2;refine gU.2 ?_
 go_in
 go_wp2_with fail;go_loopg [] L.length (λg wr=>∃ pre rest:ah a6,L=pre++rest/\g=rest.length/\wr.cell? (ae a 0 ad)=some (.pointer (some (ae B.p 0 ad)))/\wr.cell? (ae B.p 9 ad)=some (.pointer (some (ae B.h2 0 ad)))/\iQ wr B.h2 B.d2 8 rest/\S pre wr/\w.heap.size+2<=wr.heap.size)
 case atStart=>exact⟨[],L,rfl,rfl,hk.cell an id,hk.cell V id,h.keeps hk id id,T,U⟩
 have⟨pre,rest,E,aZ,M,H,C,A,l'⟩:=hrel;have y:=ag E;clear E;cases rest with
 | nil=>
  go_wp2_with fail;refine(Us C).mono ?_;rintro e aD ⟨rfl,k,d⟩;have dp:=nb aD;have f:=aX aD (af (bB a6.zero) 254);obtain⟨u,_,q⟩:=dQ (aD.alloc (af (bB a6.zero) 254)) 254 7 aD.heap.size (bB a6.zero) _ sizeOf254 rfl rfl f (ns _);have c:=cN ((bb aD).alloc (af (bB a6.zero) 254)) q a8;have s:=k.keeps c id id;have r:=D _ _ _ A (d.trans (c.mono λ_ _ x=>x.elim));clear f q c k d;generalize (aD.alloc (af (bB a6.zero) 254)).setRow aD.heap.size (bB a6.zero)=P at *;go_wp2_with (first|(refine dU dp rfl rfl ?_;simp only[Act.put,c8])|(refine c7 u rfl rfl rfl rfl ?_;try simp only[Act.put]));refine c1 (v:=aY #[]) jA rfl ?_;have he:L=pre:=by rw[y.out,eB]
  exact⟨⟨_,rfl⟩,by rw[he];exact r,s⟩
 | cons m rest=>
  go_wp2_with fail;refine(Ur C).mono ?_;rintro e aD ⟨rfl,k,d⟩;have dp:=nb aD;have f:=aX aD (af (bB a6.zero) 254);obtain⟨u,_,q⟩:=dQ (aD.alloc (af (bB a6.zero) 254)) 254 7 aD.heap.size (bB m) _ sizeOf254 rfl rfl f (ns _);have G:=fb (aD.alloc (af (bB a6.zero) 254)) aD.heap.size _ (bB m) 254 f;have c:=cN ((bb aD).alloc (af (bB a6.zero) 254)) q a8;have s:=k.keeps c id id;have r:=D _ _ _ A (d.trans (c.mono λ_ _ x=>x.elim));have m':=ca (ca l' d.size) c.size;have N:=(d.trans (c.mono λ_ _ x=>x.elim)).cell (p:=ae a 0 ad) M (λe=>e.elim gf g');have K:=(d.trans (c.mono λ_ _ x=>x.elim)).cell (p:=ae B.p 9 ad) H (λe=>e.elim hd lb);clear f q c k d M H A C;generalize (aD.alloc (af (bB a6.zero) 254)).setRow aD.heap.size (bB m)=P at *;have r':=aO G;clear G;go_upto_region 1 with(first|(refine dU dp rfl rfl ?_;simp only[Act.put,c8])|(refine c7 u rfl rfl rfl rfl ?_;try simp only[Act.put]))
  refine(oR (n:=0)).1 ?_;obtain⟨fn,tmps,assign,body,O,F⟩:=Z pre m rest P y.out r;simp only[bB]at O;gi_wp2;refine⟨rfl,F.mono ?_⟩;rintro e sd ⟨rfl,X,j⟩;clear O F r';have z:=Q.out;have ab:=j.cell (p:=ae a 0 ad) N (λe=>e.elim t.1 (λe=>by have e:a=w.heap.size+1:=e;omega));have a':=j.cell (p:=ae B.p 9 ad) K (λe=>e.elim t.2.1 (λe=>by have e:B.p=w.heap.size+1:=e;omega));have Y:=s.keeps j (λe=>e.elim t.2.2.1 a8) (λe=>e.elim t.2.2.2 a8);have ps:=ca m' j.size;have R:=ag (show L=(pre++[m])++rest by rw[y.out];simp);clear z N K s r j dp u;gi_wp2;go_wp2;go_roundg rest.length
  case measure=>simp at aZ;omega
  exact⟨pre++[m],rest,R.o,rfl,ab,a',Y,X,ps⟩
structure hK where
 m:a6
 a:b_ Addr
 c:J
def kN(x:hK):a7 ay:=#[I x.m.kind,aR x.m.bQ,bC x.m.cr,bC x.m.cp,aq x.a x.m.a_.length x.c,aR x.m.sum,I x.m.lead]
def jD(xs:ah hK):ah ay:=xs.flatMap λx=>(kN x).toList
structure AP(b:J)(w:aj)(A:b_ Addr)(cap:J)(xs:ah hK):al where
 bu:eb w 7 A xs.length cap (jD xs)
 a_:∀ x∈xs,c' w x.a x.c x.m.a_/\∀ y,x.a=some y->b<=y.block
 new:∀ y,A=some y->b<=y.block
def nK(l:cd):a6:=if l.own=[]then⟨5,0,0,l.next%65536,[],0,0⟩else⟨3,0,l.da%65536,l.next%65536,l.own,0,0⟩
def oC(l:cd)(lead:aa):a6:=⟨6,0,l.next%65536,0,[],0,max (-1000) (min lead 1000)⟩
def mR(l:cd)(lead:aa):ah a6:=if l.cf%8=0 then [nK l,oC l lead]else [nK l]
def PI{a:b_ Addr}{n cap:J}{L:ah aT}(h:eb w 1 a n cap ((ku L).map λx=>aH x)):c' w a cap L:=by
 have⟨h1,h2,c,d⟩:=h;have av:n=L.length:=by simp[ku]at h1;omega
 refine⟨U,c,?_⟩;by_cases e:L=[]
 .exact .inl e
 have⟨b,o,bh,an⟩:=d (by have:=qH.2 e;omega);exact .inr ⟨b,o,bh,λi ax=>an i _ (by simp[ku,ax,er])⟩
def ob(w:aj):c' w none 0 []:=⟨df _,de _,.inl rfl⟩
theorem uS{b n cM:J}{xs:ah ay}{t:TypeId}(c:w.heap[b]?=some (af xs.toArray t (0,0)))(d:xs.length=n*cM)(hm:n<=maxLen):eb w cM (some (ae b 0 ad)) n n xs:=
 ⟨d,df _,hm,λ_=>⟨b,0,rfl,λj u a=>by rw[gP];exact bf c AI⟩⟩
structure F0(bn w:aj)(l:cd)(x:hK):al where
 bytes:c' w x.a x.c x.m.a_
 new:∀ y,x.a=some y->bn.heap.size<=y.block
 is:x.m=nK l
 nc:Below bn bn w
def VP(l:cd)(lead:aa):(lead < -1000/\oC l lead=⟨6,0,l.next%65536,0,[],0,-1000⟩)\/(lead=-1000/\oC l lead=⟨6,0,l.next%65536,0,[],0,-1000⟩)\/(lead=1000/\oC l lead=⟨6,0,l.next%65536,0,[],0,1000⟩)\/(1000<lead/\oC l lead=⟨6,0,l.next%65536,0,[],0,1000⟩)\/((-1000<lead/\lead<1000)/\oC l lead=⟨6,0,l.next%65536,0,[],0,lead⟩):=by
 unfold oC;by_cases h1:lead<=-1000
 .rw[show max (-1000) (min lead 1000)=-1000 by omega];by_cases h2:lead=-1000
  .exact .inr (.inl ⟨h2,rfl⟩)
  exact .inl ⟨U,rfl⟩
 by_cases b:1000<=lead
 .rw[show max (-1000) (min lead 1000)=1000 by omega];by_cases a:lead=1000
  .exact .inr (.inr (.inl ⟨a,rfl⟩))
  exact .inr (.inr (.inr (.inl ⟨U,rfl⟩)))
 rw[show max (-1000) (min lead 1000)=lead by omega];exact .inr (.inr (.inr (.inr ⟨⟨U,U⟩,rfl⟩)))
def T0(h:IsLink w B l)(lead:aa)(aK:0<=l.cf/\l.cf<=1099511627776):aA 198 #[B.p,I lead] w λe w'=>(∃ A cap xs,e=.returned (aq A xs.length cap)/\AP w.heap.size w' A cap xs/\xs.map hK.m=mR l lead)/\Below w w w':=by
 have dY:=h.dY;have ek:=h.ek;have c2:=h.c2;have fI:=h.fI;have H:=ag h;have CW:=h.lt;clear h;by_cases O:l.own=[]
 .have z:=λw' (R:Below w w w')=>wm (H.o.below R).own;rw[O]at z;have C:=ag z;clear z
  go_in
  go_wp2_with fail;refine(ry _ _).mono ?_;rintro e _ ⟨rfl,rfl⟩;go_wp2_with fail;have g:=(b7 w.heap.size w).alloc bx (af (kN ⟨⟨5,0,0,l.next%65536,[],0,0⟩,none,0⟩) 254);have f:=aX w (af (kN ⟨⟨5,0,0,l.next%65536,[],0,0⟩,none,0⟩) 254);have c:=ag (show F0 w (w.alloc (af (kN ⟨⟨5,0,0,l.next%65536,[],0,0⟩,none,0⟩) 254)) l ⟨⟨5,0,0,l.next%65536,[],0,0⟩,none,0⟩from⟨ob _,λ_ e=>by simp at e,by show _=nK l;unfold nK;rw[aE O],g⟩);have d:=H.out.below g;have t:=C.out _ g;unfold kN at f c d t g;clear dY ek c2 fI C;refine t.mono ?_;rintro e aD ⟨rfl,hd⟩;rw[hd]at f c d g;clear t hd;generalize P:(⟨⟨5,0,0,l.next%65536,[],0,0⟩,none,0⟩:hK)=i at *;have a':aD.heap[w.heap.size]?=some (af (kN i) 254 (0,0)):=f;clear P f;have f:=a';clear a';have vl:=aO f;have dY:=d.dY;have fI:=d.fI;have E:=λn=>ry l.next (aD.drewN n);have lb:=ag E;clear E;by_cases j:l.cf%8=0
  .exact NF
  have F:=ag j;have ps:(l.cf%8 != 0)=true:=by simpa using j
  have r':l.cf.tmod 8=l.cf%8:=oS aK.1;clear j;go_wp2_with fail;go_ret;have G:=aX aD (af (jD [i]).toArray 254);have hk:=(bb aD).alloc (af (jD [i]).toArray 254);have r:=c.out.nc.trans (hk.below c.out.nc.size (λ_ _ x=>x));refine⟨⟨some (ae aD 0 ad),1,[i],rfl,⟨uS G rfl EV,?_,λy e=>EW⟩,?_⟩,r⟩
  .exact Ot
  show [i.m]=mR l lead;unfold mR;rw[aB F.o,c.out.is]
 have s':(ku l.own).length=l.own.length:=by simp[ku]
 have St:0<l.own.length:=qH.2 O;have z:=λw' (R:Below w w w')=>wm (H.out.below R).own;rw[s']at z;have C:=ag z;clear z
 go_in
 go_wp2_with fail;refine(ry _ _).mono ?_;rintro e _ ⟨rfl,rfl⟩;go_wp2_with fail;have g:=(b7 w.heap.size w).alloc bx (af (kN ⟨⟨5,0,0,l.next%65536,[],0,0⟩,none,0⟩) 254);have f:=aX w (af (kN ⟨⟨5,0,0,l.next%65536,[],0,0⟩,none,0⟩) 254);have d:=H.out.below g;have t:=C.out _ g;unfold kN at f d t g;simp only[fg]at f d t g;clear dY ek c2 fI C;refine t.mono ?_;rintro e ao ⟨rfl,g'⟩;rw[g']at f d g;clear t g';have ek:=d.ek;have c2:=d.c2;have v':=jE (S:=aG) (w:=ao.drew) (p:=ae B.p 6 ad) ek id;have ys:=jE (S:=aG) (w:=ao.drew) (p:=ae B.p 7 ad) c2 id;go_wp2_with fail;refine cJ 16 ?_;have sd:ao.drew=ao.drewN 1:=rfl;refine fu (λ_=>False) [0,1,2,3,5,6,7,8,10] [4,9] 5 ?_;refine gu λK a=>?_;go_simp;refine(ry _ _).mono ?_;rintro e _ ⟨rfl,rfl⟩;refine a _ _ (c6 (Keeps.refl _ _)) ?_;clear a K;refine ko λK a=>?_;go_simp;refine(Tc (d.drew 1).own).mono ?_;rintro e q ⟨s,v,rfl,ab,Y,gf⟩;have Q:Keeps aG ao.drew q:=Keeps.bJ gf (λk h1 h2=>by rw[sd]at h1;omega);refine a _ _ (c6 (Q)) ?_;clear a K;have D:Keeps aG ao q:=((Keeps.refl _ ao).drew).trans Q;have M:=D.heap f id;have V:=d.keeps D (λ_ _=>id);have r:=g.trans (D.below g.size (λ_ _ x=>x));have f0:=bP M;have g0:=aO M;refine fu (λ_=>True) [] [11,12,13,14,15] 0 ?_;refine gu λK a=>?_;go_simp;refine a _ _ (c6 ((Keeps.refl (λ_=>True) _).setCell trivial _)) ?_;clear a K;refine gu λK a=>?_;go_simp;refine a _ _ (c6 ((Keeps.refl (λ_=>True) _).setCell trivial _)) ?_;clear a K;refine gu λK a=>?_;go_simp;refine a _ _ (c6 (((Keeps.refl (λ_=>True) _).setCell trivial _).setCell trivial _)) ?_;clear a K;refine gu λK a=>?_;go_simp;refine a _ _ (c6 (((Keeps.refl (λ_=>True) _).setCell trivial _).setCell trivial _)) ?_;clear a K;refine ko λK a=>?_;go_simp;refine a _ _ (c6 ((((Keeps.refl (λ_=>True) _).setCell trivial _).setCell trivial _).setCell trivial _)) ?_;clear a K;refine iI ?_;have fr:=b3 (b3 (b3 M 0 (I 3)) 2 (bC (l.da%65536))) 4 (aq s l.own.length v)
 have N:Keeps (λb=>b=w) q (((q.setCell (ae w 0 ad) (I 3)).setCell (ae w 2 ad) (bC (l.da%65536))).setCell (ae w 4 ad) (aq s l.own.length v)):=
  Keeps.setCell (S:=λb=>b=w.heap.size) (Keeps.setCell (S:=λb=>b=w.heap.size) (Keeps.setCell (S:=λb=>b=w.heap.size) (Keeps.refl _ q) (p:=ae w 0 ad) rfl _) (p:=ae w 2 ad) rfl _) (p:=ae w 4 ad) rfl _
 have X:=PI ab;have Tq:ao.heap.size<=q.heap.size:=D.size;have Q':w.heap.size<ao.heap.size:=bT f;have Z:∀ y,s=some y->ao.heap.size<=y.block:=Y
 have c:=ag (show F0 w (((q.setCell (ae w 0 ad) (I 3)).setCell (ae w 2 ad) (bC (l.da%65536))).setCell (ae w 4 ad) (aq s l.own.length v)) l ⟨⟨3,0,l.da%65536,l.next%65536,l.own,0,0⟩,s,v⟩from
  ⟨X.keeps N (λ_ y e h=>by have:=Z y e;have h:y.block=w.heap.size:=h;omega),λy e=>by have:=Z y e;omega,by show _=nK l;unfold nK;rw[aB O],r.trans (N.below r.size a8)⟩)
 have W:=V.keeps N (λb ak h=>by
  have h:b=w.heap.size:=h;rcases ak with e|e|e|e|e<;>omega)
 change Exit.then _ _ _ _ (((q.setCell (ae w 0 ad) (I 3)).setCell (ae w 2 ad) (bC (l.da%65536))).setCell (ae w 4 ad) (aq s l.own.length v));clear f0 g0 M f V d N D Q ab Y gf X v' ys ek c2 r g;generalize ((q.setCell (ae w 0 ad) (I 3)).setCell (ae w 2 ad) (bC (l.da%65536))).setCell (ae w 4 ad) (aq s l.own.length v)=aD at *;have d:=W;clear W;generalize P:(⟨⟨3,0,l.da%65536,l.next%65536,l.own,0,0⟩,s,v⟩:hK)=i at *;have f:aD.heap[w.heap.size]?=some (af (kN i) 254 (0,0)):=by rw[<-P];exact fr
 clear P fr;have vl:=aO f;have dY:=d.dY;have fI:=d.fI;have E:=λn=>ry l.next (aD.drewN n);have lb:=ag E;clear E;by_cases j:l.cf%8=0
 .exact NF
 have F:=ag j;have ps:(l.cf%8 != 0)=true:=by simpa using j
 have r':l.cf.tmod 8=l.cf%8:=oS aK.1;clear j;go_wp2_with fail;go_ret;have G:=aX aD (af (jD [i]).toArray 254);have hk:=(bb aD).alloc (af (jD [i]).toArray 254);have r:=c.out.nc.trans (hk.below c.out.nc.size (λ_ _ x=>x));refine⟨⟨some (ae aD 0 ad),1,[i],rfl,⟨uS G rfl EV,?_,λy e=>EW⟩,?_⟩,r⟩
 .exact Ot
 show [i.m]=mR l lead;unfold mR;rw[aB F.o,c.out.is]
section
attribute [local go_sem] Oper.semAt_some
variable{w:aj}{B:iR}{l:cd}
def vP:a6:=⟨7,0,0,0,[],0,0⟩
def nk(l:cd):a6:=⟨1,l.bQ,0,0,[],0,0⟩
def mb(l:cd)(lead:aa):ah a6×cd:=
 if l.state=2 then(if l.jW then([vP],{l with jW:=false})else([],l))else(l.out++(if l.state=0 then [nk l]else mR l lead),{l with out:=[]})
def tw(w:aj)(B:iR)(l:cd)(lead:aa)(e:Ending)(w':aj):al:=
 (∃ A cap xs,e=.returned (aq A xs.length cap)/\AP w.heap.size w' A cap xs/\xs.map hK.m=(mb l lead).1)/\IsLink w' B (mb l lead).2/\Keeps B.S w w'
def SZ:(prog.info? 254).map (λi=>(i.zero,i.size,i.bytes))=some (some (.agg (bB a6.zero)),7,56):=aI
def Xr(h:IsLink w B l)(lead:aa)(aw:l.state=2):aA 134 #[B.p,I lead] w (tw w B l lead):=by
 have bw:=h.bw;have eC:=h.eC;have f3:=h.free 3;rw[aw]at bw;unfold tw mb;rw[aE aw];cases ak:l.jW
 .rw[aB aM];rw[ak]at eC
  go_in
  go_wp2;go_ret;exact⟨⟨none,0,[],rfl,⟨eb.nil _ _,λx a=>(by cases a),λy e=>(by cases e)⟩,rfl⟩,h,Keeps.refl _ _⟩
 rw[aE rfl];rw[ak]at eC;have d:=ag (h.set 3 (.bool false) {l with jW:=false} rfl rfl rfl);have c:=ag (Keeps.setCell (S:=B.S) (Keeps.refl _ w) (p:=ae B.p 3 ad) (.inl rfl) (.bool false))
 go_in
 go_wp2;go_ret;have f:(w.setCell (ae B.p 3 ad) (.bool false)).heap.size=w.heap.size:=aM;have b:=aX (w.setCell (ae B.p 3 ad) (.bool false)) (af (jD [⟨vP,none,0⟩]).toArray 254);rw[f]at b;refine⟨⟨some (ae w 0 ad),1,[⟨vP,none,0⟩],rfl,⟨uS b rfl EV,?_,λy e=>by cases e;exact df _⟩,rfl⟩,(d.o.below ((b7 _ (w.setCell (ae B.p 3 ad) (.bool false))).alloc bx (af (jD [⟨vP,none,0⟩]).toArray 254))),c.o.alloc _⟩;intro x a;simp only[ff,vb,or_false]at a;subst a;exact⟨ob _,λ_ e=>by simp at e⟩
def PV(A:aj)(cs:a7 ay)(t:TypeId)(j:J)(u:ay)(h:cs.toList[j]?=some u):(A.alloc (af cs t)).cell? (((ae A 0 ad):Addr).add j)=some u:=by
 rw[ij,gP];exact bf (aX _ _) ic
def pa(xs:ah a6):ah ay:=xs.flatMap λm=>(bB m).toList
structure tz(w W:aj)(B:iR)(l:cd)(pre:ah a6):al where
 row:∃ v,W.heap[w.heap.size]?=some (af #[v] 250 (0,0))/\W.ownsRow (w.heap.size+4) 254 7 v pre.length (pa pre)
 bN:W.heap[w.heap.size+1]?=some (af #[B.p] 60 (0,0))
 aF:W.heap[B.p]?=some (af (lY B l) 124 (0,0))
 dB:kh W B.h1 B.d1 64 (ku l.own)
 eU:Keeps (λb=>b=B.h2\/b=B.d2) w W
 cM:w.heap.size+2<=W.heap.size
def tz.keep{w W W':aj}{pre:ah a6}{S:J->al}(h:tz w W B l pre)(hk:Keeps S W W')(d:IsLink w B l)(aw:∀ b,S b->b=B.h2\/b=B.d2\/(w.heap.size+2<=b/\b<=w.heap.size+3)):tz w W' B l pre:=by
 have m:=d.lt;have a:=d.ok.a;have i:=d.ok.b;have c:=d.ok.c;have⟨v,g,f⟩:=h.row;refine⟨⟨v,hk.heap g (λe=>vr),b5 f hk (λb ak e=>by have:=(f.lt b ak).1;have:=aw _ e;omega)⟩,hk.heap h.bN (λe=>vr),hk.heap h.aF (λe=>vr),h.dB.keeps hk (λe=>vr) (λe=>vr),?_,ca h.cM hk.size⟩;exact cN h.eU hk (λk j e=>vr)
theorem LV{P:Program}{c:Code}{Q:Exit->Act->aj->al}{a:Act}{w:aj}(h:c.wp P (λe a' w'=>e=Exit.normal/\Q .normal a' w') a w):c.wp P Q a w:=
 wp_mono h (λe a' w' ⟨b,d⟩=>by subst b;exact d)
def Rx(L:ah a6)(h:∀ m∈L,m.a_=[]):jD (L.map λm=>(⟨m,none,0⟩:hK))=pa L:=by
 unfold jD pa
 induction L with
 | nil=>rfl
 | cons m L b=>
  rw[jQ,jc,jc,b (λx a=>h x (by simp[a]))]
  congr 1
  simp[kN,bB,(h m aM)]
def Kw{w W ao:aj}{v:ay}{n:J}{ys:ah hK}{lead:aa}(f:tz w W B l l.out)(p:iQ W B.h2 B.d2 8 [])(g:IsLink w B l)(hk:Keeps (λk=>w.heap.size+3<k) W ao)(s:ao.ownsRow (w.heap.size+4) 254 7 v n (pa l.out++jD ys))(av:n=l.out.length+ys.length)(kl:∀ m∈l.out,m.a_=[])(t:∀ x∈ys,c' ao x.a x.c x.m.a_/\∀ y,x.a=some y->w.heap.size+3<=y.block)(aw:mb l lead=(l.out++ys.map hK.m,{l with out:=[]}))(o:Obj):tw w B l lead (.returned v) (ao.putObj (w.heap.size+2) o):=by
 have u:=g.lt;have au:Keeps (λk=>k=w+2) ao (ao.putObj (w.heap.size+2) o):=Keeps.putObj (S:=λk=>k=w.heap.size+2) (Keeps.refl _ ao) rfl _;obtain⟨A,cap,rfl,aU,ak⟩:=cS s;have r:Keeps (λk=>w.heap.size+2=k\/w.heap.size+3<k) W (ao.putObj (w.heap.size+2) o):=(hk.mono λ_ _ h=>.inr h).trans (au.mono λ_ _ h=>.inl h.symm);have q:IsLink W B {l with out:=[]}:=⟨f.aF,f.dB,p,g.ok⟩;unfold tw;rw[aw];refine⟨⟨A,cap,(l.out.map λm=>(⟨m,none,0⟩:hK))++ys,?_,⟨?_,?_,λy e=>by have:=(ak y e).1;omega⟩,?_⟩,q.keeps r (λb i=>by rcases i with e|e|e|e|e<;>omega),?_⟩
 .rw[av,cx,hG]
 .rw[cx,hG,<-av,show jD ((l.out.map λm=>(⟨m,none,0⟩:hK))++ys)=pa l.out++jD ys by rw[<-Rx _ kl];simp[jD]];exact aU.keeps au (λ_ y e h=>by have:=(ak y e).1;omega)
 .intro x d;rcases eJ.1 d with d|d
  .obtain⟨m,hm,rfl⟩:=e9.1 d;exact⟨by show c' _ none 0 m.a_;rw[kl m hm];exact ob _,λ_ e=>by simp at e⟩
  have⟨h1,h2⟩:=t x d;exact⟨h1.keeps au (λ_ y e h=>by have:=h2 y e;omega),λy e=>by have:=h2 y e;omega⟩
 .rw[jx,map_map]
  congr 1
  show l.out.map (λm=>m)=l.out;simp
 exact cN (cN (f.eU.mono (T:=B.S) λb _ h=>h.elim (λe=>.inr (.inr (.inr (.inl e)))) (λe=>.inr (.inr (.inr (.inr e))))) hk (λk j e=>U)) au (λk j e=>U)
def Xs(h:IsLink w B l)(lead:aa)(aw:l.state≠2)(aK:0<=l.cf/\l.cf<=1099511627776)(kl:∀ m∈l.out,m.a_=[]):aA 134 #[B.p,I lead] w (tw w B l lead):=by
 obtain⟨i0,ax,CW,Q',St⟩:∃ i,prog.info? 254=some i/\i.zero=some (.agg (bB a6.zero))/\i.size=7/\i.bytes=56:=by
  have h:=SZ;cases aS:prog.info? 254 with
  | none=>rw[aS]at h;cases h
  | some i=>rw[aS]at h;simp only[pN,hI,jR]at h;exact⟨i,rfl,h.1,h.2.1,h.2.2⟩
 have aay:=h.lt;have Aw:=h.ok;have m':=ag ax;have bw:=h.bw;have H:=ag h;have aaW:=h.out.le.1;refine(gU (n:=0)).1 ?_;refine callsIn_of_wp_marks func134 rfl trivial ?_ rfl;simp only[ntmps134,hh,dy,fg,Nat.reduceAdd,Nat.reduceSub,s5,s6,tb,s8,nT,kV];gi_wp2_with (fail);refine⟨trivial,rfl,gU.2 ((T1 _ _).mono ?_)⟩;rintro e aD ⟨rfl,ab⟩;gi_wp2_with (fail);have r:aD.heap.size=w.heap.size+2:=by rw[<-ab];simp
 have aaw:Keeps aG w aD:=by rw[<-ab];exact((Keeps.refl _ w).alloc _).alloc _
 have aaG:aD.heap[w.heap.size]?=some (af #[aq none 0 0] 250 (0,0)):=by rw[<-ab];exact cw (aX _ _) _
 have aau:aD.heap[w.heap.size+1]?=some (af #[B.p] 60 (0,0)):=by
  have:=aX (w.alloc (af #[aq none 0 0] 250)) (af #[B.p] 60)
  rw[fH,ab]at this;exact this
 have P:=H.out.keeps aaw (λ_ _=>id)
 refine ZN (gf:=260) (lb:=#[.pointer (some (ae (w+1) 0 ad))]) rfl (enters_of func260 aI rfl)
  (λ_=>rfl) l.out (λk=>k=w.heap.size\/w.heap.size+3<k) (λb=>b=B.h2\/b=B.d2) (λW=>iQ W B.h2 B.d2 8 [])
  (Zy P.out P.fq (w.heap.size+1) (bf aau rfl) ⟨U,U⟩ ⟨U,U,Aw.a.2.2.1,Aw.a.2.2.2⟩ _ ⟨U,U,U,U⟩)
  (λX Y f Z hk=>f.keeps hk U U)
  xC xC
  (λpre W=>tz w W B l pre)
  ?inv ?start
  (λpre x a' W=>∃ X,a'={tmps:=#[.pointer (some (ae B.p 0 ad)),I lead,undef,undef,aq none 0 0,.pointer (some (ae w 0 ad)),.pointer (some (ae X 0 ad)),.pointer (some (ae B.p 0 ad)),.pointer (some (ae B.p 0 ad)),.pointer (some (ae B.p 2 ad)),I l.state,.bool false,undef,undef,undef,undef,undef,undef,undef,undef,undef,undef,.pointer (some (ae B.p 0 ad)),.func (.func 260) #[] #[.pointer (some (ae (w+1) 0 ad))],.agg (bB x),undef,undef,undef,undef,undef,undef,undef,undef,undef,undef,undef,undef,undef,undef,undef,undef,undef,undef,undef,undef,undef,undef],defers:=[]}/\w.heap.size+4<=X/\W.heap[X]?=some (af (bB x) 254 (0,0))/\tz w W B l pre)
  ?ass ?assign ?body ?done
 case inv=>
  intro pre X Y f Z hk;exact f.keep hk H.out (λb ak=>by rw[r]at ak;omega)
 case start=>exact⟨⟨_,aaG,gx _ _ _ _⟩,aau,P.bd,P.own,aaw.mono λ_ _ x=>x.elim,U⟩
 case ass=>
  rintro pre x a' A cG ⟨X,rfl,R,f,c⟩ Z hk;exact⟨X,rfl,R,hk.heap f U,c.keep hk H.out a8⟩
 case assign=>
  intro l' pre x rest A K zd g c Z j;have f:=aX A (af (bB a6.zero) 254);obtain⟨aaP,_,aaM⟩:=dQ (A.alloc (af (bB a6.zero) 254)) 254 7 A.heap.size (bB x) _ sizeOf254 rfl rfl f (ns _);have R:=fb (A.alloc (af (bB a6.zero) 254)) A.heap.size _ (bB x) 254 f;have C:=cN ((bb A).alloc (af (bB a6.zero) 254)) aaM a8;generalize (A.alloc (af (bB a6.zero) 254)).setRow A.heap.size (bB x)=T' at *;refine D7 ?_;simp only[Ai,Ag,Ah,z_,oU,rS,c8];refine zF (nb A) rfl rfl ?_;refine zG (p:=.pointer (some (ae A 0 ad))) (u:=.agg (bB x)) aaP rfl rfl rfl rfl ?_;refine D8 ?_;refine j _ _ ⟨A,rfl,U,R,c.keep C H.out (λb ak=>ak.elim)⟩ (C.mono λ_ _ x=>x.elim)
 case body=>
  rintro l' pre x rest a' A zd g ⟨X,rfl,R,f,c⟩ Z;obtain⟨v,D,d⟩:=c.row;have aaY:pre.length+1<=8:=by
   have:=c5 length g
   simp at this;omega
  have aax:=ug f;have ps:=jN D;have aaT:=nO D;have H1:=ag D;have aaC:=ag c;have Hx:=ag g;have aaR:=ag zd;have q:=ag r;have aa0:w.heap.size+4<=A.heap.size:=U;clear zd r;have aaF:=aX A (af (bB x) 254);clear D c g f;unfold bB at aax aaF;have aaK:=PV A (bB x) 254;have T:=d.alloc (af (bB x) 254);gi_wp2_with (first|(refine DH aax rfl rfl rfl ?_)|(gi_at_builtin;refine wpListIn_append_own _ rfl _ _ 250 rfl (w.heap.size+4) 254 i0 (.agg (bB a6.zero)) 7 56 underlying250 m'.out CW Q' St rfl bt _ _ _ rfl T (ae A 0 ad) 1 1 (bB x).toList rfl rfl aaK (fw.1 (ns x)) pR U b1 ?_;intro v' ao s z _;have aaL:Keeps (λk=>k=w.heap.size\/w.heap.size+3<k) A ao:=((Keeps.refl _ A).alloc _).grown z (λk hk=>.inl (.inr vn));obtain⟨g',TS,rfl⟩:=ownsRow_succ s;have h2:=(z.block w.heap.size b1 (λe=>xx)).trans (cw H1.o _);have aaS:=jN h2;have aaU:=nO h2;have Q:=ag h2;clear h2 z));have E:=aaL.setCell (p:=ae w 0 ad) (.inl rfl) (aq (some (ae g' 0 ad)) (pre.length+1) TS);have G:=aaC.o;refine⟨E,⟨⟨aq (some (ae g' 0 ad)) (pre.length+1) TS,xy,?_⟩,E.heap G.bN U,E.heap G.aF U,G.dB.keeps E U U,cN G.eU E a8,ca G.cM E.size⟩⟩;rw[cx,jd,show pa (pre++[x])=pa pre++(bB x).toList by simp[pa]];exact Oy
 rintro W c r' aaQ aat;rw[r]at aaQ;have⟨v,D,d⟩:=c.row;have vl:IsLink W B {l with out:=[]}:=⟨c.aF,c.dB,r',Aw⟩;have ps:=jN D;have bw:=vl.bw;have V':=ag c;have cI:=ag r';have W':=ag vl;have q:=ag r;have hd:=ag aat;have aa1:=c.cM;have aaq:=ag kl;clear D c vl r' r aat kl;have aaV:w.heap.size+2<W.heap.size:=by
  have:=bT hd.o
  rw[q.o]at this;exact this
 by_cases V:l.state=0
 .have s':=ag (show mb l lead=(l.out++[(⟨nk l,none,0⟩:hK)].map hK.m,{l with out:=[]})by unfold mb;rw[aB aw,aE V];rfl);rw[V]at bw;gi_wp2_with (fail);refine(oR (n:=0)).2 (LV ?_);have aaO:=aay;have z0:=jE (S:=λk=>w.heap.size+3<k) (w:=W.drew) (p:=ae B.p 0 ad) W'.o.bz (by show ¬ w.heap.size+3<B.p;omega);have Tq:=jE (S:=λk=>w.heap.size+3<k) (w:=W.drew) (p:=ae w 0 ad) ps (by show ¬ w.heap.size+3<w.heap.size;omega);have O:=b5 d ((bb W).drew) (λ_ _=>id);have T:=O.alloc (af (bB (nk l)) 254);have aas:=aX W.drew (af (bB (nk l)) 254);have aav:Keeps aG W.drew (W.drew.alloc (af (bB (nk l)) 254)):=(Keeps.refl _ _).alloc _;have aaA:eb (W.drew.alloc (af (bB (nk l)) 254)) 7 (some (ae W 0 ad)) 1 1 (bB (nk l)).toList:=uS (t:=254) aas rfl kd;have aar:=fw.1 (ns (nk l));refine cJ 9 ?_;refine fu (λk=>w.heap.size+3<k) (.range 6) [6,7,8] 0 ?_;refine iH (c6 (aav.mono λ_ _ x=>x.elim)) ?_;refine gu λK j=>?_;refine DL _ _ _ 250 rfl (w.heap.size+4) 254 i0 (.agg (bB a6.zero)) 7 56 underlying250 m'.out CW Q' St rfl U v l.out.length (pa l.out) rfl T (some (ae W 0 ad)) 1 1 _ rfl aaA aar pR U b1 ?_;intro v' ao s z _;simp only[Act.put,c8];have M:Keeps (λk=>w.heap.size+3<k) W.drew ao:=(aav.mono λ_ _ x=>x.elim).grown z (λk hk=>.inl vn);have N:Keeps (λk=>w.heap.size+3<k) W ao:=((Keeps.refl _ W).drew).trans M;refine j _ _ (c6 (M)) ?_;clear j K;refine ou (c6 (M)) ?_;refine iI ?_;refine⟨rfl,?_⟩;have fr:=N.heap hd.o (by rw[q.o];omega);rw[q.o]at fr;have L:=λo=>Kw (v:=v') (lead:=lead) (ys:=[⟨nk l,none,0⟩]) V'.o cI.o H.out N s rfl aaq.o (λx g=>by
   simp only[ff,vb,or_false]at g;subst g;exact⟨ob _,λ_ e=>by simp at e⟩) s'.o o
  have aaB:=ag L;rw[q.o];clear L s T O aaA aas aar z0 Tq;gi_wp2;exact OD
 have s':=ag (show mb l lead=(l.out++mR l lead,{l with out:=[]})by unfold mb;rw[aB aw,aB V]);have aa3:(l.state == 0)=false:=by rw[eA];exact V
 gi_wp2_with (fail);refine(oR (n:=0)).2 (LV ?_);have aaO:=aay;have Tq:=jE (S:=λk=>w.heap.size+3<k) (w:=W.drew) (p:=ae w 0 ad) ps (by show ¬ w.heap.size+3<w.heap.size;omega);have aaH:=T0 (W'.o.drew 1) lead aK;refine cJ 6 ?_;refine fu (λk=>w.heap.size+3<k) [0,1,2] [3,4,5] 0 ?_;refine gu λK j=>?_;go_simp;refine aaH.mono ?_;rintro e F ⟨⟨T',aaD,ys,rfl,sd,zp⟩,aaJ⟩;have C:Keeps aG W.drew F:=Keeps.bJ aaJ (λk h1 h2=>by have h1:k<W.heap.size:=h1;have h2:W.heap.size<=k:=h2;omega);refine j _ _ (c6 (C.mono λ_ _ x=>x.elim)) ?_;clear j K;refine gu λK j=>?_;have O:=b5 d (((bb W).drew).trans C) (λ_ _=>id);have aaX:0<ys.length:=by
  have:=c5 length zp
  exact M5
 have aa2:ys.length<=2:=by
  have:=c5 length zp
  exact M5
 have aaz:∀ u∈jD ys,u.oneCell'=true:=by
  intro u hu;unfold jD at hu;have⟨x,_,g⟩:=xj.1 hu;have aaI:(kN x).toList.all (λv=>v.oneCell')=true:=aI;exact fw.1 aaI u g
 have aaZ:W.heap.size<=F.heap.size:=C.size;refine DL _ _ _ 250 rfl (w.heap.size+4) 254 i0 (.agg (bB a6.zero)) 7 56 underlying250 m'.out CW Q' St rfl U v l.out.length (pa l.out) rfl O T' ys.length aaD _ rfl sd.bu aaz pR U U ?_;intro v' ao s z _;simp only[Act.put,c8];have M:Keeps (λk=>w.heap.size+3<k) F ao:=(Keeps.refl _ F).grown z (λk hk=>.inl vn);have aaN:Keeps (λk=>k<W.heap.size) F ao:=(Keeps.refl _ F).grown z (λk hk=>.inl (d.lt k hk).2);have w':Keeps (λk=>w.heap.size+3<k) W.drew ao:=(C.mono λ_ _ x=>x.elim).trans M;refine j _ _ (c6 (w')) ?_;clear j K;refine ou (c6 (w')) ?_;refine iI ?_;refine⟨rfl,?_⟩;have N:Keeps (λk=>w.heap.size+3<k) W ao:=((Keeps.refl _ W).drew).trans w';have fr:=N.heap hd.out (by rw[q.out];omega);rw[q.out]at fr;have L:=λo=>Kw (v:=v') (lead:=lead) (ys:=ys) V'.out cI.out H.out N s rfl aaq.out (λx g=>by
  obtain⟨h1,h2⟩:=sd.a_ x g;exact⟨h1.keeps aaN (λ_ y e h=>by have aaE:W.heap.size<=y.block:=h2 y e;have h:y.block<W.heap.size:=h;omega),λy e=>by have aaE:W.heap.size<=y.block:=h2 y e;omega⟩) (by rw[zp];exact s'.out) o
 have aaB:=ag L;rw[q.out];clear L s O Tq sd aaz;gi_wp2;exact OD
def I5(h:IsLink w B l)(lead:aa)(aK:0<=l.cf/\l.cf<=1099511627776)(kl:∀ m∈l.out,m.a_=[]):aA 134 #[B.p,I lead] w (tw w B l lead):=by
 by_cases aw:l.state=2
 .exact Xr h lead aw
 exact Xs h lead aw aK kl
end
end Go.Proofs.YtalagblioepadaaGreatDoor
