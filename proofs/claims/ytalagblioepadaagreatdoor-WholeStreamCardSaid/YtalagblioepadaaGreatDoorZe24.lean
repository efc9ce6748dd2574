/- The proof, part 24. -/
import Derived.Test.YtalagblioepadaaGreatDoorZe23
namespace Go.Proofs.YtalagblioepadaaGreatDoor
set_option linter.all false
open Proofs.Tryz List Go.RowKit
set_option maxRecDepth 100000
set_option maxHeartbeats 1000000
variable{ww:Prop}
def zx(h:ww:=by show w.heap.size<=w.heap.size+1;omega):=h
variable{s:(J->U)×ai aE}{c d ak a8 eD eE bR bI v0 v1:U}{b:J}{W bE:aj}
variable{w w':aj}{bt g bj:J}{v:J->U}{fr:U}{xs:ai aE}
def eO.mono{k:J}{e:U}(h:eO c k e v)(an:c<=d):eO d k e v:=λj a=>by
 have h1:=h j a;refine⟨h1.1,Co h1.2 ?_⟩;unfold kQ
 repeat' split
 all_goals omega
theorem cP.mono(h:cP w bt g bj fr c 0 0 v xs bE)(an:c<=d):cP w bt g bj fr d 0 0 v xs bE:=⟨h.st,h.bF,h.lim.mono an⟩
def O7(h:cP w bt g bj fr c 0 0 v xs bE)(i:J)(av:i<2)(aT:-50<=v (4+i*10+5))(an:c<1000):aB 355 #[g,aa i] bE λe w'=>e=aV #[]/\cP w bt g bj fr (c+1) 0 0 (j' i fr (v,xs)).1 (j' i fr (v,xs)).2 w':=by
 have ar:=kR i av;have d:=kR (1-i) I;have iX:=h.hl ar 5 I;have p:=h.st.free (4+i*10+5);have y:-100<=v (4+i*10+5)/\v (4+i*10+5)<=1000:=h.lim.num ar 5 I;have z:0<=v (4+(1-i)*10+9)/\v (4+(1-i)*10+9)<=c:=h.lim.num d 9 I;have f:=ad (h.s9 ar 5 I (v (4+i*10+5)-1) (by show -100<=_/\_<=1000;omega));have t:(i:U)+1<=2:=I;obtain⟨R,j⟩:∃ R,j' i fr (v,xs)=R:=⟨_,rfl⟩;rw[j]
 go_in
 go_upto_region 2 with fail
 have ax:=f.o;generalize World.setCell _ _ _=aq at *;have cx:aq.cell? (ah g (4+i*10))=some (af (bn v (4+i*10+5) (v (4+i*10+5)-1) (4+i*10))):=ax.fZ ar 0 I;have b:bn v (4+i*10+5) (v (4+i*10+5)-1) (4+i*10)=v (4+i*10):=az I;have k:bn v (4+i*10+5) (v (4+i*10+5)-1) (4+i*10+5)=v (4+i*10+5)-1:=aD rfl;have l:bn v (4+i*10+5) (v (4+i*10+5)-1) (4+(1-i)*10+9)=v (4+(1-i)*10+9):=az I;have ds:aZ (v (4+i*10)):=by rw[<-b];exact ax.lim.fix ar 0 I
 rw[b]at cx;have H:=ad (rO ax.st (i+1) 2 2 32768 8 0 (v (4+i*10)) ds);go_wp2_with fail;refine aS H.o ?_;rintro aF ⟨h2,bK⟩;have ax:=ax.b8 h2 bK;have a:=j;unfold j' at a;dsimp only at a;generalize u:bn v (4+i*10+5) (v (4+i*10+5)-1)=v1 at *;generalize x:fM fr xs (hn (i+1) 2 2 32768 8 0 (v (4+i*10)))=cm at *;have iX:=ax.hl ar 5 I;rw[k]at iX;by_cases al:1<v (4+i*10+5)
 .rw[aD al]at a;subst a;have m:0<v (4+i*10+5)-1:=I;have f:=ad (ax.mono (show c<=c+1 by omega));refine aK;exact Iq
 rw[az al]at a;have m:¬ 0<v (4+i*10+5)-1:=I;have q:=ax.st.free (4+i*10+8);have B:=ax.hl ar 8 I;have f:=ad ((ax.s9 ar 8 I 30 (by show 0<=_/\_<=(1000:U);omega)).mono (show c<=c+1 by omega));refine VX;have D:bn v1 (4+i*10+8) 30 (4+(1-i)*10+9)=v (4+(1-i)*10+9):=by rw[<-l];exact az I
 have d0:bn v1 (4+i*10+8) 30 (4+i*10)=v (4+i*10):=by rw[<-b];exact az I
 generalize bn v1 (4+i*10+8) 30=v2 at *;have N:=ax.hl d 9 I;refine ed;have r:=ax.st.free (4+(1-i)*10+9);have f:=ad (ax.s9 d 9 I (v (4+(1-i)*10+9)+1) (by show 0<=_/\_<=c+1;omega));have n:(1:U)-i=((1-i:J):U):=I;have s:1-i<2:=I
 go_region
 have ax:=f.o.keep (ag.refl _ _).drew;refine xR;have cp:bn v2 (4+(1-i)*10+9) (v (4+(1-i)*10+9)+1) (4+i*10)=v (4+i*10):=by rw[<-d0];exact az I
 generalize bn v2 (4+(1-i)*10+9) (v (4+(1-i)*10+9)+1)=A at *;have cx:wd.cell? (ah g (4+i*10))=some (af (v (4+i*10))):=by rw[<-cp];exact ax.fZ ar 0 I
 have H:=ad (rO ax.st (i+1) 5 5 32768 10 0 (v (4+i*10)) ds);refine Df;go_end0;refine⟨rfl,?_⟩;rw[<-a];exact f.o
theorem cP.drewN(h:cP w bt g bj fr c 0 0 v xs bE)(n:J):cP w bt g bj fr c 0 0 v xs (bE.drewN n):=h.keep ((ag.refl _ bE).drewN n)
def agQ(h:cP w bt g bj fr c 0 0 v xs bE):aB 325 #[g] bE λe w'=>e=aV #[]/\cP w bt g bj fr c 0 0 (jO fr (v,xs)).1 (jO fr (v,xs)).2 w':=by
 have k:bE.cell? (ah g 12)=aa (v 12):=h.st.cell 12 I .i64 rfl;have m:bE.cell? (ah g 22)=aa (v 22):=h.st.cell 22 I .i64 rfl;obtain⟨R,a⟩:∃ R,jO fr (v,xs)=R:=⟨_,rfl⟩;rw[a];unfold jO q8 at a;dsimp only at a;by_cases p:0<v 12
 .rw[dh p,zc,aD rfl]at a;subst a
  go_in
  refine sm;have f:=ad (h.drewN nq);generalize bE.drewN nq=aq at *;clear h k m;have k:aq.cell? (ah g 12)=aa (v 12):=f.o.st.cell 12 I .i64 rfl;have m:aq.cell? (ah g 22)=aa (v 22):=f.o.st.cell 22 I .i64 rfl;refine aK;exact SB
 rw[cN p,uT]at a;have a':decide (0<v 12)=false:=cN p;by_cases y:0<v 22
 focus
  rw[dh y,zc,aD rfl]at a;subst a
 rotate_left
 focus
  rw[cN y,uT]at a;have fo:decide (0<v 22)=false:=cN y;have i:ea 4:=.inl rfl;have j:ea 14:=.inr rfl;have Z:=ad (Gr (v 4) (v 5) 262144 (v 14) (v 15) 262144 (h.lim.fix i 0 I) (h.lim.fix i 1 I) eN (h.lim.fix j 0 I) (h.lim.fix j 1 I) eN);generalize jj (d_ (v 14) (v 4)) (d_ (v 15) (v 5)) (cY 262144 262144)=t at *;have n:=ad a;clear a
 rotate_left
 all_goals
  go_in
  go_wp2_with fail;go_quiet (fail);have f:=ad (h.drewN nq);generalize bE.drewN nq=aq at *;clear h k m;have k:aq.cell? (ah g 12)=aa (v 12):=f.o.st.cell 12 I .i64 rfl;have m:aq.cell? (ah g 22)=aa (v 22):=f.o.st.cell 22 I .i64 rfl;go_wp2_with fail
 .exact SB
 obtain⟨G,s⟩:∃ G:aj->ae,∀ W,G W↔cP w bt g bj fr c 0 0 v xs W:=⟨_,λ_=>Iff.rfl⟩;have H:∀ x:bA G,x.to.cell? (ah g 12)=aa (v 12):=λx=>((s _).1 x.held).st.cell 12 I .i64 rfl;have P:∀ x:bA G,x.to.cell? (ah g 22)=aa (v 22):=λx=>((s _).1 x.held).st.cell 22 I .i64 rfl;have Q:∀ x:bA G,x.to.cell? (ah g 4)=af (v 4):=λx=>((s _).1 x.held).st.cell 4 I .i32 rfl;have S:∀ x:bA G,x.to.cell? (ah g 5)=af (v 5):=λx=>((s _).1 x.held).st.cell 5 I .i32 rfl;have L:∀ x:bA G,x.to.cell? (ah g 14)=af (v 14):=λx=>((s _).1 x.held).st.cell 14 I .i32 rfl;have N:∀ x:bA G,x.to.cell? (ah g 15)=af (v 15):=λx=>((s _).1 x.held).st.cell 15 I .i32 rfl;have b:=(s _).2 (f.o.keep (ag.refl _ aq).drew);refine vh;clear s f k m i j;refine cS 24 ?_;refine cJ (G) (.range 24) 0 24 ?_;refine dN (b) (.range 21) 3 ?_;refine eK 21 λK E=>?_;go_simp;refine(Z.out _).mono ?_;refine Tr;refine dN (B) [22,23] 0 ?_;refine pA ?_;have ax:=l.o _ B;clear H P Q S L N b B d u l Z;cases t
 .have f:=ad ax;clear ax;go_wp2;exact Ig
 have i:ea 4:=.inl rfl;have j:ea 14:=.inr rfl;have X:D.cell? (ah g 6)=af (v 6):=ax.st.cell 6 I .i32 rfl;have Y:D.cell? (ah g 7)=af (v 7):=ax.st.cell 7 I .i32 rfl;have T:D.cell? (ah g 16)=af (v 16):=ax.st.cell 16 I .i32 rfl;have V:D.cell? (ah g 17)=af (v 17):=ax.st.cell 17 I .i32 rfl;have C:=ax.st.free 6;have F:=ax.st.free 7;have z:=ax.st.free 16;have A:=ax.st.free 17;have f:=ad ((((ax.l2 i 2 I (v 16) (ax.lim.fix j 2 I)).l2 i 3 I (v 17) (ax.lim.fix j 3 I)).l2 j 2 I (v 6) (ax.lim.fix i 2 I)).l2 j 3 I (v 7) (ax.lim.fix i 3 I));clear ax i j;refine aK
 go_region
 have ax:=f.o.keep (ag.refl _ _).drew;refine xR;clear f X Y T V C F z A;have Z:=ad (rO ax.st 0 4 4 16384 6 0 0 eN);refine Uq;clear q r Z ax;go_wp2;go_end0;refine⟨rfl,?_⟩;rw[<-n.o];exact f.o
def Z_:∀ q,q<20->(fm (-2097152) 0++fm 2097152 32768)[q]?=some (.int (dw (4+q)) (mm q)):=λq a=>by
 unfold mm;by_cases h:q<10
 .rw[Array.getElem?_append_left (show q<(fm (-2097152) 0).size from h),aD h];exact Bx (-2097152) 0 0 0 (o:=4) (.inl rfl) q h
 rw[Array.getElem?_append_right (show(fm (-2097152) 0).size<=q by show 10<=q;omega),az h,show 4+q=14+(q-10)by omega];exact Bx 2097152 0 32768 0 (o:=14) (.inr rfl) (q-10) I
def eO.fresh{v:J->U}(h:eO c 0 0 v)(an:0<=c):eO c 0 0 (cI 4 20 mm v):=by
 have e:cI 4 20 mm v=cI 14 10 (lZ 2097152 0 32768 0) (cI 4 10 (lZ (-2097152) 0 0 0) v):=by
  funext j
  unfold cI mm;by_cases h1:14<=j/\j<14+10
  .rw[aD h1,aD I,az I,show j-4-10=j-14 by omega]
  rw[az h1];by_cases h2:4<=j/\j<4+10
  .rw[aD h2,aD I,aD I]
  rw[az h2,az I]
 have f0:aZ 0:=by unfold aZ;omega
 rw[e];exact(h.yM (.inl rfl) (-2097152) 0 0 0 eN f0 I I).yM (.inr rfl) 2097152 0 32768 0 eN f0 I I
def eO.none{v:J->U}(h:eO c 0 0 v):eO c 0 0 (cI 24 36 (λ_=>0) v):=h.row 24 36 _ λq a=>by
 rw[az I];constructor
 .unfold lS;rw[az I,az I];split<;>omega
 unfold kQ;rw[az I,az I,az I];split<;>omega
def CM:a6 ay:=((range 36).map λq=>Value.int (dw (24+q)) 0).toArray
def ajm:∀ q,q<36->CM[q]?=some (.int (dw (24+q)) 0):=λq a=>by simp[CM,a]
def OA(w:aj):(Instr.build 97 #[]).run prog w=.ok (.agg CM) w:=bc
section
variable{P:Program}{o:Oper}{a:Act}{Q:Exit->Act->aj->ae}{ops:a6 Oper}{rest:ai Oper}{u:aj}{x:ay}
theorem G2{T:TypeId}(hrun:(Instr.build T #[]).run P w=.ok x u)(b:o.guard=none)(ar:o.op=.build T #[])(h:wpList P ops Q rest (a.put o.dst x) u):wpList P ops Q (o :: rest) a w:=
 Ca hrun b ar aM h
end
def agU(h:cP w bt g bj fr c 0 0 v xs bE)(M:1<=v 3/\v 3<=600)(h2:0<=v 2/\v 2<=1073741824)(an:0<=c):aB 327 #[g] bE λe w'=>e=aV #[]/\cP w bt g bj fr c 0 0 (kc fr (v,xs)).1 (kc fr (v,xs)).2 w':=by
 have m:bE.cell? (ah g 3)=aa (v 3):=h.st.cell 3 I .i64 rfl;have G:bE.cell? (ah g 13)=aa (v 13):=h.st.cell 13 I .i64 rfl;have K:bE.cell? (ah g 23)=aa (v 23):=h.st.cell 23 I .i64 rfl;have f3:=h.st.free 3;have f:=ad (h.eR 3 I .i64 rfl (v 3-1) (by show 0<=v 3-1/\v 3-1<=4294967295;omega));obtain⟨R,i⟩:∃ R,kc fr (v,xs)=R:=⟨_,rfl⟩;rw[i];unfold kc pF at i;dsimp only at i;by_cases k:1<v 3/\v 13<3/\v 23<3
 .have⟨a,b,d⟩:=k;have a':0<v 3-1:=I;rw[dh a,dh b,dh d]at i;have n:=ad i;clear i h;refine cg;exact Ig
 have D:(¬ 1<v 3/\decide (1<v 3)=false)\/((1<v 3/\¬ v 13<3)/\decide (v 13<3)=false)\/((1<v 3/\v 13<3/\¬ v 23<3)/\decide (v 23<3)=false):=by
  simp only[tn];omega
 have r:(cI 24 36 (λ_=>0) (cI 4 20 mm (bn (bn (bn v 3 (v 3-1)) 2 (v 2+1)) 3 600)),fM fr xs (hn 0 7 7 32768 12 0 0))=R:=by
  rw[<-i,az];simp only[e9,hf];exact k
 have n:=ad r;clear i h r k
 go_in
 rcases D with⟨a,b⟩|⟨⟨a,C⟩,b⟩|⟨⟨a,C,L⟩,b⟩
 focus
  have a':¬ 0<v 3-1:=I;go_upto_region 2 with fail
 rotate_left
 focus
  have a':0<v 3-1:=I;go_upto_region 2 with fail
 rotate_left
 focus
  have a':0<v 3-1:=I;go_upto_region 2 with fail
 all_goals
  have ax:=f.o;generalize World.setCell _ _ _=aq at *;clear f m G K f3;have p:bn v 3 (v 3-1) 2=v 2:=az I;have H:aq.cell? (ah g 2)=aa (v 2):=by rw[<-p];exact ax.st.cell 2 I .i64 rfl
  have f2:=ax.st.free 2;have f:=ad (ax.eR 2 I .i64 rfl (v 2+1) (by show 0<=v 2+1/\v 2+1<=4294967295;omega));clear ax;go_upto_region 3 with fail
  have ax:=f.o;generalize World.setCell _ _ _=aF at *;clear f H f2 p;have m:aF.cell? (ah g 3)=aa (bn (bn v 3 (v 3-1)) 2 (v 2+1) 3):=ax.st.cell 3 I .i64 rfl;have f3:=ax.st.free 3;have f:=ad (ax.eR 3 I .i64 rfl 600 (by show 0<=(600:U)/\(600:U)<=4294967295;omega));clear ax;go_upto_region 4 with fail
  have ax:=f.o;generalize World.setCell _ _ _=br at *;clear f m f3;generalize bn (bn (bn v 3 (v 3-1)) 2 (v 2+1)) 3 600=N at *;go_wp2_with fail;refine aS (Me _) λP u=>?_;go_wp2_with fail;refine aS (Mf _) λE x=>?_;have ax:=(ax.keep (ag.bU u a1)).keep (ag.bU x a1);obtain⟨y,l⟩:=ax.row 94 4 20 _ mm sizeOf94 rfl I Z_ (ax.lim.fresh an);obtain⟨z,s⟩:=l.row 97 24 36 _ _ sizeOf97 rfl I ajm l.lim.none;have f:=ad s;have j:=F';have t:=OA;clear ax l s u x;generalize fm (-2097152) 0++fm 2097152 32768=pl at *;generalize CM=T at *;go_upto_region 5 with(first|(refine uO (j _) rfl rfl rfl rfl ?_)|(refine c' y rfl rfl rfl rfl ?_)|fail)
  clear y j;generalize E.setRow _ _=F at *;go_upto_region 6 with(first|(refine G2 (t _) rfl rfl ?_)|(refine c' z rfl rfl rfl rfl ?_)|fail)
  clear z t;generalize F.setRow _ _=Q at *;have j:=ad (rO f.o.st 0 7 7 32768 12 0 0 eN);go_wp2_with fail;refine aS j.o λS ⟨q,A⟩=>?_;have B:=ad (f.o.b8 q A);clear q A j f;go_wp2;go_end0;refine⟨rfl,?_⟩;rw[<-n.o];exact B.o
def cP.aiv(h:cP w bt g bj fr c 0 0 v xs bE)(k:J)(hk:k<6)(q:J)(a:4<=q/\q<6)(x:U)(ak:0<=x/\x<=1000):cP w bt g bj fr c 0 0 (bn v (24+k*6+q) x) xs (bE.setCell (ah g (24+k*6+q)) (aa x)):=by
 refine h.eR _ I _ (by rw[t' k hk q a.2,az I]) x ?_;rw[az I,(qv c 0 k hk q a.2).1,(qv c 0 k hk q a.2).2,az I,az I];exact ak
def cP.PI(h:cP w bt g bj fr c 0 0 v xs bE)(k:J)(hk:k<6)(q:J)(a:q<4)(x:U)(ak:aZ x):cP w bt g bj fr c 0 0 (bn v (24+k*6+q) x) xs (bE.setCell (ah g (24+k*6+q)) (af x)):=by
 refine h.eR _ I _ (by rw[t' k hk q I,aD a]) x ?_;rw[az I,(qv c 0 k hk q I).1,(qv c 0 k hk q I).2,aD a,aD a];exact ak
def eO.sL(h:eO c 0 0 v)(k:J)(hk:k<6)(q:J)(a:q<4):aZ (v (24+k*6+q)):=by
 have h1:=h (24+k*6+q) I;rw[az I,(qv c 0 k hk q I).1,(qv c 0 k hk q I).2,aD a,aD a]at h1;exact h1
def agS(h:cP w bt g bj fr c 0 0 v xs bE)(k:J)(hk:k<6)(Q':1<=v (24+k*6+5)/\v (24+k*6+5)<=1000)(hw:1<=v (24+k*6+4)/\v (24+k*6+4)<=2)(aT:∀ o,ea o->-50<=v (o+5))(an:c<1000):aB 326 #[g,.pointer (dk g (24+k*6))] bE λe w'=>e=.returned (.bool (ll k fr (v,xs)).1)/\cP w bt g bj fr (c+1) 0 0 (ll k fr (v,xs)).2.1 (ll k fr (v,xs)).2.2 w':=by
 have iX:bE.cell? (ah g (24+k*6+5))=aa (v (24+k*6+5)):=h.cellS k hk 5 I;have f5:=h.st.free (24+k*6+5);have f:=ad (h.aiv k hk 5 I (v (24+k*6+5)-1) I);obtain⟨R,C⟩:∃ R,ll k fr (v,xs)=R:=⟨_,rfl⟩;rw[C];unfold ll at C;dsimp only at C;by_cases h1:v (24+k*6+5)=1
 .have D:v (24+k*6+5)-1=0:=I;rw[aD h1,D]at C;have N:=f.o.mono (show c<=c+1 by omega);refine ed;subst C;have Q:=ad N
  go_in
  exact I2
 rw[az h1]at C;have D:¬ v (24+k*6+5)-1=0:=I;refine dU;have ds:=h.lim.sL k hk 0 I;have Tq:=h.lim.sL k hk 1 I;have TS:=h.lim.sL k hk 2 I;have T':=h.lim.sL k hk 3 I;have vl:=ad (wW (v (24+k*6)) (v (24+k*6+1)) (v (24+k*6+2)) (v (24+k*6+3)) ds Tq TS T');refine UR;have⟨G,s⟩:=gg (F:=λW=>cP w bt g bj fr c 0 0 (bn v (24+k*6+5) (v (24+k*6+5)-1)) xs W);have bR:∀ x:bA G,x.to.cell? (ah g (24+k*6))=af (v (24+k*6)):=λx=>by
  have:=((s _).1 x.held).cellS k hk 0 I
  rwa [c0 _ _ _ _ I]at this
 have bI:∀ x:bA G,x.to.cell? (ah g (24+k*6+1))=af (v (24+k*6+1)):=λx=>by
  have:=((s _).1 x.held).cellS k hk 1 I
  rwa [c0 _ _ _ _ I]at this
 have V':∀ x:bA G,x.to.cell? (ah g (24+k*6+2))=af (v (24+k*6+2)):=λx=>by
  have:=((s _).1 x.held).cellS k hk 2 I
  rwa [c0 _ _ _ _ I]at this
 have ajR:∀ x:bA G,x.to.cell? (ah g (24+k*6+2+1))=af (v (24+k*6+3)):=λx=>by
  have:=((s _).1 x.held).cellS k hk 3 I
  rwa [c0 _ _ _ _ I]at this
 have b:=(s _).2 (ax.keep (ag.refl _ aq).drew);refine vh;refine aK;refine cS 13 ?_;refine cJ (G) (.range 10) 3 10 ?_;refine dN (b) (.range 9) 1 ?_;refine xR;refine jh 9 λK E=>?_;refine Tf;have ax:=l.o _ Z;clear bR bI V' ajR b Z zd u l vl;have cx:aF.cell? (ah g (24+k*6))=_:=ax.cellS k hk 0 I;have cm:aF.cell? (ah g (24+k*6+1))=_:=ax.cellS k hk 1 I;have f0:=ax.st.free (24+k*6);have f1:=ax.st.free (24+k*6+1);have f:=ad ((ax.PI k hk 0 I _ (mV (v (24+k*6)) (v (24+k*6+2)))).PI k hk 1 I _ (mV (v (24+k*6+1)) (v (24+k*6+3))));clear ax;refine cJ (λW=>0<=W.heap.size) [10,11,12] 0 3 ?_;refine hG 10 (c3 _) ?_;refine hG 11 (c3 _) ?_;refine iV 12 (c3 _) ?_;have ax:cP w bt g bj fr c 0 0 (fp (24+k*6) v) xs _:=f.o;refine DF;clear f cx cm f0 f1;have a7:=wk (24+k*6) v;have g4:=a7.2.2.2 (24+k*6+4) I I I;have T:∀ o,ea o->-50<=fp (24+k*6) v (o+5):=λo ar=>by
  rw[a7.2.2.2 (o+5) p6 p6 p6];exact aT o ar
 clear a7 aT;generalize fp (24+k*6) v=V at *;have vs:=ad (Gn (-4194304) (-4194304) 4194304 4194304 (V (24+k*6)) (V (24+k*6+1)));generalize gm (-4194304) (-4194304) 4194304 4194304 (V (24+k*6)) (V (24+k*6+1))=zp at *;have⟨G,s⟩:=gg (F:=λW=>cP w bt g bj fr c 0 0 V xs W);have bR:∀ x:bA G,x.to.cell? (ah g (24+k*6))=af (V (24+k*6)):=λx=>((s _).1 x.held).cellS k hk 0 I;have bI:∀ x:bA G,x.to.cell? (ah g (24+k*6+1))=af (V (24+k*6+1)):=λx=>((s _).1 x.held).cellS k hk 1 I;have b:=(s _).2 (ax.keep (ag.refl _ a').drew);refine vh;clear ax;refine aK;refine cS 7 ?_;refine cJ (G) (.range 7) 0 7 ?_;refine dN (b) [1,2,3,4] 3 ?_;refine xR;refine eK 0 λK E=>?_;go_simp;refine aS (A3 _) λajS v'=>?_;have z:=u.o _ _ b v';refine vq;refine eK 5 λK E=>?_;go_simp;refine aS (vs.o _) λa ys=>?_;have X:=u.o _ _ z ys;refine C9;refine iV 6 X ?_;have ax:=l.o _ X;clear b z X v' ys vs u;cases zp
 .have f:=ad (ax.mono (show c<=c+1 by omega));clear ax bR bI;refine aK;go_ret;refine⟨?_,?_⟩
  .rw[<-m'.o];rfl
  rw[<-m'.o];exact f.o
 have L:a.cell? (ah g (24+k*6+4))=aa (V (24+k*6+4)):=ax.cellS k hk 4 I;have C:=m'.o;rw[az (show ¬ true=false by decide)]at C;rw[g4]at L;have q:v (24+k*6+4)=1\/v (24+k*6+4)=2:=I;clear m' g4 hw Q' h1 D;rcases q with q|q
 focus
  rw[q]at L;have aw:(2-v (24+k*6+4)).toNat=1:=by rw[q];rfl
  simp only[aw]at C;clear aw;have ao:ea 14:=(.inr rfl);have gf:a.cell? (ah g 14)=af (V 14):=ax.fZ ao 0 I;have g':a.cell? (ah g (14+1))=af (V (14+1)):=ax.fZ ao 1 I;have h2:a.cell? (ah g (14+2))=af (V (14+2)):=ax.fZ ao 2 I;have lb:a.cell? (ah g (14+3))=af (V (14+3)):=ax.fZ ao 3 I;have l':a.cell? (ah g (14+4))=aa (V (14+4)):=ax.hl ao 4 I;have mv:a.cell? (ah g (14+5))=aa (V (14+5)):=ax.hl ao 5 I;have ps:a.cell? (ah g (14+6))=aa (V (14+6)):=ax.hl ao 6 I;have r':a.cell? (ah g (14+7))=aa (V (14+7)):=ax.hl ao 7 I;have sd:a.cell? (ah g (14+8))=aa (V (14+8)):=ax.hl ao 8 I;have se:a.cell? (ah g (14+9))=aa (V (14+9)):=ax.hl ao 9 I;change (if (decide (V (14+8)=0)&&jj (d_ (V 14) (V (24+k*6))) (d_ (V (14+1)) (V (24+k*6+1))) (cY 65536 262144))=true then(false,j' 1 fr (V,xs))else(true,V,xs))=R at C;have f:=ad ax;have m':=ad C;clear ax C;have an:=aP a (ab (fU (V 14) (V (14+1)) (V (14+2)) (V (14+3)) (V (14+4)) (V (14+5)) (V (14+6)) (V (14+7)) (V (14+8)) (V (14+9))) 93);have ax:=f.o.keep ((bd a).alloc (ab (fU (V 14) (V (14+1)) (V (14+2)) (V (14+3)) (V (14+4)) (V (14+5)) (V (14+6)) (V (14+7)) (V (14+8)) (V (14+9))) 93));simp only[Nat.reduceAdd]at an ax;have P:=ad an;have Q:=ad ax;have Y:=ad T;clear an ax f T l bR bI;go_upto_region 9 with fail
  clear gf g' h2 lb l' mv ps r' sd se L;generalize a.alloc _=y at *;generalize a.heap.size=b6 at *;obtain⟨i,d⟩:∃ G:aj->ae,∀ W,G W↔(cP w bt g bj fr c 0 0 V xs W/\W.heap[b6]?=ab (fU (V 14) (V (14+1)) (V (14+2)) (V (14+3)) (V (14+4)) (V (14+5)) (V (14+6)) (V (14+7)) (V (14+8)) (V (14+9))) 93 (0,0)):=⟨_,λ_=>Iff.rfl⟩;have dq:∀ x:bA i,x.to.cell? (ah b6 0)=af (V 14):=λx=>bb ((d _).1 x.held).2 rfl;have gD:∀ x:bA i,x.to.cell? (ah b6 (0+1))=af (V (14+1)):=λx=>bb ((d _).1 x.held).2 rfl;have r:∀ x:bA i,x.to.cell? (ah b6 8)=aa (V (14+8)):=λx=>bb ((d _).1 x.held).2 rfl
 rotate_left
 focus
  rw[q]at L;have aw:(2-v (24+k*6+4)).toNat=0:=by rw[q];rfl
  simp only[aw]at C;clear aw;have ao:ea 4:=(.inl rfl);have gf:a.cell? (ah g 4)=af (V 4):=ax.fZ ao 0 I;have g':a.cell? (ah g (4+1))=af (V (4+1)):=ax.fZ ao 1 I;have h2:a.cell? (ah g (4+2))=af (V (4+2)):=ax.fZ ao 2 I;have lb:a.cell? (ah g (4+3))=af (V (4+3)):=ax.fZ ao 3 I;have l':a.cell? (ah g (4+4))=aa (V (4+4)):=ax.hl ao 4 I;have mv:a.cell? (ah g (4+5))=aa (V (4+5)):=ax.hl ao 5 I;have ps:a.cell? (ah g (4+6))=aa (V (4+6)):=ax.hl ao 6 I;have r':a.cell? (ah g (4+7))=aa (V (4+7)):=ax.hl ao 7 I;have sd:a.cell? (ah g (4+8))=aa (V (4+8)):=ax.hl ao 8 I;have se:a.cell? (ah g (4+9))=aa (V (4+9)):=ax.hl ao 9 I;change (if (decide (V (4+8)=0)&&jj (d_ (V 4) (V (24+k*6))) (d_ (V (4+1)) (V (24+k*6+1))) (cY 65536 262144))=true then(false,j' 0 fr (V,xs))else(true,V,xs))=R at C;have f:=ad ax;have m':=ad C;clear ax C;have an:=aP a (ab (fU (V 4) (V (4+1)) (V (4+2)) (V (4+3)) (V (4+4)) (V (4+5)) (V (4+6)) (V (4+7)) (V (4+8)) (V (4+9))) 93);have ax:=f.o.keep ((bd a).alloc (ab (fU (V 4) (V (4+1)) (V (4+2)) (V (4+3)) (V (4+4)) (V (4+5)) (V (4+6)) (V (4+7)) (V (4+8)) (V (4+9))) 93));simp only[Nat.reduceAdd]at an ax;have P:=ad an;have Q:=ad ax;have Y:=ad T;clear an ax f T l bR bI;go_upto_region 9 with fail
  clear gf g' h2 lb l' mv ps r' sd se L;generalize a.alloc _=y at *;generalize a.heap.size=b6 at *;obtain⟨i,d⟩:∃ G:aj->ae,∀ W,G W↔(cP w bt g bj fr c 0 0 V xs W/\W.heap[b6]?=ab (fU (V 4) (V (4+1)) (V (4+2)) (V (4+3)) (V (4+4)) (V (4+5)) (V (4+6)) (V (4+7)) (V (4+8)) (V (4+9))) 93 (0,0)):=⟨_,λ_=>Iff.rfl⟩;have dq:∀ x:bA i,x.to.cell? (ah b6 0)=af (V 4):=λx=>bb ((d _).1 x.held).2 rfl;have gD:∀ x:bA i,x.to.cell? (ah b6 (0+1))=af (V (4+1)):=λx=>bb ((d _).1 x.held).2 rfl;have r:∀ x:bA i,x.to.cell? (ah b6 8)=aa (V (4+8)):=λx=>bb ((d _).1 x.held).2 rfl
 rotate_left
 all_goals
  have hJ:∀ x:bA i,x.to.cell? (ah g (24+k*6))=af (V (24+k*6)):=λx=>((d _).1 x.held).1.cellS k hk 0 I;have s1:∀ x:bA i,x.to.cell? (ah g (24+k*6+1))=af (V (24+k*6+1)):=λx=>((d _).1 x.held).1.cellS k hk 1 I;have b:=(d y.drew).2 ⟨Q.o.keep (ag.refl _ y).drew,(bd y).drew.heap P.o id⟩;have u:=ad (λ(W W':aj) (M:i W) (al:Below W W W')=>(d W').2 ⟨((d W).1 M).1.keep (ag.bU al a1),(ag.bU (S:=aH) al a1).heap ((d W).1 M).2 id⟩);have l:=ad (λ(W:aj) (M:i W)=>((d W).1 M).1)
 .have p:=ad (Gr (V (24+k*6)) (V (24+k*6+1)) 65536 (V 14) (V (14+1)) 262144 (Q.o.lim.sL k hk 0 I) (Q.o.lim.sL k hk 1 I) eN (Q.o.lim.fix ao 0 I) (Q.o.lim.fix ao 1 I) eN);generalize jj (d_ (V 14) (V (24+k*6))) (d_ (V (14+1)) (V (24+k*6+1))) (cY 65536 262144)=t at *;clear d;by_cases hd:V (14+8)=0
  focus
   have m:decide (V (14+8)=0)=true:=dh hd;have C:=m'.o;rw[m,r_]at C;have j:=ad C;clear m' C;rw[hd]at r;go_wp2_with fail;refine cS 12 ?_;refine cJ (i) (.range 12) 0 12 ?_;refine dN (b) (.range 10) 2 ?_;generalize World.drew _=wd at *;refine eK 10 λK E=>?_;go_simp;refine aS (p.o _) λs' H=>?_;have n:=u.o _ _ b H;refine E _ _ (n) ?_;clear E K;refine iV 11 n ?_;have ax:=l.o _ n;clear b n H u l p dq gD r hJ s1 Q;cases t
   focus
    have f:=ad (ax.mono (show c<=c+1 by omega));clear ax;go_wp2_with fail;go_ret;refine⟨?_,?_⟩
    .rw[<-j.o];rfl
    exact xu
   focus
    have B:=ad (show aB 355 #[g,aa 1] s' _ from O7 ax 1 I (Y.o 14 ao) an);clear ax;go_wp2_with refine aS B.o λbr A=>?_
    have f:=ad A;clear A B;go_wp2_with fail;go_ret;refine⟨?_,?_⟩
    .rw[<-j.o];rfl
    exact xu
  focus
   have m:decide (V (14+8)=0)=false:=cN hd;have C:=m'.o;rw[m,Cg]at C;have j:=ad C;clear m' C b p l u dq gD r hJ s1;have gQ:y.cell? (ah b6 8)=aa (V (14+8)):=bb P.o rfl;have fo:(V (14+8) == 0)=false:=by rw[ep];exact hd
   simp only[Nat.reduceAdd]at fo gQ m;go_wp2_with fail;go_quiet (fail);have f:=ad ((Q.o.drewN nq).mono (show c<=c+1 by omega));clear Q gQ;go_wp2_with fail;go_ret;refine⟨?_,?_⟩
   .rw[<-j.o];rfl
   exact xu
 have p:=ad (Gr (V (24+k*6)) (V (24+k*6+1)) 65536 (V 4) (V (4+1)) 262144 (Q.o.lim.sL k hk 0 I) (Q.o.lim.sL k hk 1 I) eN (Q.o.lim.fix ao 0 I) (Q.o.lim.fix ao 1 I) eN);generalize jj (d_ (V 4) (V (24+k*6))) (d_ (V (4+1)) (V (24+k*6+1))) (cY 65536 262144)=t at *;clear d;by_cases hd:V (4+8)=0
 focus
  have m:decide (V (4+8)=0)=true:=dh hd;have C:=m'.o;rw[m,r_]at C;have j:=ad C;clear m' C;rw[hd]at r;go_wp2_with fail;refine cS 12 ?_;refine cJ (i) (.range 12) 0 12 ?_;refine dN (b) (.range 10) 2 ?_;generalize World.drew _=wd at *;refine eK 10 λK E=>?_;go_simp;refine aS (p.o _) λs' H=>?_;have n:=u.o _ _ b H;refine E _ _ (n) ?_;clear E K;refine iV 11 n ?_;have ax:=l.o _ n;clear b n H u l p dq gD r hJ s1 Q;cases t
  focus
   have f:=ad (ax.mono (show c<=c+1 by omega));clear ax;go_wp2_with fail;go_ret;refine⟨?_,?_⟩
   .rw[<-j.o];rfl
   exact xu
  focus
   have B:=ad (show aB 355 #[g,aa 0] s' _ from O7 ax 0 I (Y.o 4 ao) an);clear ax;go_wp2_with refine aS B.o λbr A=>?_
   have f:=ad A;clear A B;go_wp2_with fail;go_ret;refine⟨?_,?_⟩
   .rw[<-j.o];rfl
   exact xu
 focus
  have m:decide (V (4+8)=0)=false:=cN hd;have C:=m'.o;rw[m,Cg]at C;have j:=ad C;clear m' C b p l u dq gD r hJ s1;have gQ:y.cell? (ah b6 8)=aa (V (4+8)):=bb P.o rfl;have fo:(V (4+8) == 0)=false:=by rw[ep];exact hd
  simp only[Nat.reduceAdd]at fo gQ m;go_wp2_with fail;go_quiet (fail);have f:=ad ((Q.o.drewN nq).mono (show c<=c+1 by omega));clear Q gQ;go_wp2_with fail;go_ret;refine⟨?_,?_⟩
  .rw[<-j.o];rfl
  exact xu
def fk(fr:U)(xs:ai aE):ae:=gh xs/\xs.length<=64/\∀ e∈xs,fx e=true/\e.k.fr=fr
theorem LQ(xs:ai aE)(k:dD):∀ f o,nI xs k f o<o+f->kp xs {k with cv:=nI xs k f o}=false
 | 0,o,h=>absurd h (p5 _)
 | f+1,o,h=>by
  unfold nI at h⊢;split at h
  .rename_i h1;rw[aD h1];exact LQ xs k f (o+1) I
  rename_i h1;rw[az h1];simpa using h1
def ph{fr:U}{xs:ai aE}(h:fk fr xs)(e:aE):fk fr (fM fr xs e):=by
 have⟨h1,h2,a⟩:=h;unfold fM;split
 .exact⟨h1,h2,a⟩
 rename_i b;split
 .exact⟨h1,h2,a⟩
 rename_i aw;refine⟨MC h1 _ (LQ xs (iD fr e).k 17 0 (by show rf xs (iD fr e).k<0+17;omega)),?_,λx ak=>?_⟩
 .unfold jv;rw[cG,eA,h3,iv];omega
 rcases Ng ak with rfl|ak
 .exact⟨Om (by simpa using b) I,rfl⟩
 exact a x ak
def NF{fr:U}(i:J)(cc:U)(h:fk fr s.2):fk fr (fw i cc fr s).2:=by
 have al:fk fr (qj i fr s).2:=by
  unfold qj;dsimp only;split
  .exact h
  exact ph h _
 have h1:fk fr (iM i cc fr s).2:=by
  unfold iM;dsimp only;have h2:fk fr (kj i (4+i*10) fr (cE cc 4) (kW (4+i*10) cc s.1,s.2)).2:=by
   unfold kj;split
   .show fk fr (if _ then _ else _);split
    .exact ph h _
    exact h
   exact h
  unfold lJ;split
  .exact ph h2 _
  exact h2
 have a:fk fr (kS i fr (iM i cc fr s)).2:=by
  show fk fr (if _ then _ else _);split
  .exact ph h1 _
  exact h1
 unfold fw;split
 .exact al
 split
 .unfold ov;dsimp only;split
  .exact a
  split
  .exact a
  exact ph a _
 exact a
def adU{fr:U}(h:fk fr s.2):fk fr (jO fr s).2:=by
 unfold jO;split
 .exact h
 exact ph h _
def adV{fr:U}(i:J)(h:fk fr s.2):fk fr (j' i fr s).2:=by
 unfold j';dsimp only;split
 .exact ph h _
 exact ph (ph h _) _
def adW{fr:U}(k:J)(h:fk fr s.2):fk fr (nt k fr s).2:=by
 have h1:fk fr (ll k fr s).2.2:=by
  unfold ll;dsimp only;split
  .exact h
  split
  .exact h
  split
  .exact adV _ h
  exact h
 unfold nt;split
 .exact h
 split
 .exact h1
 exact h1
theorem NG{fr:U}{s:(J->U)×ai aE}(h:fk fr s.2):∀ k,fk fr (hM fr s k).2
 | 0=>h
 | k+1=>adW k (NG h k)
def adX(a b:U)(v:J->U):fk (v 0) (lu a b v):=by
 have c:fk (v 0) ([]:ai aE):=⟨Pairwise.nil,aM,aM⟩;have h1:=NG (adU (NF 1 b (NF 0 a (s:=(v,[])) c))) 6;unfold lu stepG kc;split
 .exact h1
 exact ph h1 _
def eO.tell{v:J->U}(h:eO c 0 0 v)(an:c<=1000)(o:J)(ar:o<60):(w3 v o).length<=10:=by
 have h1:=h o ar;have al:-2147483648<=v o/\v o<=4294967295:=by
  have h2:-2147483648<=lS (if o=0 then 0 else 0) o:=by unfold lS;repeat' split<;>omega
  have a:kQ c (if o=0 then 0 else 0) o<=4294967295:=by unfold kQ;repeat' split<;>omega
  omega
 unfold w3;split
 .refine pD _ ?_;unfold gP gL;split<;>omega
 refine pD _ ?_;unfold gL;omega
theorem eO.b8{c:U}{v:J->U}(h:eO c 0 0 v)(an:c<=1000):∀ L:ai J,(∀ o∈L,o<60)->(b8 v L).length<=10*L.length
 | [],_=>by simp[Go.Proofs.YtalagblioepadaaGreatDoor.b8]
 | o :: L,a=>by
  have h1:=h.tell an o (a o aM);have h2:=eO.b8 h an L (λx ak=>a x (by simp[ak]));unfold Go.Proofs.YtalagblioepadaaGreatDoor.b8 at h2⊢;rw[jY,cG,eA];omega
def eO.pack{v:J->U}(h:eO c 0 0 v)(an:c<=1000):(nS v).length<=100000:=by
 have h1:=h.b8 an (mC 2) bs;have h2:=pD (hi v 6) (by have:=x7 v 6;unfold gL;omega);have a:∀ j,j<=6->(s4 v j).length<=60*j:=by
  intro j
  induction j with
  | zero=>intro _;simp[s4]
  | succ j e=>
   intro g;have b:=e I;have d:=h.b8 an (uy (24+6*j)) (by unfold uy;intro o ar;simp only[fW,CF,or_false]at ar;omega);have f:(uy (24+6*j)).length=6:=rfl;unfold s4;rw[cG];split
   .simp;omega
   omega
 have b:=a 6 I;have d:(mC 2).length=24:=rfl;unfold nS;rw[cG,cG];omega
def Mid.ahR{r:U}{f:J}{v:J->U}(h:Mid 2 f r v)(k:f<=1000000)(l:0<=r/\r<=f):vM v/\mE v=true/\(nS v).length<=100000:=by
 have d:=h.lim I I;refine⟨λj g=>?_,Nj h I I,d.pack I⟩;have h1:=d j g;unfold lS kQ at h1;simp only[ite_self]at h1;unfold dw;by_cases a:j=1
 .rw[aD a];subst a;exact h.f1
 rw[az a];simp only[az a]at h1;by_cases b:j<4
 .simp only[aD b]at h1;rw[aD b];show -9223372036854775808<=v j/\v j<=9223372036854775807;omega
 simp only[az b]at h1;rw[az b];by_cases c:j<24
 .simp only[aD c]at h1;rw[aD c];by_cases e:(j-4)%10<4
  .simp only[aD e]at h1;rw[aD e];exact h1
  refine Uu
  repeat' split at h1
  all_goals omega
 simp only[az c]at h1;rw[az c];by_cases e:(j-24)%6<4
 .simp only[aD e]at h1;rw[aD e];exact h1
 refine Uu;omega
def Oh(b:U)(bg:-1000000<=b/\b<=1000000)(w:aj):aB 171 #[aa b] w λe w'=>e=af (kV b)/\w=w':=by
 have hm:=zj b (show(65536:U)≠0 by omega);have g:=zi b (show(0:U)<65536 by omega);have aW:b.tmod 65536=b%65536\/b.tmod 65536=b%65536-65536/\¬ b%65536=0:=by
  exact Sr
 unfold kV;simp only;generalize b%65536=a at *;have d:0<=a%32768/\a%32768<32768:=I;have i:a.tmod 32768=a%32768:=oW hm;generalize a%32768=x at *;have ao:=Gt d.1 d.2;obtain⟨p,f⟩:∃ p,x*(32768-x)=p:=⟨_,rfl⟩;rw[f]at ao⊢;have c:(p*1048576).tdiv (5368709120-4*p)=p*1048576 / (5368709120-4*p):=QB b4;have bR:0<=p*1048576 / (5368709120-4*p):=Int.ediv_nonneg b4 b4;have bI:p*1048576 / (5368709120-4*p)<=65536:=Int.ediv_le_of_le_mul b4 b4;rw[c];rw[show(p*1048576).tdiv (5368709120-4*p)=(16*p*65536).tdiv (5368709120-4*p)by rw[show 16*p*65536=p*1048576 by omega]]at c;generalize p*1048576 / (5368709120-4*p)=q at *;have br:IntKind.i64.wrap (4*p)=4*p:=e0 _ I;have k:IntKind.i64.wrap q=q:=e0 _ I;have aq:IntKind.i64.wrap (16*p*65536)=16*p*65536:=e0 _ I;have aF:IntKind.i64.wrap (16*p)=16*p:=e0 _ I;rw[Ge ⟨b4,b4⟩,show nO q=-q by unfold nO gU;omega];have f1:IntKind.i32.wrap q=q:=yn ⟨I,I⟩;have f2:IntKind.i32.wrap (-q)=-q:=yn ⟨I,I⟩;have f3:IntKind.i64.wrap (-q)=-q:=e0 _ I;have l:=hm;rcases aW with aW|⟨aW,j⟩
 focus
  have d1:decide (a<0)=false:=cN I
 rotate_left
 focus
  have d1:decide (a-65536<0)=true:=dh I
 rotate_left
 all_goals
  by_cases an:32768<=a
  .rw[aD an];exact er
  rw[az an];exact er
def sY(x y:U)(ak:-32768<=x/\x<=32767)(a8:-32768<=y/\y<=32767)(w:aj):aB 105 #[aa x,aa y] w λe w'=>e=aG #[af (x*65536),af (y*65536)]/\Below w w w':=by
 generalize a:x*65536=X at *;generalize b:y*65536=Y at *
 go_in
 go_wp2;refine dH (v:=aG #[af X,af Y]) (by simp[results,results105,go_sem]) rfl ?_;exact⟨rfl,(b9 w w).alloc bu _⟩
def BH(f l:U)(j:0<=f/\f<=65535)(h:aZ l)(w:aj):aB 109 #[aa f,aa l] w λe w'=>e=aG #[af (gH f l),af (gI f l)]/\Below w w w':=by
 have i:=yn h;have h1:=ad (Oh (f+16384) ⟨I,I⟩);have h2:=ad (Oh f ⟨I,I⟩);have c:=ad (F3 (a:=kV (f+16384)) (b:=kV f) (k:=l) (BY _) (BY _) h);unfold gH gI sG;rw[show f%65536=f by omega];generalize kV (f+16384)=a at *;generalize kV f=b at *;generalize dE a l=x at *;generalize dE b l=y at *;have g:=aP w (ab cH 91);have d:=(b9 w w).alloc bu (ab cH 91);refine sh;refine bJ (h1.o _) ?_;go_wp2_with refine bJ (h2.o _) ?_
 refine Dv;refine DB;refine Uj;exact⟨rfl,((d.trans (al.mono d.size)).setCell bu _).setCell bu _⟩
def Oj(a b r c d s:U)(bg:aZ a)(k:aZ b)(l:aZ r)(an:aZ c)(hd:aZ d)(aA:aZ s)(w:aj):aB 68 #[aG #[af a,af b],af r,aG #[af c,af d],af s] w λe w'=>e=.returned (.bool (jj (d_ c a) (d_ d b) (cY r s)))/\Below w w w':=by
 have j:=ad (ae7 an hd bg k);have f:=ad (F1 r s l aA);have ak:aZ (d_ c a):=gE _;have a8:aZ (d_ d b):=gE _;have m:aZ (cY r s):=gE _;generalize d_ c a=x at *;generalize d_ d b=y at *;generalize cY r s=z at *;have h2:=ad (F4 z 0 m eN);rw[show z*z+0*0=z*z by omega]at h2;have i:=(((b9 w w).alloc bu (ab #[af a,af b] 91)).alloc aM (ab #[af c,af d] 91));unfold jj;by_cases h:0<=z
 focus
  rw[dh h,r_]
 rotate_left
 focus
  rw[cN h,Cg]
 rotate_left
 all_goals
  go_in
  go_wp2_with fail;generalize World.alloc (World.alloc w _) _=bo at *;refine aS (j.o _) λaq n=>?_;have g:=i.trans (n.mono i.size)
 .have al:=g.alloc g.size (ab #[af x,af y] 91);have bR:=aX (aP aq (ab #[af x,af y] 91));go_wp2_with refine bJ (f.o _) ?_
  refine aK;refine bJ ((F4 x y ak a8) _) ?_;go_wp2_with refine bJ (h2.o _) ?_
  exact xJ
 refine zT;refine fB;exact⟨rfl,(g.alloc g.size (ab #[af x,af y] 91))⟩
def afd(a b k m:U)(bg:aZ a)(al:aZ b)(n:aZ k)(hm:aZ m)(w:aj):aB 110 #[aG #[af a,af b],af k,af m] w λe w'=>e=aG #[af (qG a b k m).1,af (qG a b k m).2]/\Below w w w':=by
 have q:=ad (F3 bg al n);have ak:aZ (dE a k):=gE _;have a8:aZ (dE b k):=gE _;have f:=ad (Of (dE a k) (dE b k) ak a8);have d:=ad (afg (dE a k) (dE b k) m ak a8 hm);refine RK;refine VW;have h:=(((b9 w w).alloc bu (ab #[af a,af b] 91)).alloc aM (ab cH 91));by_cases an:m<l
 .rw[aD an];have d1:decide (l<=m)=false:=cN I;refine RC;have bR:=aX (aP aq (ab #[af x,af y] 91));have g:=h.trans (h1.mono h.size);have j:=g.alloc g.size (ab #[af x,af y] 91);have g0:=bV c;have dq:=aX c;refine UO;refine dj (v:=aG #[af i,af ty]) (kJ (jq c (af i) (af ty))) ?_;exact⟨rfl,(j.setCell zx _).setCell zx _⟩
 rw[az an];refine RC;have g:=h.trans (h1.mono h.size);have g0:=bV c;have dq:=aX c;refine zT;go_wp2;refine dj (v:=aG #[af x,af y]) (kJ (jq c (af x) (af y))) ?_;exact⟨rfl,((g.alloc g.size (ab #[af x,af y] 91)).setCell zx _).setCell zx _⟩
def hR(xs:ai aE)(em bq:U):J:=(xs.filter λa=>decide (a.k.em=em/\a.k.bq=bq)).length
structure qe(fr:U)(xs:ai aE):ae where
 f1:∀ e∈xs,e.k.fr=fr
 has:∀ em bq o,kp xs ⟨fr,em,bq,o⟩=decide (0<=o/\o<hR xs em bq)
def qe.nil(fr:U):qe fr []:=⟨(λ_ h=>nomatch h),λem bq o=>by
 unfold kp hR;simp⟩
theorem LP{fr:U}{xs:ai aE}(h:qe fr xs)(em bq cv:U):∀ (f o:J),o<=hR xs em bq->nI xs ⟨fr,em,bq,cv⟩ f o=min (hR xs em bq) (o+f)
 | 0,o,ar=>by show o=_;omega
 | f+1,o,ar=>by
  show(if kp xs ⟨fr,em,bq,o⟩then nI xs ⟨fr,em,bq,cv⟩ f (o+1)else o)=_;rw[h.has];by_cases e:o<hR xs em bq
  .rw[aD (dh ⟨b4,b4⟩),LP h em bq cv f (o+1) e];omega
  rw[az (by simp;omega)];omega
def LR{fr:U}{xs:ai aE}(h:qe fr xs)(em bq cv:U):rf xs ⟨fr,em,bq,cv⟩=min (hR xs em bq) 17:=by
 have:=LP h em bq cv 17 0 (c3 _)
 rwa [gM]at this
def abI(xs:ai aE)(e:aE):(jv xs e).Perm (e :: xs):=by
 refine qR.trans ?_;rw[n_]
def qe.add{fr:U}{xs:ai aE}(h:qe fr xs)(e:aE):qe fr (fM fr xs e):=by
 unfold fM;split
 .exact h
 split
 .exact h
 rename_i h1 h2;have hk:(iD fr e).k=⟨fr,e.k.em,e.k.bq,0⟩:=rfl;rw[hk]at h2⊢;rw[(LR h e.k.em e.k.bq 0)]at h2⊢;rw[show min (hR xs e.k.em e.k.bq) 17=hR xs e.k.em e.k.bq by omega];have ao:=abI xs (kL (iD fr e) (hR xs e.k.em e.k.bq));generalize ak:kL (iD fr e) (hR xs e.k.em e.k.bq)=x at *;have b:x.k=⟨fr,e.k.em,e.k.bq,hR xs e.k.em e.k.bq⟩:=by rw[<-ak];rfl
 refine⟨λy a8=>?_,λem bq o=>?_⟩
 .rcases fW.1 (ao.mem_iff.1 a8)with rfl|a8
  .rw[b]
  exact h.f1 y a8
 have an:hR (jv xs x) em bq=hR xs em bq+if em=e.k.em/\bq=e.k.bq then 1 else 0:=by
  unfold hR;rw[(ao.filter _).length_eq,filter_cons];by_cases c:em=e.k.em/\bq=e.k.bq
  .rw[aD c,aD (by rw[b];exact dh ⟨c.1.symm,c.2.symm⟩)];rfl
  rw[az c,az (by rw[b];simp only[hf];exact λd=>c ⟨d.1.symm,d.2.symm⟩)];rfl
 have aT:kp (jv xs x) ⟨fr,em,bq,o⟩=(decide (x.k=⟨fr,em,bq,o⟩) || kp xs ⟨fr,em,bq,o⟩):=by
  unfold kp;rw[<-Bool.decide_or]
  congr 1
  apply propext;constructor
  .rintro⟨y,a8,a⟩;rcases fW.1 (ao.mem_iff.1 a8)with rfl|a8
   .exact .inl a
   exact .inr ⟨y,a8,a⟩
  rintro(a|⟨y,a8,a⟩)
  .exact⟨x,ao.mem_iff.2 (o0 ..),a⟩
  exact⟨y,ao.mem_iff.2 (lB _ a8),a⟩
 rw[aT,an,h.has,b,<-Bool.decide_or]
 congr 1
 apply propext;by_cases c:em=e.k.em/\bq=e.k.bq
 .obtain⟨rfl,rfl⟩:=c;rw[aD ⟨rfl,rfl⟩];simp only[dD.mk.injEq,true_and];omega
 rw[az c];simp only[dD.mk.injEq,true_and];constructor
 .rintro(⟨d1,d2,_⟩|d)
  .exact absurd ⟨d1.symm,d2.symm⟩ c
  omega
 intro d;exact .inr b4
def ae6(k:dD)(h:hW k=true)(w:aj):aB 251 #[aG k] w λr w'=>r=.returned (.bool true)/\Below w w w':=by
 simp only[hW,gA,e9,hf]at h;obtain⟨⟨⟨⟨h1,h2⟩,a,b⟩,c,d⟩,e,f⟩:=h;refine kF;exact⟨rfl,((b9 w w).alloc bu (ab k 43))⟩
def ae'(e:aE)(h:fx e=true)(w:aj):aB 177 #[aG e] w λr w'=>r=.returned (.bool true)/\Below w w w':=by
 refine Dk;simp only[fx,gA,e9,hf]at h;have⟨⟨⟨⟨⟨hk,h1,h2⟩,b,c⟩,d,f⟩,i,j⟩,l,a⟩:=h;refine sh;refine aS ((ae6 e.k hk) _) λaq al=>?_;refine DB;have bI:=aX t;exact zQ
def ae2(a b:dD)(w:aj):aB 252 #[aG a,aG b] w λr w'=>r=aa (ez a b)/\Below w w w':=by
 unfold ez;obtain⟨c,d,f,l⟩:=a;obtain⟨cp,bS,m,n⟩:=b;have t:=((((b9 w w).alloc bu (ab #[aa c,aa d,aa f,aa l] 43)).alloc aM (ab #[aa cp,aa bS,aa m,aa n] 43)).alloc (by simp only[ft];omega) (ab #[aa c,aa d,aa f,aa l] 3)).alloc (by simp only[ft];omega) (ab #[aa cp,aa bS,aa m,aa n] 3);have z:=b2 (aP ((w.alloc (ab #[aa c,aa d,aa f,aa l] 43)).alloc (ab #[aa cp,aa bS,aa m,aa n] 43)) (ab #[aa c,aa d,aa f,aa l] 3)) (ab #[aa cp,aa bS,aa m,aa n] 3);have A:=aP (((w.alloc (ab #[aa c,aa d,aa f,aa l] 43)).alloc (ab #[aa cp,aa bS,aa m,aa n] 43)).alloc (ab #[aa c,aa d,aa f,aa l] 3)) (ab #[aa cp,aa bS,aa m,aa n] 3);simp only[ft]at z A;obtain⟨r,C⟩:∃ r,lW [dK c cp,dK d bS,dK f m,dK l n]=r:=⟨_,rfl⟩;refine dU;show aB 252 #[aG #[aa c,aa d,aa f,aa l],aG #[aa cp,aa bS,aa m,aa n]] w λe w'=>e=aa (lW [dK c cp,dK d bS,dK f m,dK l n])/\Below w w w';rw[C];refine cg;generalize World.alloc (World.alloc (World.alloc (World.alloc w _) _) _) _=W at *;obtain⟨x,ak⟩:∃ x:ai U,x=[c,d,f,l]:=⟨_,rfl⟩;obtain⟨y,a8⟩:∃ y:ai U,y=[cp,bS,m,n]:=⟨_,rfl⟩;have P:x.length=4:=by rw[ak];rfl
 have Q:y.length=4:=by rw[a8];rfl
 have F:=ad (λ(j:J) (h:j<4)=>bb (k:=j) (v:=aa x[j]) z (by subst ak;have:j=0\/j=1\/j=2\/j=3:=I;rcases this with rfl|rfl|rfl|rfl<;>rfl));have G:=ad (λ(j:J) (h:j<4)=>bb (k:=j) (v:=aa y[j]) A (by subst a8;have:j=0\/j=1\/j=2\/j=3:=I;rcases this with rfl|rfl|rfl|rfl<;>rfl));have E:Hid (lW ((zipWith dK x y).drop 0)=r):=ad (by subst ak a8;exact m'.o);go_loopg [7] 4 (λg i wr=>∃ j:J,g=4-j/\j<=4/\i=aa j/\lW ((zipWith dK x y).drop j)=r/\∃ q,wr=W.drewN q)
 case atStart=>exact⟨0,rfl,I,rfl,E.o,0,rfl⟩
 obtain⟨j,a7,M,rfl,N,q,rfl⟩:=hrel;have p:=ad N;by_cases B:j<4
 .have bP:=F.o j B;have bB:=G.o j B;have D:(zipWith dK x y).drop j=dK x[j] y[j] :: (zipWith dK x y).drop (j+1):=by
   rw[qO (by rw[length_zipWith];omega),getElem_zipWith]
  have N:=p.o;refine ed;have p:Hid ((if dK x[j] y[j]=0 then lW ((zipWith dK x y).drop (j+1))else dK x[j] y[j])=r):=ad N;have L:dK x[j] y[j]=if x[j]<y[j]then -1 else if y[j]<x[j]then 1 else 0:=rfl
  rw[L]at p;generalize x[j]=u at *;generalize y[j]=v at *;by_cases d1:u<v
  .have H:decide (u<v)=true:=dh d1;have s:Hid (r=-1):=ad (by have:=p.o;rw[aD d1,az b4]at this;exact this.symm);exact Si
  have H:decide (u<v)=false:=cN d1;by_cases d2:v<u
  .have K:decide (v<u)=true:=dh d2;have s:Hid (r=1):=ad (by have:=p.o;rw[az d1,aD d2,az b4]at this;exact this.symm);refine sm;exact Si
  have K:decide (v<u)=false:=cN d2;have s:Hid (lW ((zipWith dK x y).drop (j+1))=r):=ad (by have:=p.o;rw[az d1,az d2,aD rfl]at this;exact this);refine sm;refine sm;refine aK;go_roundg (4-(j+1))
  case rel=>exact⟨j+1,rfl,I,cT,s.o,q+_+_,rfl⟩
  omega
 obtain rfl:j=4:=I;have s:Hid (r=0):=ad (by have:=p.o;rw[Cu (by rw[length_zipWith];omega)]at this;exact this.symm);exact TP
def Od(n:U)(aw:0<=n/\n<=32767)(w:aj):aB 112 #[aa n] w λe w'=>e=aG (d' (-n*65536) (-n*65536) (n*65536) (n*65536))/\Below w w w':=by
 have d:=ad (sY (-n) (-n) ⟨I,I⟩ ⟨I,I⟩);have h2:=ad (sY n n ⟨I,I⟩ ⟨I,I⟩);generalize -n*65536=a at *;generalize n*65536=b at *;have g:=aP w (ab fc 214);have c:=(b9 w w).alloc bu (ab fc 214);refine sh;refine DN;have h:=(ag.bU (S:=aH) (r.mono (dm _)) a1).heap g id;have f:=c.trans (r.mono c.size);refine aK;refine aS (h2.o _) λaF bK=>?_;have L:=(ag.bU (S:=aH) (bK.mono (dm _)) a1).heap h id;have g0:=bV L;refine j1;go_wp2;refine dj (v:=aG (d' a a b b)) (fN _ w (d' a a b b) 214 (by simpa using(bX (bX (bX (bX L 0 (af a)) 1 (af a)) 2 (af b)) 3 (af b))) 4 rfl) ?_;exact⟨rfl,((((f.trans (bK.mono f.size)).setCell bu _).setCell bu _).setCell bu _).setCell bu _⟩
structure oh(w:aj)(b:J)(bR bI v0 v1 eD eE ak a8:U)(W:aj):ae where
 v:W.heap[w.heap.size+1]?=some (ab #[af v0,af v1] 91 (0,0))
 x:W.heap[w.heap.size+1+1]?=some (ab #[af eD,af eE,af ak,af a8] 214 (0,0))
 r:W.heap[w.heap.size+1+1+1]?=some (ab cH 91 (0,0))
 s:W.heap[w.heap.size+1+1+1+1]?=some (ab cH 91 (0,0))
 q:W.heap[b]?=some (ab #[af bR,af bI] 91 (0,0))
 n:w.heap.size+5<=b
 be:Below w w W
def oh.set(h:oh w b bR bI v0 v1 eD eE ak a8 W)(k:J)(x y:U):oh w b (if k=0 then x else bR) (if k=0 then bI else x) (if k=0 then y else v0) (if k=0 then v1 else y) eD eE ak a8 ((W.setCell (ah b (if k=0 then 0 else 1)) (af x)).setCell (ah (w+1) (if k=0 then 0 else 1)) (af y)):=by
 have n:=h.n;have al:=(h.be.setCell (p:=ah b (if k=0 then 0 else 1)) (by show w.heap.size<=b;omega) (af x)).setCell (p:=ah (w+1) (if k=0 then 0 else 1)) zx (af y);have a_:=bX (eB (p:=ah b (if k=0 then 0 else 1)) h.v (by show w.heap.size+1≠b;omega) (af x)) (if k=0 then 0 else 1) (af y);have a:=eB (p:=ah (w+1) (if k=0 then 0 else 1)) (bX h.q (if k=0 then 0 else 1) (af x)) (by show b≠w.heap.size+1;omega) (af y);have ar:∀ {j:J} {o:Obj},W.heap[j]?=some o->j≠b->j≠w.heap.size+1->((W.setCell (ah b (if k=0 then 0 else 1)) (af x)).setCell (ah (w+1) (if k=0 then 0 else 1)) (af y)).heap[j]?=some o:=λc h1 h2=>eB (p:=ah (w+1) (if k=0 then 0 else 1)) (eB (p:=ah b (if k=0 then 0 else 1)) c h1 (af x)) h2 (af y);have cf:w.heap.size+1+1≠b:=I;have d:w.heap.size+1+1+1≠b:=I;have f:w.heap.size+1+1+1+1≠b:=I;refine⟨?_,ar h.x cf I,ar h.r d I,ar h.s f I,?_,n,al⟩
 .by_cases e:k=0
  .simp only[aD e]at a_⊢;exact a_
  simp only[az e]at a_⊢;exact a_
 by_cases e:k=0
 .simp only[aD e]at a⊢;exact a
 simp only[az e]at a⊢;exact a
def oh.O2(h:oh w b bR bI v0 v1 eD eE ak a8 W)(x y:U):oh w b x bI y v1 eD eE ak a8 ((W.setCell (ah b 0) (af x)).setCell (ah (w+1) 0) (af y)):=h.set 0 x y
def oh.O3(h:oh w b bR bI v0 v1 eD eE ak a8 W)(x y:U):oh w b bR x v0 y eD eE ak a8 ((W.setCell (ah b 1) (af x)).setCell (ah (w+1) 1) (af y)):=h.set 1 x y
def ae8(fa f d c eD eE ak a8:U)(h1:aZ fa)(h2:aZ f)(C:aZ d)(D:aZ c)(w:aj):aB 111 #[aG #[af fa,af f],aG #[af d,af c],aG (d' eD eE ak a8)] w λe w'=>
   e=aV #[aG #[af (fI fa d eD ak 1 2).1,af (fI f c eE a8 4 8).1],aG #[af (fI fa d eD ak 1 2).2.1,af (fI f c eE a8 4 8).2.1],aa ((fI fa d eD ak 1 2).2.2+(fI f c eE a8 4 8).2.2)]/\Below w w w':=by
 have M:=ad (yS h1 h2 C D);have T:=ad (Ol d C);have V:=ad (Ol c D);obtain⟨X,j⟩:∃ X,fI fa d eD ak 1 2=X:=⟨_,rfl⟩;obtain⟨Y,k⟩:∃ Y,fI f c eE a8 4 8=Y:=⟨_,rfl⟩;rw[j,k];unfold fI at j k;dsimp only at j k;generalize cY fa d=m at *;generalize cY f c=h at *;generalize dE (nO d) 32768=bD at *;generalize dE (nO c) 32768=bQ at *;have i:=ad j;have u:=ad k;have l:=(((((b9 w w).alloc bu (ab #[af fa,af f] 91)).alloc aM (ab #[af d,af c] 91)).alloc b_ (ab (d' eD eE ak a8) 214)).alloc b_ (ab cH 91)).alloc b_ (ab cH 91);have bS:=b2 (b2 (b2 (aP (w.alloc (ab #[af fa,af f] 91)) (ab #[af d,af c] 91)) (ab (d' eD eE ak a8) 214)) (ab cH 91)) (ab cH 91);have z:=b2 (b2 (aP ((w.alloc (ab #[af fa,af f] 91)).alloc (ab #[af d,af c] 91)) (ab (d' eD eE ak a8) 214)) (ab cH 91)) (ab cH 91);have A:=b2 (aP (((w.alloc (ab #[af fa,af f] 91)).alloc (ab #[af d,af c] 91)).alloc (ab (d' eD eE ak a8) 214)) (ab cH 91)) (ab cH 91);have B:=aP ((((w.alloc (ab #[af fa,af f] 91)).alloc (ab #[af d,af c] 91)).alloc (ab (d' eD eE ak a8) 214)).alloc (ab cH 91)) (ab cH 91);have a':(((((w.alloc (ab #[af fa,af f] 91)).alloc (ab #[af d,af c] 91)).alloc (ab (d' eD eE ak a8) 214)).alloc (ab cH 91)).alloc (ab cH 91)).heap.size=w.heap.size+5:=by simp
 simp only[ft]at bS z A B
 go_in
 go_wp2_with fail;generalize World.alloc (World.alloc (World.alloc (World.alloc (World.alloc w _) _) _) _) _=bo at *;refine aS (M.o _) λaq y=>?_;have g:=(bd bo).ga y;have G:Hid (oh w aq m h d c eD eE ak a8 (aq.alloc (ab #[af m,af h] 91))):=⟨b2 (g.heap bS id) _,b2 (g.heap z id) _,b2 (g.heap A id) _,b2 (g.heap B id) _,aP _ _,by have:=g.size;omega,(l.trans (y.mono l.size)).alloc (l.trans (y.mono l.size)).size _⟩;go_upto_region 3 with fail
 generalize World.alloc aq _=W at *;generalize aq.heap.size=b at *;have a:=G.o;have bR:=aX a.q;have bI:=aX a.v;have S:=aX a.x;have g0:=bV a.q;have g1:=bV a.v;have cf:¬ w.heap.size+1=b:=by have:=a.n;omega
 have fo:=h4 cf;go_upto_if 19 with fail
 go_cut [10] (λt bE=>t=aa X.2.2/\oh w b X.1 h X.2.1 c eD eE ak a8 bE)
 case first=>
  by_cases bP:m<eD
  .have ax:=ad (a.O2 eD bD);have E:=i.o;rw[aD bP]at E;exact Th
  by_cases bB:ak<m
  .have ax:=ad (a.O2 ak bD);have E:=i.o;rw[az bP,aD bB]at E;exact Th
  have E:=i.o;rw[az bP,az bB]at E;subst E;have ax:=ad a;exact I1
 obtain⟨rfl,a⟩:=hcut;have eS:0<=X.2.2/\X.2.2<=2:=by
  rw[<-i.o];split
  .exact⟨(bs:(0:U)<=1),(bs:(1:U)<=2)⟩
  split
  .exact⟨(bs:(0:U)<=2),(bs:(2:U)<=2)⟩
  exact⟨(bs:(0:U)<=0),(bs:(0:U)<=2)⟩
 have bR:=aX a.q;have bI:=aX a.v;have S:=aX a.x;have g0:=bV a.q;have g1:=bV a.v;go_upto_if 51 with fail
 go_cut [10] (λt bE=>t=aa (X.2.2+Y.2.2)/\oh w b X.1 Y.1 X.2.1 Y.2.1 eD eE ak a8 bE)
 case first=>
  by_cases bP:h<eE
  .have ax:=ad (a.O3 eE bQ);have E:=u.o;rw[aD bP]at E;subst E;exact Ti
  by_cases bB:a8<h
  .have ax:=ad (a.O3 a8 bQ);have E:=u.o;rw[az bP,aD bB]at E;subst E;exact Ti
  have E:=u.o;rw[az bP,az bB]at E;subst E;have ax:=ad a;refine aK;go_meet;exact⟨by rw[Int.add_zero],ax.o⟩
 obtain⟨rfl,a⟩:=hcut;have bR:=aX a.q;have bI:=aX a.v;have gf:=aX a.r;have g':=aX a.s;have Z:=bV a.r;have g4:=bV a.s;have Q:¬ w.heap.size+1+1+1=b:=by have:=a.n;omega
 have R:¬ w.heap.size+1+1+1+1=b:=by have:=a.n;omega
 have fr:=h4 Q;have n6:=h4 R;have K:=eB (eB (jq a.r (af X.1) (af Y.1)) (p:=ah (w.heap.size+1+1+1+1) 0) aM (af X.2.1)) (p:=ah (w.heap.size+1+1+1+1) 1) aM (af Y.2.1);have L:=jq (eB (eB a.s (p:=ah (w.heap.size+1+1+1) 0) aM (af X.1)) (p:=ah (w.heap.size+1+1+1) 1) aM (af Y.1)) (af X.2.1) (af Y.2.1);have g:=(((a.be.setCell (p:=ah (w.heap.size+1+1+1) 0) CP (af X.1)).setCell (p:=ah (w.heap.size+1+1+1) 1) CP (af Y.1)).setCell (p:=ah (w.heap.size+1+1+1+1) 0) CO (af X.2.1)).setCell (p:=ah (w.heap.size+1+1+1+1) 1) CO (af Y.2.1);have H:=bN g (bx K L);refine aK
 go_region
 go_wp2;generalize (((wc.setCell (ah (w.heap.size+1+1+1) 0) (af X.1)).setCell (ah (w.heap.size+1+1+1) 1) (af Y.1)).setCell (ah (w.heap.size+1+1+1+1) 0) (af X.2.1)).setCell (ah (w.heap.size+1+1+1+1) 1) (af Y.2.1)=F at *;have N:=kJ (w:=F.drew) H.o.2.1;have P:=kJ (w:=F.drew) H.o.2.2;refine dH (v:=aV #[aG #[af X.1,af Y.1],aG #[af X.2.1,af Y.2.1],aa (X.2.2+Y.2.2)]) (by simp[results,results111,asAddr,loadVar,loadCells,isAgg91,sizeOf91,N,P]) rfl ?_;exact⟨rfl,H.o.1.drew⟩
def BG(i:J)(av:i<2)(w:aj):aB 66 #[aa i] w λe w'=>e=.returned (.agg (if i=0 then fm (-2097152) 0 else fm 2097152 32768))/\Below w w w':=by
 have g:=aP w (ab (fU 0 0 0 0 0 0 0 0 0 0) 93);have a:=(b9 w w).alloc bu (ab (fU 0 0 0 0 0 0 0 0 0 0) 93)
 have:i=0\/i=1:=I
 rcases this with rfl|rfl
 .refine sh;refine aS (((sY (-32) 0 bs bs)) _) λaq al=>?_;refine DB;obtain⟨c,b,hk⟩:=dT aq 93 10 w (fm (-2097152) 0) _ sizeOf93 rfl rfl t (yg _ _);have y:=(a.trans (al.mono a.size)).trans (hk.below (B:=w.heap.size) (a.trans (al.mono a.size)).size a1);go_wp2_with (refine c' c rfl rfl rfl rfl ?_);refine dj (v:=aG (fU (-2097152) 0 0 0 0 3 0 0 0 0)) b ?_;exact o8
 refine sh;refine aS ((sY 32 0 bs bs) _) λaq al=>?_;obtain⟨c,b,hk⟩:=dT aq 93 10 w (fm 2097152 32768) _ sizeOf93 rfl rfl ((ag.bU (S:=aH) al a1).heap g id) (yg _ _);go_wp2_with (refine c' c rfl rfl rfl rfl ?_);refine dj (v:=aG (fU 2097152 0 0 0 32768 3 0 0 0 0)) b ?_;exact⟨rfl,((a.trans (al.mono a.size)).trans (hk.below (B:=w.heap.size) (a.trans (al.mono a.size)).size a1))⟩
def ae0(aN:U)(w:aj):aB 42 #[bz aN] w λe w'=>e=.returned (.agg (aQ (ki aN 0)))/\Below w w w':=by
 refine Se;refine US;refine aS ((BG 0 bs) _) λaq a=>?_;refine aK;refine aS ((BG 1 bs) _) λaF b=>?_;refine W0;generalize aF.setRow w (aQ (ki aN 0))=br at *;refine SP;refine dj (v:=.agg (aQ (ki aN 0))) j ?_;exact⟨rfl,(((c.mono λ_ _ x=>x.elim).trans i).below bu a1)⟩
variable{k:J}
def dJ(k:J)(v:J->U):J->U:=cI (24+k*6) 6 (λ_=>0) v
def nJ(k:J)(v:J->U):U:=cY (v (24+k*6)) (v (24+k*6+2))
def nK(k:J)(v:J->U):U:=cY (v (24+k*6+1)) (v (24+k*6+3))
def tX(k i:J)(v:J->U):aY:=decide (v (4+i*10+8)=0)&&jj (d_ (v (4+i*10)) (nJ k v)) (d_ (v (4+i*10+1)) (nK k v)) (cY 65536 262144)
def KQ:dJ k (fp (24+k*6) v)=dJ k v:=by
 funext j
 unfold dJ cI;split
 .rfl
 exact(wk _ v).2.2.2 j I I I
def Yh(x:U):dJ k (bn v (24+k*6+5) x)=dJ k v:=by
 funext j
 unfold dJ cI;split
 .rfl
 exact c0 _ _ _ _ I
def Yg(i:J)(av:i<2):dJ k (j' i fr (v,xs)).1=(j' i fr (dJ k v,xs)).1/\(j' i fr (v,xs)).2=(j' i fr (dJ k v,xs)).2:=by
 have e:∀ j,j<24->dJ k v j=v j:=λj a=>iI _ _ _ _ _ I;unfold j';simp only[e (4+i*10+5) b4,e (4+i*10) b4,e (4+(1-i)*10+9) b4];have c:∀ j x (u:J->U),j<24->dJ k (bn u j x)=bn (dJ k u) j x:=λj x u a=>by
  funext q
  unfold dJ cI bn;by_cases h:q=j
  .rw[az I,aD h,aD h]
  rw[az h,az h]
 split
 .exact⟨c _ _ _ I,rfl⟩
 refine⟨?_,rfl⟩;rw[c _ _ _ I,c _ _ _ I,c _ _ _ I]
def ahf(d:v (24+k*6+4)=1\/v (24+k*6+4)=2)(i:J)(av:i=(2-v (24+k*6+4)).toNat):nt k fr (v,xs)=if v (24+k*6+5)=1 then(dJ k v,xs)else if gm (-4194304) (-4194304) 4194304 4194304 (nJ k v) (nK k v)=false then(dJ k v,xs)else if tX k i v=true then j' i fr (dJ k v,xs)else(fp (24+k*6) v,xs):=by
 have g:=wk (24+k*6) v;have c:i<2:=I;have b:Bd (24+k*6) (4+i*10) (fp (24+k*6) v)=tX k i v:=by
  unfold Bd tX nJ nK;rw[g.1,g.2.1,g.2.2.2 (4+i*10+8) I I I,g.2.2.2 (4+i*10) I I I,g.2.2.2 (4+i*10+1) I I I]
 unfold nt ll;rw[az (show ¬ v (24+k*6+4)=0 by omega)];simp only[<-av,b,g.1,g.2.1];by_cases a:v (24+k*6+5)=1
 .rw[aD a,aD a,az Ch];exact c6 (·,xs) (Yh _)
 rw[az a,az a];unfold nJ nK;by_cases al:gm (-4194304) (-4194304) 4194304 4194304 (cY (v (24+k*6)) (v (24+k*6+2))) (cY (v (24+k*6+1)) (v (24+k*6+3)))=false
 .rw[aD al,aD al,az Ch];exact c6 (·,xs) KQ
 rw[az al,az al];by_cases aT:tX k i v=true
 .rw[aD aT,aD aT,az Ch]
  have:=Yg (k:=k) (v:=fp (24+k*6) v) (fr:=fr) (xs:=xs) i c
  rw[KQ]at this;exact qT this.1 this.2
 rw[az aT,az aT];rfl
end Go.Proofs.YtalagblioepadaaGreatDoor
