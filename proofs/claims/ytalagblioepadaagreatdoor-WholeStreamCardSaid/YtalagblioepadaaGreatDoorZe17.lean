/- The proof, part 17. -/
import Derived.Test.YtalagblioepadaaGreatDoorZe11
import Derived.Test.YtalagblioepadaaGreatDoorZe13
import Derived.Test.YtalagblioepadaaGreatDoorZe12
namespace Go.Proofs.YtalagblioepadaaGreatDoor
set_option linter.all false
open Proofs.Tryz List Go.RowKit
set_option maxRecDepth 100000
set_option maxHeartbeats 2000000
variable{ww:Prop}
def zH(h:ww:=by rw[r];omega):=h
def xr(h:ww:=by simpa using d):=h
def sc(h:ww:=by have:=aA _ e;omega):=h
variable{L:ai ba}{x:Operand}{T:TypeId}{W:aj}
section
structure cj where
 cw:U
 fg:U
 state:U
 kK:aY
 cA:U
 heard:U
 own:ai aR
 du:U
 next:U
 out:ai ba
 fE:U
 bad:U
 fT:U
structure j3 where
 p:J
 h1:J
 d1:J
 h2:J
 d2:J
def j3.S(B:j3)(b:J):ae:=b=B.p\/b=B.h1\/b=B.d1\/b=B.h2\/b=B.d2
structure j3.ok(B:j3):ae where
 a:B.p≠B.h1/\B.p≠B.d1/\B.p≠B.h2/\B.p≠B.d2
 b:B.h1≠B.d1/\B.h1≠B.h2/\B.h1≠B.d2
 c:B.d1≠B.h2/\B.d1≠B.d2/\B.h2≠B.d2
def nd(B:j3)(l:cj):a6 ay:=#[bz l.cw,aa l.fg,aa l.state,.bool l.kK,aa l.cA,aa l.heard,B.h1,aa l.du,aa l.next,B.h2,aa l.fE,aa l.bad,aa l.fT]
def lx(l:ai aR):ai U:=l.map λc=>(c.toNat:U)
structure cW(w:aj)(B:j3)(l:cj):ae where
 bh:w.heap[B.p]?=some (ab (nd B l) 124 (0,0))
 own:k' w B.h1 B.d1 64 (lx l.own)
 out:jK w B.h2 B.d2 8 l.out
 ok:B.ok
namespace cW
variable{w w':aj}{B:j3}{l:cj}
theorem lt(h:cW w B l):B.p<w.heap.size/\B.h1<w.heap.size/\B.d1<w.heap.size/\B.h2<w.heap.size/\B.d2<w.heap.size:=
 ⟨bZ h.bh,h.own.le.2.2.2.1,h.own.le.2.2.2.2.1,h.out.le.2.2.2.1,h.out.le.2.2.2.2.1⟩
theorem keeps{S:J->ae}(h:cW w B l)(hk:ag S w w')(aA:∀ b,B.S b->¬ S b):cW w' B l:=
 ⟨hk.heap h.bh (aA _ (.inl rfl)),h.own.keeps hk (aA _ (.inr (.inl rfl))) (aA _ (.inr (.inr (.inl rfl)))),h.out.keeps hk (aA _ (.inr (.inr (.inr (.inl rfl))))) (aA _ (.inr (.inr (.inr (.inr rfl))))),h.ok⟩
def drew(h:cW w B l)(n:J):cW (w.drewN n) B l:=h.keeps (S:=aH) ((ag.refl _ w).drewN n) (λ_ _=>id)
def below(h:cW w B l)(al:Below w w w'):cW w' B l:=h.keeps (S:=aH) (ag.bU al a1) (λ_ _=>id)
def set(h:cW w B l)(k:J)(v:ay)(l':cj)(an:(nd B l).setIfInBounds k v=nd B l')(ar:l'.own=l.own)(c:l'.out=l.out):cW (w.setCell (ah B.p k) v) B l':=by
 have hk:ag (λb=>b=B.p) w (w.setCell (ah B.p k) v):=ag.setCell (S:=λb=>b=B.p) (ag.refl _ w) (p:=ah B.p k) rfl _;refine⟨by rw[bX h.bh k v,an],?_,?_,h.ok⟩
 .rw[ar];exact h.own.keeps hk (h4 h.ok.a.1) (h4 h.ok.a.2.1)
 rw[c];exact h.out.keeps hk (h4 h.ok.a.2.2.1) (h4 h.ok.a.2.2.2)
def FJ(h:cW w B l){L:ai aR}{l':cj}(d:k' w' B.h1 B.d1 64 (lx L))(hk:ag (λb=>b=B.h1\/b=B.d1) w w')(an:nd B l'=nd B l)(ar:l'.own=L)(e:l'.out=l.out):cW w' B l':=by
 have a:=h.ok.a;have b:=h.ok.b;have c:=h.ok.c;refine⟨?_,by rw[ar];exact d,?_,h.ok⟩
 .rw[an];exact hk.heap h.bh I
 rw[e];exact h.out.keeps hk I I
def FG(h:cW w B l){l':cj}(d:jK w' B.h2 B.d2 8 L)(hk:ag (λb=>b=B.h2\/b=B.d2) w w')(an:nd B l'=nd B l)(ar:l'.own=l.own)(e:l'.out=L):cW w' B l':=by
 have a:=h.ok.a;have b:=h.ok.b;have c:=h.ok.c;refine⟨?_,?_,by rw[e];exact d,h.ok⟩
 .rw[an];exact hk.heap h.bh I
 rw[ar];exact h.own.keeps hk I I
def bw(h:cW w B l):w.cell? (ah B.p 0)=some (bz l.cw):=bb h.bh rfl
def bP(h:cW w B l):w.cell? (ah B.p 1)=some (aa l.fg):=bb h.bh rfl
def bB(h:cW w B l):w.cell? (ah B.p 2)=some (aa l.state):=bb h.bh rfl
def e3(h:cW w B l):w.cell? (ah B.p 3)=some (.bool l.kK):=bb h.bh rfl
def e4(h:cW w B l):w.cell? (ah B.p 4)=some (aa l.cA):=bb h.bh rfl
def hA(h:cW w B l):w.cell? (ah B.p 5)=some (aa l.heard):=bb h.bh rfl
def eI(h:cW w B l):w.cell? (ah B.p 6)=some (bM B.h1):=bb h.bh rfl
def dv(h:cW w B l):w.cell? (ah B.p 7)=some (aa l.du):=bb h.bh rfl
def gQ(h:cW w B l):w.cell? (ah B.p 8)=some (aa l.next):=bb h.bh rfl
def fY(h:cW w B l):w.cell? (ah B.p 9)=some (bM B.h2):=bb h.bh rfl
def sC(h:cW w B l):w.cell? (ah B.p 10)=some (aa l.fE):=bb h.bh rfl
def Ed(h:cW w B l):w.cell? (ah B.p 11)=some (aa l.bad):=bb h.bh rfl
def KL(h:cW w B l):w.cell? (ah B.p 12)=some (aa l.fT):=bb h.bh rfl
def free(h:cW w B l)(k:J):w.frozen? (ah B.p k)=false:=gY h.bh k
end cW
variable{w:aj}{B:j3}{l:cj}
def M6(h:cW w B l):aB 20 #[B.p] w λe w'=>e=aa l.state/\w=w':=by
 have bB:=h.bB;exact er
def ajJ(h:cW w B l):aB 31 #[B.p] w λe w'=>e=aa l.own.length/\w=w':=by
 have eI:=h.eI;have a:=yt h.own;rw[show(lx l.own).length=l.own.length by simp[lx]]at a
 go_in
 refine jI;refine bJ a ?_;go_wp2;go_ret;exact⟨rfl,rfl⟩
def Fp(f:U)(w:aj):aB 194 #[aa f] w λe w'=>e=.returned (.bool (decide (0<=f/\f<=1073741824)))/\w=w':=by
 by_cases h1:0<=f
 .by_cases h2:f<=1073741824
  .exact xC
  exact xC
 exact xC
def cj.new(cw fg first:U):cj:=⟨cw,fg,0,false,0,0,[],first,first,[],0,0,0⟩
def M5(cw fg first:U)(ao:1<=fg/\fg<=10000)(i:0<=first/\first<=1073741824)(w:aj):aB 129 #[bz cw,aa fg,aa first] w λe w'=>
   e=aV #[bM (w+4),aa 0]/\cW w' ⟨w+4,w.heap.size+1,w.heap.size,w.heap.size+3,w.heap.size+2⟩ (cj.new cw fg first)/\Below w w w':=by
 have c:=λW=>Fp first W
 rw[dh i]at c
 go_in
 go_wp2_with fail;refine bJ (c _) ?_;go_wp2_with fail;refine aS (abP 64 I I _) ?_;rintro aq ⟨g,h,j⟩;go_wp2_with fail;refine aS (ac8 _) ?_;rintro aF ⟨a,d,l⟩;rw[show aq.heap.size+1=w.heap.size+3 by omega]at a⊢;rw[j]at a;have k:aF.heap.size=w.heap.size+4:=I;have f:=ad (g.keeps (ag.bU (S:=aH) d a1) id id);have b5:=ad a;go_wp2;go_ret2;have hk:=(bd aF).alloc (ab (nd ⟨w+4,w.heap.size+1,w.heap.size,w.heap.size+3,w.heap.size+2⟩ (cj.new cw fg first)) 124);have b:=aP aF (ab (nd ⟨w+4,w.heap.size+1,w.heap.size,w.heap.size+3,w.heap.size+2⟩ (cj.new cw fg first)) 124);rw[k]at b;refine⟨rfl,⟨b,f.o.keeps hk id id,b5.o.keeps hk id id,⟨?_,?_,?_⟩⟩,(h.trans (d.mono I)).alloc I _⟩<;>simp<;>omega
def yI(l:cj)(f:U)(x:aR):U:=if l.state=2 then 12 else if 63<(x.toNat:U)then 1 else if f≠l.du+l.own.length then 11 else if l.own.length=64 then 8 else 0
def lq(l:cj)(f:U)(x:aR):cj:=if yI l f x=0 then {l with own:=l.own++[x]}else l
def acu(h:cW w B l)(f:U)(x:aR)(bg:0<=l.du/\l.du<=1099511627776):aB 145 #[B.p,aa f,bf (x.toNat:U)] w λe w'=>e=aa (yI l f x)/\cW w' B (lq l f x)/\ag B.S w w':=by
 have bB:=h.bB;have eI:=h.eI;have dv:=h.dv;unfold lq yI;by_cases a:l.state=2
 .exact TL
 rw[az a];by_cases h1:63<(x.toNat:U)
 .rw[aD h1,az bs];exact Vr
 rw[az h1];have m:=h.own.le.1;have c:(lx l.own).length=l.own.length:=by simp[lx]
 rw[c]at m;have g:=λn=>yt (h.drew n).own;rw[c]at g;have i:=ad g;by_cases h2:f≠l.du+l.own.length
 .rw[aD h2,az bs];have q:(f != l.du+(l.own.length:U))=true:=by simpa using h2
  have H:=ad h;generalize l.du=ac at *;refine SY;go_ret;exact Wn
 rw[az h2];have h2:f=l.du+l.own.length:=by simpa using h2
 by_cases d:l.own.length=64
 .rw[aD d,az bs];have H:=ad h;have j:=ad (λn=>abS (H.o.drew n).own (by rw[c,d]) (x.toNat:U));generalize l.du=ac at *;refine W7;exact⟨rfl,(H.o.drew _).FJ k hk rfl rfl rfl,((ag.refl _ w).drewN _).trans (hk.mono λb _ h=>h.elim (λe=>.inr (.inl e)) (λe=>.inr (.inr (.inl e))))⟩
 rw[az d,aD rfl];have j:=ad (λn=>abR (h.drew n).own (by rw[c];omega) (x.toNat:U));refine W7;exact⟨rfl,(h.drew _).FJ (L:=l.own++[x]) (by simpa[lx]using k) hk rfl rfl rfl,((ag.refl _ w).drewN _).trans (hk.mono λb _ h=>h.elim (λe=>.inr (.inl e)) (λe=>.inr (.inr (.inl e))))⟩
def wO(f sum:U):ba:=⟨4,0,f%65536,0,[],sum,0⟩
def BF(l:cj)(f:U):U:=if l.state=2 then 12 else if ¬ (0<=f/\f<=1073741824)then 1 else if l.out.length=8 then 8 else 0
def np(l:cj)(f sum:U):cj:=if BF l f=0 then {l with out:=l.out++[wO f sum]}else l
def acv(h:cW w B l)(f sum:U):aB 220 #[B.p,aa f,bz sum] w λe w'=>e=aa (BF l f)/\cW w' B (np l f sum)/\ag B.S w w':=by
 have bB:=h.bB;have fY:=h.fY;have b:=λW=>Fp f W;unfold np BF;by_cases a:l.state=2
 .exact TL
 rw[az a];by_cases h1:0<=f/\f<=1073741824
 .rw[az (xj h1)];rw[dh h1]at b;by_cases c:l.out.length=8
  .rw[aD c,az bs];have H:=ad h;have g:=ad (λn=>Nn (H.o.drew n).out c (wO f sum));have i:=λn=>uv f (w.drewN n);have d:=ad i;refine VR;refine aS (g.o _) ?_;exact WH
  rw[az c,aD rfl];have H:=ad h;have d:=ad (λn=>uv f (w.drewN n));refine VR;refine aS (((λn=>Nl (H.o.drew n).out (by have:=H.o.out.le.1;omega) (wO f sum))) _) ?_;exact WH
 rw[aD h1,az bs];rw[cN h1]at b
 go_in
 refine DQ;refine fB;exact xL
def oo(l:cj):cj:=if l.state=2 then l else {l with state:=2,kK:=true}
def acq(h:cW w B l):aB 62 #[B.p] w λe w'=>e=aV #[]/\cW w' B (oo l)/\ag B.S w w':=by
 have bB:=h.bB;unfold oo;by_cases b:l.state=2
 .rw[aD b];rw[b]at bB
  go_in
  go_wp2;refine Dq;exact xL
 rw[az b];have e3:=h.e3;have f2:=h.free 2;have f3:=h.free 3;have a:=ad ((h.set 2 (aa 2) {l with state:=2} rfl rfl rfl).set 3 (.bool true) {l with state:=2,kK:=true} rfl rfl rfl);have G:=ad (ag.setCell (S:=B.S) (ag.setCell (S:=B.S) (ag.refl _ w) (p:=ah B.p 2) (.inl rfl) (aa 2)) (p:=ah B.p 3) (.inl rfl) (.bool true))
 go_in
 go_wp2;exact TX
def acw(h:cW w B l):aB 215 #[B.p] w λe w'=>e=aa l.cA/\w=w':=by
 have e4:=h.e4;exact er
end
variable{w:aj}{B:j3}{l:cj}
def acD(a:Addr)(w:aj):aB 197 #[.pointer (some a)] w λe w'=>e=.returned (.func (.func 260) #[] #[w.heap.size])/\w.alloc (ab #[.pointer (some a)] 60)=w':=by
 exact er
def aiM(h:jK w B.h2 B.d2 8 L)(S:w.cell? (ah B.p 9)=some (bM B.h2))(a:J)(an:w.cell? (ah a 0)=some (bM B.p))(r:a<w.heap.size/\B.p<w.heap.size)(hne:a≠B.h2/\a≠B.d2/\B.p≠B.h2/\B.p≠B.d2)(f:J->ae)(k:¬ f a/\¬ f B.p/\¬ f B.h2/\¬ f B.d2):Kk prog 260 #[a] (λm:ba=>#[.agg (bG m)]) L f (λb=>b=B.h2\/b=B.d2) (λW=>jK W B.h2 B.d2 8 []) w:=by
 intro l Q W a' hk r' m' V R;subst a';have ps:=h.le;have N:=ad r;have fo:=hne.1;have fr:=hne.2.1;have gf:=hne.2.2.1;have g':=hne.2.2.2;refine h0.2 ?_
 go_in
 go_wp2_with fail;go_loopg [] L.length (λg wr=>∃ pre rest:ai ba,L=pre++rest/\g=rest.length/\wr.cell? (ah a 0)=some (bM B.p)/\wr.cell? (ah B.p 9)=some (bM B.h2)/\jK wr B.h2 B.d2 8 rest/\Q pre wr/\w.heap.size+2<=wr.heap.size)
 case atStart=>exact⟨[],L,rfl,rfl,hk.cell an id,hk.cell S id,h.keeps hk id id,R,I⟩
 have⟨pre,rest,C,a7,G,A,s,M,hd⟩:=hrel;refine tE;cases rest with
 | nil=>
  refine aK;refine(ac_ s).mono ?_;refine VP;obtain⟨n,_,q⟩:=dT (aF.alloc (ab (bG ba.zero) 254)) 254 7 aF (bG ba.zero) _ sizeOf254 rfl rfl j (oC _);refine Sy;clear j q c v d;generalize (aF.alloc (ab (bG ba.zero) 254)).setRow aF (bG ba.zero)=K at *;go_wp2_with (first|(refine eL e2 rfl rfl ?_;simp only[Act.put,dV])|(refine c' n rfl rfl rfl rfl ?_;try simp only[Act.put]));refine vn;have Z:L=pre:=by rw[D.o,gq]
  exact⟨⟨_,rfl⟩,by rw[Z];exact u,y⟩
 | cons m rest=>
  refine aK;refine(ac9 s).mono ?_;refine VP;obtain⟨n,_,q⟩:=dT (aF.alloc (ab (bG ba.zero) 254)) 254 7 aF (bG m) _ sizeOf254 rfl rfl j (oC _);have z:=fb (aF.alloc (ab (bG ba.zero) 254)) aF _ (bG m) 254 j;refine Sy;have lb:=cu (cu hd d.size) c.size;have H:=(d.trans (c.mono λ_ _ x=>x.elim)).cell (p:=ah a 0) G (λe=>e.elim fo fr);have E:=(d.trans (c.mono λ_ _ x=>x.elim)).cell (p:=ah B.p 9) A (λe=>e.elim gf g');clear j q c v d G A M s;generalize (aF.alloc (ab (bG ba.zero) 254)).setRow aF (bG m)=K at *;have mv:=aX z;clear z;go_upto_region 1 with(first|(refine eL e2 rfl rfl ?_;simp only[Act.put,dV])|(refine c' n rfl rfl rfl rfl ?_;try simp only[Act.put]))
  refine xT;have⟨fn,tmps,assign,body,a8,t⟩:=V pre m rest K D.o u;simp only[bG]at a8;refine Dn;clear a8 t mv;have r:=N.o;have X:=i.cell (p:=ah a 0) H (λe=>e.elim k.1 (λe=>by have e:a=w.heap.size+1:=e;omega));have Y:=i.cell (p:=ah B.p 9) E (λe=>e.elim k.2.1 (λe=>by have e:B.p=w.heap.size+1:=e;omega));have T:=y.keeps i (λe=>e.elim k.2.2.1 a1) (λe=>e.elim k.2.2.2 a1);have l':=cu lb i.size;have P:=ad (show L=(pre++[m])++rest by rw[D.o];simp);clear r H E y u i e2 n;gi_wp2;go_wp2;go_roundg rest.length
  case measure=>simp at a7;omega
  exact⟨pre++[m],rest,P.o,rfl,X,Y,T,F,l'⟩
structure jo where
 m:ba
 a:cr Addr
 c:J
def lV(x:jo):a6 ay:=#[aa x.m.kind,bz x.m.cw,c7 x.m.en,c7 x.m.ee,au x.a x.m.bm.length x.c,bz x.m.sum,aa x.m.lead]
def lk(xs:ai jo):ai ay:=xs.flatMap λx=>(lV x).toList
structure D4(b:J)(w:aj)(A:cr Addr)(cap:J)(xs:ai jo):ae where
 bC:ey w 7 A xs.length cap (lk xs)
 bm:∀ x∈xs,dy w x.a x.c x.m.bm/\∀ y,x.a=some y->b<=y.block
 new:∀ y,A=some y->b<=y.block
def oP(l:cj):ba:=if l.own=[]then⟨5,0,0,l.next%65536,[],0,0⟩else⟨3,0,l.du%65536,l.next%65536,l.own,0,0⟩
def pG(l:cj)(lead:U):ba:=⟨6,0,l.next%65536,0,[],0,max (-1000) (min lead 1000)⟩
def pS(l:cj)(lead:U):ai ba:=if l.cA%8=0 then [oP l,pG l lead]else [oP l]
def X4{a:cr Addr}{n cap:J}{L:ai aR}(h:ey w 1 a n cap ((lx L).map λx=>bf x)):dy w a cap L:=by
 refine xP;have aw:n=L.length:=by simp[lx]at h1;omega
 refine⟨I,s,?_⟩;by_cases e:L=[]
 .exact .inl e
 have⟨b,o,bg,an⟩:=k (by have:=tf.2 e;omega);exact .inr ⟨b,o,bg,λi av=>an i _ (by simp[lx,av,eW])⟩
def ql(w:aj):dy w none 0 []:=⟨dm _,c3 _,.inl rfl⟩
theorem y8{b n cK:J}{xs:ai ay}{t:TypeId}(a:w.heap[b]?=ab xs.toArray t (0,0))(c:xs.length=n*cK)(hm:n<=maxLen):ey w cK (bT b) n n xs:=
 ⟨c,dm _,hm,λ_=>⟨b,0,rfl,λj u d=>by rw[gM];exact bb a xr⟩⟩
structure Ki(bo w:aj)(l:cj)(x:jo):ae where
 bytes:dy w x.a x.c x.m.bm
 new:∀ y,x.a=some y->bo<=y.block
 is:x.m=oP l
 pk:Below bo bo w
def aeF(l:cj)(lead:U):(lead < -1000/\pG l lead=⟨6,0,l.next%65536,0,[],0,-1000⟩)\/(lead=-1000/\pG l lead=⟨6,0,l.next%65536,0,[],0,-1000⟩)\/(lead=1000/\pG l lead=⟨6,0,l.next%65536,0,[],0,1000⟩)\/(1000<lead/\pG l lead=⟨6,0,l.next%65536,0,[],0,1000⟩)\/((-1000<lead/\lead<1000)/\pG l lead=⟨6,0,l.next%65536,0,[],0,lead⟩):=by
 unfold pG;by_cases h1:lead<=-1000
 .rw[show max (-1000) (min lead 1000)=-1000 by omega];by_cases h2:lead=-1000
  .exact .inr (.inl ⟨h2,rfl⟩)
  exact .inl ⟨I,rfl⟩
 by_cases b:1000<=lead
 .rw[show max (-1000) (min lead 1000)=1000 by omega];by_cases a:lead=1000
  .exact .inr (.inr (.inl ⟨a,rfl⟩))
  exact .inr (.inr (.inr (.inl ⟨I,rfl⟩)))
 rw[show max (-1000) (min lead 1000)=lead by omega];exact .inr (.inr (.inr (.inr ⟨⟨I,I⟩,rfl⟩)))
def acC(h:cW w B l)(lead:U)(aW:0<=l.cA/\l.cA<=1099511627776):aB 198 #[B.p,aa lead] w λe w'=>(∃ A cap xs,e=au A xs.length cap/\D4 w w' A cap xs/\xs.map jo.m=pS l lead)/\Below w w w':=by
 have e4:=h.e4;have eI:=h.eI;have dv:=h.dv;have gQ:=h.gQ;have H:=ad h;have ys:=h.lt;clear h;by_cases ar:l.own=[]
 focus
  have z:=λw' (T:Below w w w')=>yt (H.o.below T).own;rw[ar]at z;have F:=ad z;clear z
  go_in
  go_wp2_with fail;refine bJ (uv _ _) ?_;go_wp2_with fail;have f:=(b9 w w).alloc bu (ab (lV ⟨⟨5,0,0,l.next%65536,[],0,0⟩,none,0⟩) 254);have d:=aP w (ab (lV ⟨⟨5,0,0,l.next%65536,[],0,0⟩,none,0⟩) 254);have i:=ad (show Ki w (w.alloc (ab (lV ⟨⟨5,0,0,l.next%65536,[],0,0⟩,none,0⟩) 254)) l ⟨⟨5,0,0,l.next%65536,[],0,0⟩,none,0⟩from⟨ql _,λ_ e=>by simp at e,by show _=oP l;unfold oP;rw[aD ar],f⟩);have c:=H.o.below f;have s:=F.o _ f;unfold lV at d i c s f;clear e4 eI dv gQ F;refine aS s λaF mv=>?_;rw[mv]at d i c f;clear s mv;generalize N:(⟨⟨5,0,0,l.next%65536,[],0,0⟩,none,0⟩:jo)=cx at *;have fr:aF.heap[w.heap.size]?=ab (lV cx) 254 (0,0):=d;clear N d;have d:=fr;clear fr
 rotate_left
 focus
  have s':(lx l.own).length=l.own.length:=by simp[lx]
  have zp:0<l.own.length:=tf.2 ar;have z:=λw' (T:Below w w w')=>yt (H.o.below T).own;rw[s']at z;have F:=ad z;clear z
  go_in
  go_wp2_with fail;refine bJ (uv _ _) ?_;go_wp2_with fail;have f:=(b9 w w).alloc bu (ab (lV ⟨⟨5,0,0,l.next%65536,[],0,0⟩,none,0⟩) 254);have d:=aP w (ab (lV ⟨⟨5,0,0,l.next%65536,[],0,0⟩,none,0⟩) 254);have c:=H.o.below f;have s:=F.o _ f;unfold lV at d c s f;simp only[gN]at d c s f;clear e4 eI dv gQ F;refine aS s λaq l'=>?_;rw[l']at d c f;clear s l';have eI:=c.eI;have dv:=c.dv;have vs:=lQ (S:=aH) (w:=aq.drew) (p:=ah B.p 6) eI id;have v':=lQ (S:=aH) (w:=aq.drew) (p:=ah B.p 7) dv id;go_wp2_with fail;refine cS 16 ?_;have se:aq.drew=aq.drewN 1:=rfl;refine hU (λ_=>False) [0,1,2,3,5,6,7,8,10] [4,9] 5 ?_;refine iU λK a=>?_;go_simp;refine bJ (uv _ _) ?_;refine a _ _ (dB (ag.refl _ _)) ?_;clear a K;refine lU λK a=>?_;go_simp;refine(abO (c.drew 1).own).mono ?_;rintro e j ⟨q,v,rfl,fo,Z,hd⟩;have R:ag aH aq.drew j:=ag.bU hd (λk h1 h2=>by rw[se]at h1;omega);refine a _ _ (dB (R)) ?_;clear a K;have G:ag aH aq j:=((ag.refl _ aq).drew).trans R;have L:=G.heap d id;have V:=c.keeps G (λ_ _=>id);have E:=f.trans (G.below f.size (λ_ _ x=>x));have f0:=bV L;have g0:=aX L;refine hU (λ_=>True) [] [11,12,13,14,15] 0 ?_;refine iU λK a=>?_;go_simp;refine a _ _ (dB ((ag.refl (λ_=>True) _).setCell trivial _)) ?_;clear a K;refine iU λK a=>?_;go_simp;refine a _ _ (dB ((ag.refl (λ_=>True) _).setCell trivial _)) ?_;clear a K;refine iU λK a=>?_;go_simp;refine a _ _ (dB (((ag.refl (λ_=>True) _).setCell trivial _).setCell trivial _)) ?_;clear a K;refine iU λK a=>?_;go_simp;refine a _ _ (dB (((ag.refl (λ_=>True) _).setCell trivial _).setCell trivial _)) ?_;clear a K;refine lU λK a=>?_;go_simp;refine a _ _ (dB ((((ag.refl (λ_=>True) _).setCell trivial _).setCell trivial _).setCell trivial _)) ?_;clear a K;refine kt ?_;have gf:=bX (bX (bX L 0 (aa 3)) 2 (c7 (l.du%65536))) 4 (au q l.own.length v)
  have M:ag (λb=>b=w) j (((j.setCell (ah w 0) (aa 3)).setCell (ah w 2) (c7 (l.du%65536))).setCell (ah w 4) (au q l.own.length v)):=
   ag.setCell (S:=λb=>b=w.heap.size) (ag.setCell (S:=λb=>b=w.heap.size) (ag.setCell (S:=λb=>b=w.heap.size) (ag.refl _ j) (p:=ah w 0) rfl _) (p:=ah w 2) rfl _) (p:=ah w 4) rfl _
  have Y:=X4 fo;have Q':aq<=j.heap.size:=G.size;have zd:w.heap.size<aq.heap.size:=bZ d;have a':∀ y,q=some y->aq.heap.size<=y.block:=Z
  have i:=ad (show Ki w (((j.setCell (ah w 0) (aa 3)).setCell (ah w 2) (c7 (l.du%65536))).setCell (ah w 4) (au q l.own.length v)) l ⟨⟨3,0,l.du%65536,l.next%65536,l.own,0,0⟩,q,v⟩from
   ⟨Y.keeps M (λ_ y e h=>by have:=a' y e;have h:y.block=w.heap.size:=h;omega),λy e=>by have:=a' y e;omega,by show _=oP l;unfold oP;rw[az ar],E.trans (M.below E.size a1)⟩)
  have W:=V.keeps M (λb al h=>by
   have h:b=w.heap.size:=h;rcases al with e|e|e|e|e<;>omega)
  change Exit.then _ _ _ _ (((j.setCell (ah w 0) (aa 3)).setCell (ah w 2) (c7 (l.du%65536))).setCell (ah w 4) (au q l.own.length v));clear f0 g0 L d V c M G R fo Z hd Y vs v' eI dv E f;generalize ((j.setCell (ah w 0) (aa 3)).setCell (ah w 2) (c7 (l.du%65536))).setCell (ah w 4) (au q l.own.length v)=aF at *;have c:=W;clear W;generalize N:(⟨⟨3,0,l.du%65536,l.next%65536,l.own,0,0⟩,q,v⟩:jo)=cx at *;have d:aF.heap[w.heap.size]?=ab (lV cx) 254 (0,0):=by rw[<-N];exact gf
  clear N gf
 rotate_left
 all_goals
  have TS:=aX d;have e4:=c.e4;have gQ:=c.gQ;have lb:=λn=>uv l.next (aF.drewN n);have sd:=ad lb;clear lb;have Tq:l.cA.tmod 8=l.cA%8:=oW aW.1;by_cases C:l.cA%8=0
  .refine dU;have vl:(l.cA%8 != 0)=false:=by simp[C]
   clear C;obtain⟨Q,t⟩:∃ Q,pG l lead=Q:=⟨_,rfl⟩;have r:=aeF l lead;refine xK;obtain⟨g,u⟩|⟨g,u⟩|⟨g,u⟩|⟨g,u⟩|⟨⟨g,g'⟩,u⟩:=r
   all_goals
    have X:=ad u;clear u;go_wp2_with fail;refine jE 10 bc bc ?_;simp only[lC,mL,lz,k2]
    repeat (go_big_quiet_step ((go_at_call 262;exact(sd.o _).mono λ_ _ h=>⟨h.1,_,h.2.symm⟩)))
    refine wpQuiet_nil ?_;intro _ ps;obtain⟨nq,r'⟩:=ps;subst r';go_wp2_with fail;go_ret;have P:=aP (aF.drewN nq) (ab (lk [cx,⟨Q,none,0⟩]).toArray 254);have hk:=((bd aF).drewN nq).alloc (ab (lk [cx,⟨Q,none,0⟩]).toArray 254);have E:=i.out.pk.trans (hk.below i.out.pk.size (λ_ _ x=>x));have u:=X.o;clear X;subst u;refine⟨⟨some (eo aF 0 db),2,[cx,⟨_,none,0⟩],rfl,⟨y8 P rfl (by unfold maxLen;show 2<=_;omega),?_,λy e=>by cases e;exact i.out.pk.size⟩,?_⟩,E⟩
    .refine IM;rcases ak with rfl|rfl
     .exact VC
     exact⟨ql _,λ_ e=>by simp at e⟩
    show [cx.m,_]=pS l _;unfold pS;rw[aD m'.o,i.out.is,D.o]
  refine dU;have vl:(l.cA%8 != 0)=true:=by simpa using C
  refine qW;go_ret;have P:=aP aF (ab (lk [cx]).toArray 254);have hk:=(bd aF).alloc (ab (lk [cx]).toArray 254);have E:=i.out.pk.trans (hk.below i.out.pk.size (λ_ _ x=>x));refine⟨⟨some (eo aF 0 db),1,[cx],rfl,⟨y8 P rfl (by unfold maxLen;show 1<=_;omega),?_,λy e=>by cases e;exact i.out.pk.size⟩,?_⟩,E⟩
  .refine IM;subst ak;exact VC
  show [cx.m]=pS l lead;unfold pS;rw[az m'.o,i.out.is]
section
variable{F:Fence}{n:J}{P:Program}{w w':aj}{ops:a6 Oper}{rest:ai Oper}{o:Oper}{a:Act}{Q:Exit->Act->aj->ae}{v p:ay}
def G0(hrun:(Instr.loadAt T p).run P w=.ok v w')(a7:o.guard=none)(ar:o.op=.load T x)(ak:a.eval x=p)(h:wpListIn F n P ops Q rest (a.put o.dst v) w'):wpListIn F n P ops Q (o :: rest) a w:=by
 refine Ht a7 λK b=>?_;unfold Oper.wpIn;refine⟨?_,?_⟩
 .simp[Oper.about,ar]
 refine IP;simp only[execOp,ar,ak,iO,hrun,iu,jm];exact b _ _ h
def B'{y:Operand}{u:ay}(hrun:(Instr.storeAt T p u).run P w=.ok () w')(a7:o.guard=none)(ar:o.op=.store T x y)(ak:a.eval x=p)(a8:a.eval y=u)(h:wpListIn F n P ops Q rest (a.put o.dst undef) w'):wpListIn F n P ops Q (o :: rest) a w:=by
 refine Ht a7 λK b=>?_;unfold Oper.wpIn;refine⟨?_,?_⟩
 .simp[Oper.about,ar]
 refine IP;simp only[execOp,ar,ak,a8,iO,hrun,iu,jm];exact b _ _ h
def B_(hrun:(Instr.alloc T true (aV #[])).run P w=.ok v w')(a7:o.guard=none)(ar:o.op=.alloc T)(h:wpListIn F n P ops Q rest (a.put o.dst v) w'):wpListIn F n P ops Q (o :: rest) a w:=by
 refine Ht a7 λK b=>?_;unfold Oper.wpIn;refine⟨?_,?_⟩
 .simp[Oper.about,ar]
 refine IP;simp only[execOp,ar,iO,hrun,iu,jm];exact b _ _ h
end
section
attribute [local go_sem] Oper.semAt_some
variable{w:aj}{B:j3}{l:cj}
def x_:ba:=⟨7,0,0,0,[],0,0⟩
def oz(l:cj):ba:=⟨1,l.cw,0,0,[],0,0⟩
def ns(l:cj)(lead:U):ai ba×cj:=
 if l.state=2 then(if l.kK then([x_],{l with kK:=false})else([],l))else(l.out++(if l.state=0 then [oz l]else pS l lead),{l with out:=[]})
def vI(w:aj)(B:j3)(l:cj)(lead:U)(e:Ending)(w':aj):ae:=
 (∃ A cap xs,e=.returned (au A xs.length cap)/\D4 w.heap.size w' A cap xs/\xs.map jo.m=(ns l lead).1)/\cW w' B (ns l lead).2/\ag B.S w w'
def abx:(prog.info? 254).map (λi=>(i.zero,i.size,i.bytes))=some (some (.agg (bG ba.zero)),7,56):=bc
def agy(h:cW w B l)(lead:U)(aA:l.state=2):aB 134 #[B.p,aa lead] w (vI w B l lead):=by
 have bB:=h.bB;have e3:=h.e3;have f3:=h.free 3;rw[aA]at bB;unfold vI ns;rw[aD aA];cases al:l.kK
 .rw[az aM];rw[al]at e3;refine kF;exact⟨⟨none,0,[],rfl,⟨ey.nil _ _,λx ak=>(by cases ak),λy e=>(by cases e)⟩,rfl⟩,h,ag.refl _ _⟩
 rw[aD rfl];rw[al]at e3;have b:=ad (h.set 3 (.bool false) {l with kK:=false} rfl rfl rfl);have a:=ad (ag.setCell (S:=B.S) (ag.refl _ w) (p:=ah B.p 3) (.inl rfl) (.bool false));refine kF;have D:(w.setCell (ah B.p 3) (.bool false)).heap.size=w.heap.size:=aM;have N:=aP (w.setCell (ah B.p 3) (.bool false)) (ab (lk [⟨x_,none,0⟩]).toArray 254);refine ed;refine⟨⟨some (eo w 0 db),1,[⟨x_,none,0⟩],rfl,⟨y8 N rfl (by unfold maxLen;show 1<=_;omega),?_,λy e=>by cases e;exact dm _⟩,rfl⟩,(b.o.below ((b9 _ (w.setCell (ah B.p 3) (.bool false))).alloc bu (ab (lk [⟨x_,none,0⟩]).toArray 254))),a.o.alloc _⟩;refine IM;subst ak;exact⟨ql _,λ_ e=>by simp at e⟩
def Yf(A:aj)(cs:a6 ay)(t:TypeId)(j:J)(u:ay)(h:cs.toList[j]?=some u):(A.alloc (ab cs t)).cell? (((ah A 0):Addr).add j)=some u:=by
 rw[iB,gM];exact bb (aP _ _) j0
def qk(xs:ai ba):ai ay:=xs.flatMap λm=>(bG m).toList
structure vK(w W:aj)(B:j3)(l:cj)(pre:ai ba):ae where
 row:∃ v,W.heap[w.heap.size]?=some (ab #[v] 250 (0,0))/\W.ownsRow (w.heap.size+4) 254 7 v pre.length (qk pre)
 bD:W.heap[w.heap.size+1]?=some (ab #[B.p] 60 (0,0))
 aJ:W.heap[B.p]?=some (ab (nd B l) 124 (0,0))
 dZ:k' W B.h1 B.d1 64 (lx l.own)
 fP:ag (λb=>b=B.h2\/b=B.d2) w W
 cK:w.heap.size+2<=W.heap.size
def vK.keep{w W':aj}{pre:ai ba}{S:J->ae}(h:vK w W B l pre)(hk:ag S W W')(d:cW w B l)(aA:∀ b,S b->b=B.h2\/b=B.d2\/(w.heap.size+2<=b/\b<=w.heap.size+3)):vK w W' B l pre:=by
 have m:=d.lt;have a:=d.ok.a;have i:=d.ok.b;have c:=d.ok.c;have⟨v,g,f⟩:=h.row;refine⟨⟨v,hk.heap g (λe=>sc),b7 f hk (λb al e=>by have:=(f.lt b al).1;have:=aA _ e;omega)⟩,hk.heap h.bD (λe=>sc),hk.heap h.aJ (λe=>sc),h.dZ.keeps hk (λe=>sc) (λe=>sc),?_,cu h.cK hk.size⟩;exact c1 h.fP hk (λk j e=>sc)
theorem P'{P:Program}{c:Code}{Q:Exit->Act->aj->ae}{a:Act}{w:aj}(h:c.wp P (λe a' w'=>e=Exit.normal/\Q .normal a' w') a w):c.wp P Q a w:=
 wp_mono h (λe a' w' ⟨b,d⟩=>by subst b;exact d)
def ZZ(L:ai ba)(h:∀ m∈L,m.bm=[]):lk (L.map λm=>(⟨m,none,0⟩:jo))=qk L:=by
 unfold lk qk
 induction L with
 | nil=>rfl
 | cons m L a=>
  rw[nz,jY,jY,a (λx ak=>h x (by simp[ak]))]
  congr 1
  simp[lV,bG,(h m aM)]
def OP{w aq:aj}{v:ay}{n:J}{ys:ai jo}{lead:U}(d:vK w W B l l.out)(j:jK W B.h2 B.d2 8 [])(f:cW w B l)(hk:ag (λk=>w.heap.size+3<k) W aq)(r:aq.ownsRow (w.heap.size+4) 254 7 v n (qk l.out++lk ys))(aw:n=l.out.length+ys.length)(mn:∀ m∈l.out,m.bm=[])(s:∀ x∈ys,dy aq x.a x.c x.m.bm/\∀ y,x.a=some y->w.heap.size+3<=y.block)(aA:ns l lead=(l.out++ys.map jo.m,{l with out:=[]}))(o:Obj):vI w B l lead (.returned v) (aq.putObj (w.heap.size+2) o):=by
 have t:=f.lt;have ao:ag (λk=>k=w+2) aq (aq.putObj (w.heap.size+2) o):=ag.putObj (S:=λk=>k=w.heap.size+2) (ag.refl _ aq) rfl _;obtain⟨A,cap,rfl,a_,al⟩:=dA r;have q:ag (λk=>w.heap.size+2=k\/w.heap.size+3<k) W (aq.putObj (w.heap.size+2) o):=(hk.mono λ_ _ h=>.inr h).trans (ao.mono λ_ _ h=>.inl h.symm);have p:cW W B {l with out:=[]}:=⟨d.aJ,d.dZ,j,f.ok⟩;unfold vI;rw[aA];refine⟨⟨A,cap,(l.out.map λm=>(⟨m,none,0⟩:jo))++ys,?_,⟨?_,?_,λy e=>by have:=(al y e).1;omega⟩,?_⟩,p.keeps q (λb g=>by rcases g with e|e|e|e|e<;>omega),?_⟩
 .rw[aw,cG,iP]
 .rw[cG,iP,<-aw,show lk ((l.out.map λm=>(⟨m,none,0⟩:jo))++ys)=qk l.out++lk ys by rw[<-ZZ _ mn];simp[lk]];exact a_.keeps ao (λ_ y e h=>by have:=(al y e).1;omega)
 .intro x ak;rcases gd.1 ak with ak|ak
  .obtain⟨m,hm,rfl⟩:=gO.1 ak;exact⟨by show dy _ none 0 m.bm;rw[mn m hm];exact ql _,λ_ e=>by simp at e⟩
  have⟨h1,h2⟩:=s x ak;exact⟨h1.keeps ao (λ_ y e h=>by have:=h2 y e;omega),λy e=>by have:=h2 y e;omega⟩
 .rw[k3,map_map]
  congr 1
  show l.out.map (λm=>m)=l.out;simp
 exact c1 (c1 (d.fP.mono (T:=B.S) λb _ h=>h.elim (λe=>.inr (.inr (.inr (.inl e)))) (λe=>.inr (.inr (.inr (.inr e))))) hk (λk i e=>I)) ao (λk i e=>I)
def agz(h:cW w B l)(lead:U)(aA:l.state≠2)(aW:0<=l.cA/\l.cA<=1099511627776)(mn:∀ m∈l.out,m.bm=[]):aB 134 #[B.p,aa lead] w (vI w B l lead):=by
 obtain⟨i0,av,s',vl,vs⟩:∃ i,prog.info? 254=some i/\i.zero=some (.agg (bG ba.zero))/\i.size=7/\i.bytes=56:=by
  have h:=abx;cases aT:prog.info? 254 with
  | none=>rw[aT]at h;cases h
  | some i=>rw[aT]at h;simp only[r7,jn,mM]at h;exact⟨i,rfl,h.1,h.2.1,h.2.2⟩
 have ajU:=h.lt;have se:=h.ok;have fr:=ad av;have bB:=h.bB;have H:=ad h;have akl:=h.out.le.1;refine(h0 (n:=0)).1 ?_;refine callsIn_of_wp_marks func134 rfl trivial ?_ rfl;simp only[ntmps134,iw,eA,gN,Nat.reduceAdd,Nat.reduceSub,uR,uS,u',uW,p2,l5];gi_wp2_with (fail);refine⟨trivial,rfl,h0.2 ((acD _ _).mono ?_)⟩;rintro e aF ⟨rfl,V⟩;gi_wp2_with (fail);have r:aF.heap.size=w.heap.size+2:=by rw[<-V];simp
 have ajS:ag aH w aF:=by rw[<-V];exact((ag.refl _ w).alloc _).alloc _
 have aj6:aF.heap[w.heap.size]?=some (ab #[au none 0 0] 250 (0,0)):=by rw[<-V];exact b2 (aP _ _) _
 have W':aF.heap[w.heap.size+1]?=some (ab #[B.p] 60 (0,0)):=by
  have:=aP (w.alloc (ab #[au none 0 0] 250)) (ab #[B.p] 60)
  rw[ft,V]at this;exact this
 have O:=H.out.keeps ajS (λ_ _=>id)
 refine ai3 (gf:=260) (lb:=#[.pointer (some (eo (w+1) 0 db))]) rfl (enters_of func260 bc rfl)
  (λ_=>rfl) l.out (λk=>k=w.heap.size\/w.heap.size+3<k) (λb=>b=B.h2\/b=B.d2) (λW=>jK W B.h2 B.d2 8 [])
  (aiM O.out O.fY (w.heap.size+1) (bb W' rfl) ⟨I,I⟩ ⟨I,I,se.a.2.2.1,se.a.2.2.2⟩ _ ⟨I,I,I,I⟩)
  (λX Y g T hk=>g.keeps hk I I)
  zH zH
  (λpre W=>vK w W B l pre)
  ?inv ?start
  (λpre x a' W=>∃ X,a'={tmps:=#[.pointer (some (eo B.p 0 db)),aa lead,undef,undef,au none 0 0,.pointer (some (eo w 0 db)),.pointer (some (eo X 0 db)),.pointer (some (eo B.p 0 db)),.pointer (some (eo B.p 0 db)),.pointer (some (eo B.p 2 db)),aa l.state,.bool false,undef,undef,undef,undef,undef,undef,undef,undef,undef,undef,.pointer (some (eo B.p 0 db)),.func (.func 260) #[] #[.pointer (some (eo (w+1) 0 db))],.agg (bG x),undef,undef,undef,undef,undef,undef,undef,undef,undef,undef,undef,undef,undef,undef,undef,undef,undef,undef,undef,undef,undef,undef],defers:=[]}/\w.heap.size+4<=X/\W.heap[X]?=some (ab (bG x) 254 (0,0))/\vK w W B l pre)
  ?ass ?assign ?body ?done
 case inv=>
  intro pre X Y g T hk;exact g.keep hk H.out (λb al=>by rw[r]at al;omega)
 case start=>exact⟨⟨_,aj6,il _ _ _ _⟩,W',O.bh,O.own,ajS.mono λ_ _ x=>x.elim,I⟩
 case ass=>
  rintro pre x a' A cV ⟨X,rfl,P,g,f⟩ T hk;exact⟨X,rfl,P,hk.heap g I,f.keep hk H.out a1⟩
 case assign=>
  intro l' pre x rest A K sd ak f T j;have g:=aP A (ab (bG ba.zero) 254);obtain⟨akd,_,aka⟩:=dT (A.alloc (ab (bG ba.zero) 254)) 254 7 A (bG x) _ sizeOf254 rfl rfl g (oC _);have P:=fb (A.alloc (ab (bG ba.zero) 254)) A _ (bG x) 254 g;have z:=c1 ((bd A).alloc (ab (bG ba.zero) 254)) aka a1;generalize (A.alloc (ab (bG ba.zero) 254)).setRow A (bG x)=zd at *;refine wpIn_region_lit ?_;simp only[zip_toArray,zip_cons_cons,zip_nil_right,foldl_toArray,r1,xd,dV];refine B_ (pj A) rfl rfl ?_;refine B' (p:=.pointer (some (eo A 0 db))) (u:=.agg (bG x)) akd rfl rfl rfl rfl ?_;refine Hs ?_;refine j _ _ ⟨A,rfl,I,P,f.keep z H.out (λb al=>al.elim)⟩ (z.mono λ_ _ x=>x.elim)
 case body=>
  rintro l' pre x rest a' A sd ak ⟨X,rfl,P,g,f⟩ T;obtain⟨v,C,c⟩:=f.row;have akn:pre.length+1<=8:=by
   have:=c6 length ak
   simp at this;omega
  have ajT:=wz g;have ajX:=kz C;have aki:=oU C;have H1:=ad C;have aj1:=ad f;have Hx:=ad ak;have akg:=ad sd;have q:=ad r;have akp:w.heap.size+4<=A.heap.size:=I;clear sd r;have aj5:=aP A (ab (bG x) 254);clear C f ak g;unfold bG at ajT aj5;have aj_:=Yf A (bG x) 254;have Q:=c.alloc (ab (bG x) 254);gi_wp2_with (first|(refine G0 ajT rfl rfl rfl ?_)|(gi_at_builtin;refine wpListIn_append_own _ rfl _ _ 250 rfl (w.heap.size+4) 254 i0 (.agg (bG ba.zero)) 7 56 underlying250 fr.out s' vl vs rfl bs _ _ _ rfl Q (ah A 0) 1 1 (bG x).toList rfl rfl aj_ (fJ.1 (oC x)) qU I b_ ?_;intro v' aq d s _;have aj':ag (λk=>k=w.heap.size\/w.heap.size+3<k) A aq:=((ag.refl _ A).alloc _).grown s (λk hk=>.inl (.inr zB));obtain⟨g',w',rfl⟩:=ownsRow_succ d;have h2:=(s.block w b_ (λe=>HZ)).trans (b2 H1.o _);have akh:=kz h2;have akj:=oU h2;have aj2:=ad h2;clear h2 s));have D:=aj'.setCell (p:=ah w 0) (.inl rfl) (au (some (eo g' 0 db)) (pre.length+1) w');have F:=aj1.o;refine⟨D,⟨⟨au (some (eo g' 0 db)) (pre.length+1) w',by simpa using bX aj2.out 0 _,?_⟩,D.heap F.bD I,D.heap F.aJ I,F.dZ.keeps D I I,c1 F.fP D a1,cu F.cK D.size⟩⟩;rw[cG,jG,show qk (pre++[x])=qk pre++(bG x).toList by simp[qk]];exact b7 d ((ag.refl (λk=>k=w) aq).setCell (p:=ah w 0) rfl _) (λb al h=>zA)
 rintro W f hd ake V';rw[r]at ake;have⟨v,C,c⟩:=f.row;have ps:cW W B {l with out:=[]}:=⟨f.aJ,f.dZ,hd,se⟩;have ajX:=kz C;have bB:=ps.bB;have zp:=ad f;have b5:=ad hd;have Q':=ad ps;have q:=ad r;have fo:=ad V';have akq:=f.cK;have Tq:=ad mn;clear C f ps hd r V' mn;have akk:w.heap.size+2<W.heap.size:=by
  have:=bZ fo.o
  rw[q.o]at this;exact this
 by_cases R:l.state=0
 .have m':=ad (show ns l lead=(l.out++[(⟨oz l,none,0⟩:jo)].map jo.m,{l with out:=[]})by unfold ns;rw[az aA,aD R];rfl);rw[R]at bB;gi_wp2_with (fail);refine(Cn (n:=0)).2 (P' ?_);have akc:=ajU;have z0:=lQ (S:=λk=>w.heap.size+3<k) (w:=W.drew) (p:=ah B.p 0) Q'.o.bw (by show ¬ w.heap.size+3<B.p;omega);refine Rh;have N:=b7 c ((bd W).drew) (λ_ _=>id);have Q:=N.alloc (ab (bG (oz l)) 254);have T':=aP W.drew (ab (bG (oz l)) 254);have ajR:ag aH W.drew (W.drew.alloc (ab (bG (oz l)) 254)):=(ag.refl _ _).alloc _;have ajW:ey (W.drew.alloc (ab (bG (oz l)) 254)) 7 (some (eo W 0 db)) 1 1 (bG (oz l)).toList:=y8 (t:=254) T' rfl k6;have TS:=fJ.1 (oC (oz l));refine cS 9 ?_;refine hU (λk=>w.heap.size+3<k) (.range 6) [6,7,8] 0 ?_;refine kr (dB (ajR.mono λ_ _ x=>x.elim)) ?_;refine iU λK j=>?_;refine G6 _ _ _ 250 rfl (w.heap.size+4) 254 i0 (.agg (bG ba.zero)) 7 56 underlying250 fr.out s' vl vs rfl I v l.out.length (qk l.out) rfl Q (some (eo W 0 db)) 1 1 _ rfl ajW TS qU I b_ ?_;intro v' aq d s _;simp only[Act.put,dV];have L:ag (λk=>w.heap.size+3<k) W.drew aq:=(ajR.mono λ_ _ x=>x.elim).grown s (λk hk=>.inl zB);have M:ag (λk=>w.heap.size+3<k) W aq:=((ag.refl _ W).drew).trans L;refine j _ _ (dB (L)) ?_;clear j K;refine qq (dB (L)) ?_;refine kt ?_;refine⟨rfl,?_⟩;have Z:=M.heap fo.o (by rw[q.o];omega);rw[q.o]at Z;have G:=λo=>OP (v:=v') (lead:=lead) (ys:=[⟨oz l,none,0⟩]) zp.o b5.o H.out M d rfl Tq.o (λx ak=>by
   simp only[fW,CF,or_false]at ak;subst ak;exact⟨ql _,λ_ e=>by simp at e⟩) m'.o o
  have ajZ:=ad G;rw[q.o];clear G d Q N ajW T' TS z0 ajY;exact Ri
 have m':=ad (show ns l lead=(l.out++pS l lead,{l with out:=[]})by unfold ns;rw[az aA,az R]);have bR:(l.state == 0)=false:=by rw[ep];exact R
 gi_wp2_with (fail);refine(Cn (n:=0)).2 (P' ?_);have akc:=ajU;refine Rh;have aj7:=acC (Q'.o.drew 1) lead aW;refine cS 6 ?_;refine hU (λk=>w.heap.size+3<k) [0,1,2] [3,4,5] 0 ?_;refine iU λK j=>?_;go_simp;refine aj7.mono ?_;rintro e E ⟨⟨zd,aj3,ys,rfl,mv,aj0⟩,aj9⟩;have z:ag aH W.drew E:=ag.bU aj9 (λk h1 h2=>by have h1:k<W.heap.size:=h1;have h2:W.heap.size<=k:=h2;omega);refine j _ _ (dB (z.mono λ_ _ x=>x.elim)) ?_;clear j K;refine iU λK j=>?_;have N:=b7 c (((bd W).drew).trans z) (λ_ _=>id);have akm:0<ys.length:=by
  exact Rp
 have akr:ys.length<=2:=by
  exact Rp
 have ajV:∀ u∈lk ys,u.oneCell'=true:=by
  intro u hu;unfold lk at hu;have⟨x,_,ak⟩:=xg.1 hu;have aj8:(lV x).toList.all (λv=>v.oneCell')=true:=bc;exact fJ.1 aj8 u ak
 have ako:W.heap.size<=E.heap.size:=z.size;refine G6 _ _ _ 250 rfl (w.heap.size+4) 254 i0 (.agg (bG ba.zero)) 7 56 underlying250 fr.out s' vl vs rfl I v l.out.length (qk l.out) rfl N zd ys.length aj3 _ rfl mv.bC ajV qU I I ?_;intro v' aq d s _;simp only[Act.put,dV];have L:ag (λk=>w.heap.size+3<k) E aq:=(ag.refl _ E).grown s (λk hk=>.inl zB);have akb:ag (λk=>k<W.heap.size) E aq:=(ag.refl _ E).grown s (λk hk=>.inl (c.lt k hk).2);have r':ag (λk=>w.heap.size+3<k) W.drew aq:=(z.mono λ_ _ x=>x.elim).trans L;refine j _ _ (dB (r')) ?_;clear j K;refine qq (dB (r')) ?_;refine kt ?_;refine⟨rfl,?_⟩;have M:ag (λk=>w.heap.size+3<k) W aq:=((ag.refl _ W).drew).trans r';have Z:=M.heap fo.out (by rw[q.out];omega);rw[q.out]at Z;have G:=λo=>OP (v:=v') (lead:=lead) (ys:=ys) zp.out b5.out H.out M d rfl Tq.out (λx ak=>by
  obtain⟨h1,h2⟩:=mv.bm x ak;exact⟨h1.keeps akb (λ_ y e h=>by have aj4:W.heap.size<=y.block:=h2 y e;have h:y.block<W.heap.size:=h;omega),λy e=>by have aj4:W.heap.size<=y.block:=h2 y e;omega⟩) (by rw[aj0];exact m'.out) o
 have ajZ:=ad G;rw[q.out];clear G d N ajY mv ajV;exact Ri
def acA(h:cW w B l)(lead:U)(aW:0<=l.cA/\l.cA<=1099511627776)(mn:∀ m∈l.out,m.bm=[]):aB 134 #[B.p,aa lead] w (vI w B l lead):=by
 by_cases aA:l.state=2
 .exact agy h lead aA
 exact agz h lead aA aW mn
end
end Go.Proofs.YtalagblioepadaaGreatDoor
