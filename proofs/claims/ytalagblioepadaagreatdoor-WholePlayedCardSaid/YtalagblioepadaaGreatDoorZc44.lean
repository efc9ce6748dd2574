/- The proof, part 44. -/
import Derived.Test.YtalagblioepadaaGreatDoorZc43
import Derived.Test.YtalagblioepadaaGreatDoorZc27
import Derived.Test.YtalagblioepadaaGreatDoorZc42
namespace Go.Proofs.YtalagblioepadaaGreatDoor
set_option linter.all false
open Proofs.Tryz List Go.RowKit Go.Maps
set_option maxRecDepth 100000
set_option maxHeartbeats 1000000
def Ng{p:ak}(h:p:=by
 refine ew 11 λK b=>?_;go_simp;refine aU (r.o _ f) λao d=>?_;have i:=n.o _ _ f d;refine b _ _ (i) ?_;refine dC (i) [12,13,14] 2 ?_;obtain⟨D,_,l⟩:=dP ao 99 60 bk.heap.size (bn v) _ sizeOf99 (eg _) (eg _) (d.heap (aX bk (ae (bn cf) 99)) id) (fg.2 (n9 v));have B:=n4 (fl ao bk.heap.size _ (bn v) 99 (d.heap (aX bk (ae (bn cf) 99)) id));have ar:w.heap.size<bk.heap.size:=by first|omega|(have:=d.size;omega)
 have q:=Q.o _ _ i (l.mono λ_ _ e=>U);have z:=l.heap (d.heap (cm R (ae (bn cf) 99)) id) U;have G:=cL ((S.alloc (ae (bn cf) 99)).trans d) l a7;generalize World.setRow ao bk.heap.size (bn v)=M at *;obtain⟨E,C,A⟩:=dP M 99 60 w.heap.size (bn v) _ sizeOf99 (eg _) (eg _) z (fg.2 (n9 v));have H:=cL G A a7;refine q2 16 q (nu rfl rfl rfl D) ?_;simp only[Act.put];refine h_ 17 q ?_;go_wp2_with first|refine dp B rfl rfl rfl ?_|refine c8 E rfl rfl rfl rfl ?_
 refine dq (v:=.agg (bn v)) C ?_;exact⟨rfl,H⟩
 ):p:=h
def M6{p:ak}(h:p:=by
 go_wp2_with fail;go_quiet (first|(go_at_call 93;first|exact Calls.quiet_of (a.o _)|exact iK (a.o _))|(go_at_call 215;first|exact Calls.quiet_of (nc (f.o _))|exact iK (nc (f.o _))));go_wp2;go_ret;exact⟨bT,_,rfl⟩
 ):p:=h
def Mi{p:ak}(h:p:=by
 rcases a with a|a
 .exact .inl (.inl a)
 exact(g j a).imp .inr id
 ):p:=h
section
def ay.ld(B:dF)(s:cD):ay:=⟨B.S,λw=>IsLd w B s,λh aj=>h.lt aj,λh hk av=>h.keeps hk av⟩
def ay.fe(b:J)(n:aa)(c6:ax):ay where
 S j:=j=b\/c6.ownBlock=some j
 P w:=∃ bQ,kL w b n c6 bQ
 lt:=λ⟨_,h⟩ a=>a.elim (λe=>e▸bP h.hd) λe=>o' h.row e
 frame:=λ⟨bQ,h⟩ hk av=>⟨bQ,hk.heap h.hd (av _ (.inl rfl)),b4 h.row hk λj a=>av j (.inr a),h.fQ⟩
def ay.dU(b:J)(dg:ax):ay where
 S j:=j=b\/dg.ownBlock=some j
 P w:=∃ ps,lr w b dg ps
 lt:=λ⟨_,h⟩ a=>a.elim (λe=>e▸bP h.hd) λe=>o' h.row e
 frame:=λ⟨bQ,h⟩ hk av=>⟨bQ,hk.heap h.hd (av _ (.inl rfl)),b4 h.row hk λj a=>av j (.inr a),h.fQ⟩
def ay.dS(b:J):ay where
 S j:=j=b
 P w:=rM w b
 lt:=λ⟨_,_,_,_,_,h⟩ c=>by subst c;exact bP h
 frame:=λ⟨x,y,z,u,a,h⟩ hk av=>⟨x,y,z,u,a,hk.heap h (av b rfl)⟩
def mz(M:ah (aa×aa)):ah (aa×ax):=M.map λp=>(p.1,aP p.2)
def IsSm(w:ai)(b:J)(M:ah (aa×aa)):ak:=RMap w r4 b (mz M)/\∀ p∈M,0<=p.1/\p.1<2147483648
def ay.iw(b:J)(M:ah (aa×aa)):ay where
 S j:=j=b
 P w:=IsSm w b M
 lt h e:=by subst e;exact h.1.lt
 frame h hk av:=⟨h.1.keeps hk (av b rfl),h.2⟩
def ay.cR(v:ax)(l:ah ca):ay where
 S j:=v.ownBlock=some j
 P w:=w.ownsRow 0 47 12 v l.length (ep l)
 lt h a:=o' h a
 frame h hk av:=b4 h hk av
def ay.out(o:J)(v sd:ax)(m:aY)(l:ah ca):ay where
 S j:=j=o\/v.ownBlock=some j
 P w:=w.heap[o]?=some (ae #[v,sd,.bool m] 35 (0,0))/\w.ownsRow 0 47 12 v l.length (ep l)
 lt h a:=a.elim (λe=>e▸bP h.1) λe=>o' h.2 e
 frame h hk av:=⟨hk.heap h.1 (av _ (.inl rfl)),b4 h.2 hk λj a=>av j (.inr a)⟩
structure Old where
 bl:J
 w:ai
def ay.kinds(eC:Old):ay where
 S j:=j<eC.bl
 P w:=kM w/\Below eC.bl eC.w w/\0<eC.bl/\eC.bl<=eC.w.heap.size
 lt h e:=l7 e (b7 h.2.2.2 h.2.1.size)
 frame h hk av:=⟨h.1.keep hk (av 0 h.2.2.1),h.2.1.trans (hk.below (b7 h.2.2.2 h.2.1.size) λk h1 h2=>av k h1 h2),h.2.2⟩
structure ga where
 p:J
 c:f'
 L:iB
 lb:J
 db:J
 hn:J
 fe:J
 dU:J
 dS:J
 du:J
 wt:J
structure gq where
 M:ah (aa×ax)
 cw:aa
 c6:ax
 dg:ax
 mw:aa
def oZ(b:ga)(s:bJ)(n:aa):a6 ax:=#[b.c.c,b.L.p,b.lb,b.fe,b.dU,b.dS,.map (some b.du),.map (some b.wt),I s.ct,.bool s.b1,I s.reason,I n]
def bC(b:ga)(s:bJ)(d:gq):ah ay:=[ay.bc b.p (oZ b s d.mw,114),ay.core b.c s.x,ay.link b.L s.aE,ay.ld ⟨b.lb,b.db,b.hn,d.M⟩ s.ld,ay.fe b.fe d.cw d.c6,ay.dU b.dU d.dg,ay.dS b.dS,ay.iw b.du s.own,ay.iw b.wt s.wt]
def fo(w:ai)(b:ga)(p:cl)(o:J)(sd:ax)(m:aY)(R:ah ay):ak:=∃ d v,Sep w (bC b p.1 d++ay.out o v sd m p.2 :: R)
namespace Sep
variable{w w':ai}{L xo:ah ay}
theorem perm(h:Sep w L)(au:L.Perm xo):Sep w xo:=⟨λr a=>h.all r (au.mem_iff.2 a),h.apart.perm au λh=>h.symm⟩
def sub(h:Sep w L)(au:xo.Sublist L):Sep w xo:=⟨λr a=>h.all r (au.subset a),h.apart.sublist au⟩
def y5{T:J->ak}(h:Sep w L)(i:J){r r' q:ay}(aw:L[i]?=some r)(hk:Keeps T w w')(e:∀ b,b<w.heap.size->T b->r.S b)(d:r'.P w')(an:∀ b,r'.S b->r.S b\/w.heap.size<=b)(f:q.P w')(ar:∀ b,q.S b->w.heap.size<=b)(bd:rK q r'):Sep w' (q :: L.set i r'):=by
 have h2:=h.set i aw hk e d an;refine⟨λs av=>?_,jg.2 ⟨λs av b a c=>?_,h2.apart⟩⟩
 .rcases e6.1 av with rfl|av
  .exact f
  exact h2.all s av
 rcases w3 av with av|rfl
 .have:=h.lt av c
  have:=ar b a
  omega
 exact bd b a c
def iI{A B:ah ay}{r:ay}(h:Sep w (r :: (A++B))):Sep w (A++r :: B):=h.perm qq.symm
def q1{A B:ah ay}{r q:ay}(h:Sep w (r :: (A++q :: B))):Sep w (A++q :: r :: B):=h.perm (qq.symm.trans ((Perm.swap q r B).append_left A))
def Yr{A B:ah ay}{r:ay}(h:Sep w (A++r :: B)):Sep w (A++B):=h.sub ((sublist_cons_self r B).append_left A)
def qe{A B:ah ay}{r q:ay}(h:Sep w (A++q :: r :: B)):Sep w (A++q :: B):=h.sub (((sublist_cons_self r B).cons_cons q).append_left A)
end Sep
section
variable{w w':ai}{b:ga}{s:bJ}{p:cl}{o:J}{sd:ax}{m:aY}{R:ah ay}{d:gq}{A:ah ay}
def A_(h:Sep w (bC b s d++R)):w.heap[b.p]?=some (ae (oZ b s d.mw) 114 (0,0)):=h.at' 0 rfl
def hz(h:Sep w (bC b s d++R)):IsCore w b.c s.x:=h.at' 1 rfl
def mR(h:Sep w (bC b s d++R)):IsLink w b.L s.aE:=h.at' 2 rfl
def o1(h:Sep w (bC b s d++R)):IsLd w ⟨b.lb,b.db,b.hn,d.M⟩ s.ld:=h.at' 3 rfl
def Bc(h:Sep w (bC b s d++R)):∃ bQ,kL w b.fe d.cw d.c6 bQ:=h.at' 4 rfl
def Bb(h:Sep w (bC b s d++R)):∃ ps,lr w b.dU d.dg ps:=h.at' 5 rfl
def Ha(h:Sep w (bC b s d++R)):rM w b.dS:=h.at' 6 rfl
def Bf(h:Sep w (bC b s d++R)):IsSm w b.du s.own:=h.at' 7 rfl
def vO(h:Sep w (bC b s d++R)):IsSm w b.wt s.wt:=h.at' 8 rfl
def mQ(h:Sep w (bC b s d++R))(k:J){v:ax}(aW:(oZ b s d.mw)[k]?=some v):w.cell? (ad b.p k ab)=some v:=bb (A_ h) aW
def lE(h:Sep w (bC b s d++R)):w.cell? (ad b.p 0 ab)=some (.pointer (some (ad b.c.c 0 ab))):=mQ h 0 rfl
def o0(h:Sep w (bC b s d++R)):w.cell? (ad b.p 1 ab)=some (.pointer (some (ad b.L.p 0 ab))):=mQ h 1 rfl
def tF(h:Sep w (bC b s d++R)):w.cell? (ad b.p 2 ab)=some (.pointer (some (ad b.lb 0 ab))):=mQ h 2 rfl
def vN(h:Sep w (bC b s d++R)):w.cell? (ad b.p 3 ab)=some (.pointer (some (ad b.fe 0 ab))):=mQ h 3 rfl
def tG(h:Sep w (bC b s d++R)):w.cell? (ad b.p 4 ab)=some (.pointer (some (ad b.dU 0 ab))):=mQ h 4 rfl
def G_(h:Sep w (bC b s d++R)):w.cell? (ad b.p 5 ab)=some (.pointer (some (ad b.dS 0 ab))):=mQ h 5 rfl
def A'(h:Sep w (bC b s d++R)):w.cell? (ad b.p 6 ab)=some (.map (some b.du)):=mQ h 6 rfl
def Ba(h:Sep w (bC b s d++R)):w.cell? (ad b.p 7 ab)=some (.map (some b.wt)):=mQ h 7 rfl
def G'(h:Sep w (bC b s d++R)):w.cell? (ad b.p 8 ab)=some (I s.ct):=mQ h 8 rfl
def pR(h:Sep w (bC b s d++R)):w.cell? (ad b.p 9 ab)=some (.bool s.b1):=mQ h 9 rfl
def G9(h:Sep w (bC b s d++R)):w.cell? (ad b.p 10 ab)=some (I s.reason):=mQ h 10 rfl
def Q9(h:Sep w (bC b s d++R)):w.cell? (ad b.p 11 ab)=some (I d.mw):=mQ h 11 rfl
def x9(h:Sep w (bC b s d++R))(k:J):w.frozen? (ad b.p k ab)=false:=fx (A_ h) k
theorem x_(h:Sep w (bC b s d++R)){x:ck}(a:IsCore w' b.c x)(hk:Keeps b.c.S w w'):Sep w' (bC b {s with x:=x} d++R):=
 h.set 1 (r':=ay.core b.c x) rfl hk (λ_ _ h=>h) a (λ_ h=>.inl h)
theorem x'(h:Sep w (bC b s d++R)){l:b9}(a:IsLink w' b.L l)(hk:Keeps b.L.S w w'):Sep w' (bC b {s with aE:=l} d++R):=
 h.set 2 (r':=ay.link b.L l) rfl hk (λ_ _ h=>h) a (λ_ h=>.inl h)
def Bg(h:Sep w (bC b s d++R)){jD:dF}{s':cD}{v:ax}{l:ah ca}(g:xp w ⟨b.lb,b.db,b.hn,d.M⟩ w' jD s')(aW:w'.ownsRow w.heap.size 47 12 v l.length (ep l))(ar:∀ j,v.ownBlock=some j->¬ jD.S j):Sep w' (ay.cR v l :: (bC b {s with ld:=s'} {d with M:=jD.M}++R)):=by
 obtain⟨h1,a,c,e,h2,f⟩:=g;obtain⟨bO,k,m,M⟩:=jD;subst a c e;exact h.y5 3 (r':=ay.ld ⟨b.lb,b.db,b.hn,M⟩ s') (q:=ay.cR v l) rfl f (λ_ _ h=>h) h1 h2 (kB aW (c' _)) (λj i=>(aW.lt j i).1) ar
def Rc(h:Sep w (bC b s d++R))(e:iz w b.dU d.dg w'):∃ dg,Sep w' (bC b s {d with dg:=dg}++R):=by
 obtain⟨c6,bQ,h1,h2,c⟩:=e;exact⟨c6,h.set 5 (r':=ay.dU b.dU c6) rfl h2 (λ_ _ h=>h) ⟨bQ,h1⟩ λj a=>by
  rcases a with a|a
  .exact .inl (.inl a)
  .exact(c j a).imp .inr id⟩
theorem Hb(h:Sep w (bC b s d++R))(a:rM w' b.dS)(hk:Keeps (λj=>j=b.dS) w w'):Sep w' (bC b s d++R):=
 h.set 6 (r':=ay.dS b.dS) rfl hk (λ_ _ h=>h) a (λ_ h=>.inl h)
theorem Hd(h:Sep w (bC b s d++R)){M:ah (aa×aa)}(a:IsSm w' b.du M)(hk:Keeps (λj=>j=b.du) w w'):Sep w' (bC b {s with own:=M} d++R):=
 h.set 7 (r':=ay.iw b.du M) rfl hk (λ_ _ h=>h) a (λ_ h=>.inl h)
theorem He(h:Sep w (bC b s d++R)){M:ah (aa×aa)}(a:IsSm w' b.wt M)(hk:Keeps (λj=>j=b.wt) w w'):Sep w' (bC b {s with wt:=M} d++R):=
 h.set 8 (r':=ay.iw b.wt M) rfl hk (λ_ _ h=>h) a (λ_ h=>.inl h)
def x8(h:Sep w (bC b s d++R)){s':bJ}{n:aa}(k:J)(v:ax)(aW:(oZ b s d.mw).setIfInBounds k v=oZ b s' n)(h1:s'.x=s.x)(h2:s'.aE=s.aE)(a:s'.ld=s.ld)(c:s'.own=s.own)(e:s'.wt=s.wt):Sep (w.setCell (ad b.p k ab) v) (bC b s' {d with mw:=n}++R):=by
 have:=h.set (w':=w.setCell (ad b.p k ab) v) 0 (r':=ay.bc b.p (oZ b s' n,114)) rfl (Keeps.setCell (S:=λj=>j=b.p) (Keeps.refl _ w) rfl _) (λ_ _ h=>h) (by have:=bV (A_ h) k v;rw[aW]at this;exact this) (λ_ h=>.inl h)
 simpa[bC,h1,h2,a,c,e]using this
end
section
variable{w w':ai}{b:ga}{p:cl}{o:J}{v sd:ax}{m:aY}{R:ah ay}{d:gq}
def ko(h:Sep w (bC b p.1 d++ay.out o v sd m p.2 :: R)):w.heap[o]?=some (ae #[v,sd,.bool m] 35 (0,0))/\w.ownsRow 0 47 12 v p.2.length (ep p.2):=h.at' 9 rfl
theorem Bh(h:Sep w (bC b p.1 d++ay.out o v sd m p.2 :: R)){v' sd':ax}{m':aY}{l:ah ca}(c:w'.heap[o]?=some (ae #[v',sd',.bool m'] 35 (0,0))/\w'.ownsRow 0 47 12 v' l.length (ep l))(hk:Keeps (λj=>j=o\/v.ownBlock=some j) w w')(an:∀ j,v'.ownBlock=some j->j=o\/v.ownBlock=some j\/w.heap.size<=j):Sep w' (bC b p.1 d++ay.out o v' sd' m' l :: R):=
 h.set 9 (r':=ay.out o v' sd' m' l) rfl hk (λ_ _ h=>h) c λj a=>by
  rcases a with a|a
  .exact .inl (.inl a)
  rcases an j a with e|e|e
  .exact .inl (.inl e)
  .exact .inl (.inr e)
  exact .inr e
end
end
variable{w w':ai}{b:ga}{s:bJ}{R:ah ay}{d:gq}
def RI{p:J}{s:f'}{x:ck}{F:ai->ak}(h:F w)(b:∀ W W',F W->Keeps (λj=>w.heap.size<=j) W W'->F W')(V:∀ W,F W->W.cell? (ad p 0 ab)=some (.pointer (some (ad s.c 0 ab))))(u:∀ W,F W->IsCore W s x)(v:J->aa)(T:gQ x.L (x.now:aa)=some v):aA 137 #[p] w λe w'=>e=.returned (.agg (bn v))/\Keeps aI w w':=by
 have O:=aX w (ae (bn cf) 99);have P:=(ba w).alloc (ae (bn cf) 99);have y:∀ W W',F W->Keeps aI W W'->F W':=λW W' a k=>b W W' a (k.mono λ_ _ e=>e.elim);have X:=(u _ h).gH;have Q:=af b;have n:=af y
 go_in
 go_wp2_with refine d_ (lV w) rfl rfl ?_
 generalize w.alloc (ae (bn cf) 99)=bk at *;have g:=y _ _ (y _ _ h P) (Keeps.refl _ bk).drew;have Z:∀ x:bp F,x.to.cell? (ad p 0 ab)=some (.pointer (some (ad s.c 0 ab))):=λx=>V _ x.held;have N:=af (λ(W:ai) (t:F W)=>vA (u W t));have r:=af (λ(W:ai) (t:F W)=>Ga (u W t) (x.now:aa) U);rw[T]at r;simp only[hX,pv]at r;have R:bk.drew.heap[w.heap.size]?=some (ae (bn cf) 99 (0,0)):=O;have S:=P.drew;have Y:w.heap.size<bk.drew.heap.size:=bP O;simp only[Act.put,c7];refine cH 18 ?_;refine cI (F) (.range 18) 0 18 ?_;refine dC (g) (.range 10) 8 ?_;generalize bk.drew=bk at *;refine r3 (m:=7) 10 15 #[true,true,true,true,true,true,true,true,true,true,true,false,false,false,false,false,false,false] #[true,true,true,true,true,true,true,true,true,true,false,false,false,false,false,true,false,false] aH aH aH aH aH aH aH gp gp (λK b=>?_) (λK b=>?_)
 all_goals simp only[dm,hf]
 .go_simp;refine bA (N.o _ g) ?_;refine b _ _ (g) ?_;refine r3 (m:=6) 11 15 #[true,true,true,true,true,true,true,true,true,true,true,true,false,false,false,false,false,false] #[true,true,true,true,true,true,true,true,true,true,true,false,false,false,false,true,false,false] aH aH aH aH aH aH aH gp gp (λK b=>?_) (λK b=>?_)
  all_goals simp only[dm,hf]
  .go_simp;refine aU (r.o _ g) λao d=>?_;have i:=n.o _ _ g d;refine b _ _ (i) ?_;refine dC (i) [12,13,14] 3 ?_;have f:=n.o _ _ i ((Keeps.refl _ ao).alloc (ae (bn cf) 99));refine q2 15 f (qi rfl (lV _)) ?_;simp only[Act.put,c7];obtain⟨D,_,l⟩:=dP (ao.alloc (ae (bn cf) 99)) 99 60 ao.heap.size (bn v) _ sizeOf99 (eg _) (eg _) (aX ao (ae (bn cf) 99)) (fg.2 (n9 v));have B:=n4 (fl (ao.alloc (ae (bn cf) 99)) ao.heap.size _ (bn v) 99 (aX ao (ae (bn cf) 99)));have ar:w.heap.size<ao.heap.size:=by first|omega|(have:=d.size;omega)
   have q:=Q.o _ _ f (l.mono λ_ _ e=>U);have z:=l.heap (cm (d.heap R id) (ae (bn cf) 99)) U;have G:=cL ((S.trans d).alloc (ae (bn cf) 99)) l a7;generalize World.setRow (ao.alloc (ae (bn cf) 99)) ao.heap.size (bn v)=M at *;obtain⟨E,C,A⟩:=dP M 99 60 w.heap.size (bn v) _ sizeOf99 (eg _) (eg _) z (fg.2 (n9 v));have H:=cL G A a7;refine q2 16 q (nu rfl rfl rfl D) ?_;simp only[Act.put];refine h_ 17 q ?_;go_wp2_with first|refine dp B rfl rfl rfl ?_|refine c8 E rfl rfl rfl rfl ?_
   refine dq (v:=.agg (bn v)) C ?_;exact⟨rfl,H⟩
  have f:=n.o _ _ g ((Keeps.refl _ bk).alloc (ae (bn cf) 99));refine qi rfl (lV _) ?_;refine b _ _ (f) ?_;simp only[Act.put,c7];exact Ng
 have f:=n.o _ _ g ((Keeps.refl _ bk).alloc (ae (bn cf) 99));refine qi rfl (lV _) ?_;refine b _ _ (f) ?_;simp only[Act.put,c7];refine ew 10 λK b=>?_;go_simp;refine bA (N.o _ f) ?_;refine b _ _ (f) ?_;exact Ng
def WO{L:ah ay}(h:Sep w L):∀ W W',Sep W L->Keeps (λj=>w.heap.size<=j) W W'->Sep W' L:=λ_ _ a k=>a.keeps k λr c j b e=>by have:=h.lt c b;omega
def HB(h:Sep w (bC b s d++R)):aA 93 #[b.p] w λe w'=>e=.returned (I (h8 s))/\∃ q,w'=w.drewN q:=by
 have ar:=(hz h).gH;have aT:=af (λn=>vA ((hz h).drew n));have a:=af (λn=>Py ((hz h).drew n));have bt:=lE h;have aj:=(hz h).dG (1-s.x.aL) U;unfold h8 bN fv;generalize (s.x.f (1-s.x.aL)).next=dG at *;generalize s.x.now=gH at *
 go_in
 go_wp2_with fail;go_quiet (first|(go_at_call 22;first|exact Calls.quiet_of (nc (aT.o _))|exact iK (nc (aT.o _)))|(go_at_call 156;first|exact Calls.quiet_of (a.o _)|exact iK (a.o _)));go_wp2;go_ret;exact⟨rfl,_,rfl⟩
def RO(h:Sep w (bC b s d++R))(l:-1000<=s.ct/\s.ct<=1000)(aO:0<=s.aE.b_/\s.aE.b_<=1000000):aA 143 #[b.p] w λe w'=>e=.returned (.bool (sD s))/\∃ q,w'=w.drewN q:=by
 have ar:=(hz h).gH;have aj:=(hz h).dG (1-s.x.aL) U;have a:=af (λn=>HB (h.drew n));have f:=af (λn=>Td ((mR h).drew n));have bY:=o0 h;have fy:=G' h;have j:IntKind.i64.wrap (h8 s-s.ct)=h8 s-s.ct:=ev _ (by unfold h8 bN fv;omega);have k:IntKind.i64.wrap (Int.tmod s.aE.b_ 2)=s.aE.b_%2:=by rw[oA aO.1];exact ev _ U
 unfold sD;generalize h8 s=ld at *;generalize s.ct=ct at *;generalize s.aE.b_=ot at *;by_cases al:4<ld-ct
 .have g:=ee al;have i:decide (ot%2=1)=(ot%2 == 1):=by by_cases c:ot%2=1<;>simp[c]
  rw[i]
  go_in
  exact M6
 have g:=dd al
 go_in
 exact M6
def j3(s:bJ):ak:=∃ v,gQ s.x.L (s.x.now:aa)=some v/\∀ k,k<2->bj (v (4+10*k))/\bj (v (4+10*k+1))
def V7(v:J->aa)(w:ai):(Instr.field 99 (.agg (bn v)) 4).run prog w=.ok (.agg (p7 v)) w:=aH
def V5(v:J->aa)(w:ai):(Instr.field 93 (.agg (uf v 4)) 0).run prog w=.ok (aQ #[ag (v 4),ag (v 5)]) w:=aH
def V6(v:J->aa)(w:ai):(Instr.field 93 (.agg (uf v 14)) 0).run prog w=.ok (aQ #[ag (v 14),ag (v 15)]) w:=aH
theorem Bs(h:Sep w (bC b s d++R))(v:J->aa)(a:gQ s.x.L (s.x.now:aa)=some v):aA 137 #[b.p] w λe w'=>e=.returned (.agg (bn v))/\Keeps aI w w':=
 RI (F:=λW=>Sep W (bC b s d++R)) h (WO h) (λ_ h=>lE h) (λ_ h=>hz h) v a
def RJ(h:Sep w (bC b s d++R))(ar:j3 s)(em:aa):aA 160 #[b.p,I em] w λe w'=>(∃ x y,bj x/\bj y/\e=.returned (aQ #[ag x,ag y]))/\Keeps aI w w':=by
 have⟨v,u,aW⟩:=ar;have g:=aX w (ae c2 91);have r:=(ba w).alloc (ae c2 91);have h1:=h.keep r;have q:=af (Bs h1 v u);have fin:∀ (W:ai) (x y:aa),Keeps aI w W->Keeps aI w ((W.setCell (ad w 0 ab) (ag x)).setCell (ad w 1 ab) (ag y)):=λW x y k=>(k.oi (p:=ad w 0 ab) bs _).oi (p:=ad w 1 ab) bs _;have f:=b6 aW fin;have j:bj 0:=by unfold bj;omega
 have c:=b6 r g;by_cases h1:em<1
 .have d1:=ee h1;have m:=aS g;have g0:=bI g
  go_in
  go_wp2;have l:=kU c.o.2;refine dq (v:=aQ c2) l ?_;exact⟨⟨0,0,j,j,rfl⟩,c.o.1⟩
 by_cases h2:2<em
 .have d1:=dd h1;have m:=aS g;have g0:=bI g
  go_in
  go_wp2;have l:=kU c.o.2;refine dq (v:=aQ c2) l ?_;exact⟨⟨0,j,0,j,rfl⟩,c.o.1⟩
 have z:=V7 v;rcases (show em=1\/em=2 by omega)with rfl|rfl
 .have aw:=JG v;have bd:=V5 v
  go_in
  go_wp2_with fail;refine aU q.out λao i=>?_;have a:=i.heap c.out.2 id;have t:=af (c.out.1.trans i);have m:=aS a;have g0:=bI a;have n:=af a;go_wp2;have a:=n.o;refine dq (v:=aQ #[ag (v 4),ag (v 5)]) (kU (km n.o (ag (v 4)) (ag (v 5)))) ?_;exact⟨⟨_,_,(f.out.1 0 U).1,(f.out.1 0 U).2,rfl⟩,f.out.2 _ _ _ t.o⟩
 have aw:=JH v;have bd:=V6 v
 go_in
 go_wp2_with fail;refine aU q.out λao i=>?_;have a:=i.heap c.out.2 id;have m:=aS a;have g0:=bI a;go_wp2;have a:=a;refine dq (v:=aQ #[ag (v 14),ag (v 15)]) (kU (km a (ag (v 14)) (ag (v 15)))) ?_;exact⟨⟨_,_,(f.out.1 1 U).1,(f.out.1 1 U).2,rfl⟩,f.out.2 _ _ _ (c.out.1.trans i)⟩
section
open Go.Maps
variable{w w':ai}{b:ga}{s:bJ}{R:ah ay}{d:gq}{q:cl}{o:J}{sd v vl:ax}{m:aY}{l:ah ca}
def FW{v vl:ax}{cs l:ah ca}(ty:TypeId)(aW:w.ownsRow 0 47 12 v cs.length (ep cs))(b:w.ownsRow 0 47 12 vl l.length (ep l))(ar:cs.length+l.length<=100000):∃ v' ao,(Builtin.append_ #[32,32] ty #[v,vl]).run prog w=.ok v' ao/\ao.ownsRow 0 47 12 v' (cs++l).length (ep (cs++l))/\Keeps (λj=>v.ownBlock=some j) w ao/\∀ j,v'.ownBlock=some j->v.ownBlock=some j\/w.heap.size<=j:=by
 have⟨i,z,aw,s,h1,h2,h⟩:=BD;have m:ep (cs++l)=ep cs++ep l:=by simp[ep]
 rcases b.2 with⟨rfl,o⟩|⟨g,cap,f,rfl,_⟩
 .obtain rfl:=jx.1 o;refine⟨v,w,?_,by rw[e4];exact aW,Keeps.refl _ _,λj a=>.inl a⟩;rcases aW.2 with⟨rfl,B⟩|⟨g,cap,f,rfl,_,_,al,_⟩
  .simp[Builtin.append_,rp underlying32,sizeOf,typeInfo,aw,Builtin.lenOf,Builtin.firstCells]
  simp[Builtin.append_,rp underlying32,sizeOf,typeInfo,aw,Builtin.lenOf,al,Builtin.firstCells,storeCells]
 have⟨A,x,e,r,_⟩:=cS b;cases e
 have⟨v',ao,q,p,aZ,_,k⟩:=wT (P:=prog) w 0 32 ty 47 i z 12 96 underlying32 aw s h1 h2 h bq v cs.length (ep cs) aW (ad g 0 ab) l.length cap (ep l) b.1
  (λj u d=>by
   have n:0<l.length:=by
    rcases rD l.length with e|e
    .have:=b.1
     rw[e]at this
     have:=(hp.1 d).1
     omega
    .exact e
   obtain⟨t,y,e,al⟩:=r.at' n;cases e;rw[h3];exact al j u d) (λu d=>by
   obtain⟨c,_,al⟩:=uO.1 d;exact fg.1 (qJ c) u al) jY U (c' _)
 refine⟨v',ao,q,by rw[m,cx];exact p,(Keeps.refl _ w).grown aZ (λj e=>.inl e),λj a=>?_⟩;rcases k with e|e
 .exact .inl (e▸a)
 rw[a]at e;simp at e;omega
structure gL(L:ah ay)(bM:J)(c:ca)(W:ai):ak where
 sep:Sep W L
 box:W.heap[bM]?=some (ae (dk c) 47 (0,0))
 off:∀ r∈L,¬ r.S bM
theorem gL.keep{L:ah ay}{bM:J}{c:ca}(h:gL L bM c w)(hk:Keeps aI w w'):gL L bM c w':=⟨h.sep.keep hk,hk.heap h.box id,h.off⟩
theorem Tj{bM:J}{c:ca}(h:w.heap[bM]?=some (ae (dk c) 47 (0,0))):(Instr.loadAt 45 (.pointer (some (ad bM 1 ab)))).run prog w=.ok (.agg (dT c.cn)) w:=
 gz (P:=prog) 45 9 bM 1 (dT c.cn) _ _ isAgg45 sizeOf45 rfl h (λj u a=>by
  have b:=(kf.1 a).1
  have:(dT c.cn).size=9:=rfl
  rw[show(dk c)[1+j]?=(dT c.cn)[j]? from by
   match j,(show j<9 by omega)with
   | 0,_=>rfl
   | 1,_=>rfl
   | 2,_=>rfl
   | 3,_=>rfl
   | 4,_=>rfl
   | 5,_=>rfl
   | 6,_=>rfl
   | 7,_=>rfl
   | 8,_=>rfl]
  exact a)
variable{bM:J}{c:ca}{A:ah ay}
def gL.lt(h:gL A bM c w):bM<w.heap.size:=bP h.box
theorem gL.fe(h:gL (bC b s d++A) bM c w)(i:hZ w b.fe d.cw d.c6 w'):∃ d:gq,gL (bC b s d++A) bM c w':=by
 obtain⟨c6,bQ,h1,h2,g⟩:=i;have ar:=h.off (ay.fe b.fe d.cw d.c6) (by simp[bC]);refine⟨{d with c6:=c6},h.sep.set 4 (r':=ay.fe b.fe d.cw c6) rfl h2 (λ_ _ h=>h) ⟨bQ,h1⟩ (λj a=>?_),h2.heap h.box ar,λr f a=>?_⟩
 .exact Mi
 have f:r∈(bC b s d++A).set 4 (ay.fe b.fe d.cw c6):=f;rcases w3 f with f|rfl
 .exact h.off r f a
 rcases a with a|a
 .exact ar (.inl a)
 rcases g _ a with e|e
 .exact ar (.inr e)
 have:=h.lt;omega
theorem gL.dU(h:gL (bC b s d++A) bM c w)(i:iz w b.dU d.dg w'):∃ d:gq,gL (bC b s d++A) bM c w':=by
 obtain⟨c6,bQ,h1,h2,g⟩:=i;have ar:=h.off (ay.dU b.dU d.dg) (by simp[bC]);refine⟨{d with dg:=c6},h.sep.set 5 (r':=ay.dU b.dU c6) rfl h2 (λ_ _ h=>h) ⟨bQ,h1⟩ (λj a=>?_),h2.heap h.box ar,λr f a=>?_⟩
 .exact Mi
 have f:r∈(bC b s d++A).set 5 (ay.dU b.dU c6):=f;rcases w3 f with f|rfl
 .exact h.off r f a
 rcases a with a|a
 .exact ar (.inl a)
 rcases g _ a with e|e
 .exact ar (.inr e)
 have:=h.lt;omega
theorem gL.mw(h:gL (bC b s d++A) bM c w)(n:aa):gL (bC b s {d with mw:=n}++A) bM c (w.setCell (ad b.p 11 ab) (I n)):=by
 have ar:=h.off (ay.bc b.p (oZ b s d.mw,114)) (by simp[bC]);refine⟨x8 h.sep 11 (I n) rfl rfl rfl rfl rfl rfl,(Keeps.setCell (S:=λj=>j=b.p) (Keeps.refl _ w) rfl _).heap h.box ar,λr a e=>?_⟩;have a:r∈(bC b s d++A).set 0 (ay.bc b.p (oZ b s n,114)):=a;rcases w3 a with a|rfl
 .exact h.off r a e
 exact ar e
end
end Go.Proofs.YtalagblioepadaaGreatDoor
