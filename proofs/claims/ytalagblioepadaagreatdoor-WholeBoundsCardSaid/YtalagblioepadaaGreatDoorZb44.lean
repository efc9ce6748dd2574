/- The proof, part 44. -/
import Derived.Test.YtalagblioepadaaGreatDoorZb43
import Derived.Test.YtalagblioepadaaGreatDoorZb27
import Derived.Test.YtalagblioepadaaGreatDoorZb42
namespace Go.Proofs.YtalagblioepadaaGreatDoor
set_option linter.all false
open Proofs.Tryz List Go.RowKit Go.Maps
set_option maxRecDepth 100000
set_option maxHeartbeats 1000000
def MI{p:ak}(h:p:=by
 refine dC 11 λK b=>?_;go_simp;refine aT (r.o _ f) λan d=>?_;have i:=n.o _ _ f d;refine b _ _ (i) ?_;refine de (i) [12,13,14] 2 ?_;obtain⟨D,_,l⟩:=dO an 99 60 bl.heap.size (bo v) _ sizeOf99 (eh _) (eh _) (d.heap (aW bl (ae (bo cf) 99)) id) (ff.2 (nO v));have B:=nN (fe an bl.heap.size _ (bo v) 99 (d.heap (aW bl (ae (bo cf) 99)) id));have au:w.heap.size<bl.heap.size:=by first|omega|(have:=d.size;omega)
 have q:=Q.o _ _ i (l.mono λ_ _ e=>U);have z:=l.heap (d.heap (cm R (ae (bo cf) 99)) id) U;have G:=cK ((S.alloc (ae (bo cf) 99)).trans d) l a7;generalize World.setRow an bl.heap.size (bo v)=M at *;obtain⟨E,C,A⟩:=dO M 99 60 w.heap.size (bo v) _ sizeOf99 (eh _) (eh _) z (ff.2 (nO v));have H:=cK G A a7;refine qL 16 q (na rfl rfl rfl D) ?_;simp only[Act.put];refine hX 17 q ?_;go_wp2_with first|refine dm B rfl rfl rfl ?_|refine c8 E rfl rfl rfl rfl ?_
 refine dn (v:=.agg (bo v)) C ?_;exact⟨rfl,H⟩
 ):p:=h
def Mx{p:ak}(h:p:=by
 go_wp2_with fail;go_quiet (first|(go_at_call 93;first|exact Calls.quiet_of (a.o _)|exact iF (a.o _))|(go_at_call 215;first|exact Calls.quiet_of (mP (f.o _))|exact iF (mP (f.o _))));go_wp2;go_ret;exact⟨bU,_,rfl⟩
 ):p:=h
def LL{p:ak}(h:p:=by
 rcases a with a|a
 .exact .inl (.inl a)
 exact(g j a).imp .inr id
 ):p:=h
section
def ay.ld(B:dE)(s:cH):ay:=⟨B.S,λw=>IsLd w B s,λh aj=>h.lt aj,λh hk ax=>h.keeps hk ax⟩
def ay.e9(b:J)(n:aa)(c7:aw):ay where
 S j:=j=b\/c7.ownBlock=some j
 P w:=∃ bQ,kB w b n c7 bQ
 lt:=λ⟨_,h⟩ a=>a.elim (λe=>e▸bR h.hd) λe=>oX h.row e
 frame:=λ⟨bQ,h⟩ hk ax=>⟨bQ,hk.heap h.hd (ax _ (.inl rfl)),b3 h.row hk λj a=>ax j (.inr a),h.fX⟩
def ay.dV(b:J)(df:aw):ay where
 S j:=j=b\/df.ownBlock=some j
 P w:=∃ ps,k9 w b df ps
 lt:=λ⟨_,h⟩ a=>a.elim (λe=>e▸bR h.hd) λe=>oX h.row e
 frame:=λ⟨bQ,h⟩ hk ax=>⟨bQ,hk.heap h.hd (ax _ (.inl rfl)),b3 h.row hk λj a=>ax j (.inr a),h.fX⟩
def ay.dT(b:J):ay where
 S j:=j=b
 P w:=rp w b
 lt:=λ⟨_,_,_,_,_,h⟩ c=>by subst c;exact bR h
 frame:=λ⟨x,y,z,u,a,h⟩ hk ax=>⟨x,y,z,u,a,hk.heap h (ax b rfl)⟩
def mh(M:ah (aa×aa)):ah (aa×aw):=M.map λp=>(p.1,aK p.2)
def IsSm(w:ai)(b:J)(M:ah (aa×aa)):ak:=RMap w rR b (mh M)/\∀ p∈M,0<=p.1/\p.1<2147483648
def ay.ik(b:J)(M:ah (aa×aa)):ay where
 S j:=j=b
 P w:=IsSm w b M
 lt h e:=by subst e;exact h.1.lt
 frame h hk ax:=⟨h.1.keeps hk (ax b rfl),h.2⟩
def ay.cS(v:aw)(l:ah cg):ay where
 S j:=v.ownBlock=some j
 P w:=w.ownsRow 0 47 12 v l.length (eA l)
 lt h a:=oX h a
 frame h hk ax:=b3 h hk ax
def ay.out(o:J)(v sd:aw)(m:aY)(l:ah cg):ay where
 S j:=j=o\/v.ownBlock=some j
 P w:=w.heap[o]?=some (ae #[v,sd,.bool m] 35 (0,0))/\w.ownsRow 0 47 12 v l.length (eA l)
 lt h a:=a.elim (λe=>e▸bR h.1) λe=>oX h.2 e
 frame h hk ax:=⟨hk.heap h.1 (ax _ (.inl rfl)),b3 h.2 hk λj a=>ax j (.inr a)⟩
structure Old where
 bm:J
 w:ai
def ay.kinds(ey:Old):ay where
 S j:=j<ey.bm
 P w:=kC w/\Below ey.bm ey.w w/\0<ey.bm/\ey.bm<=ey.w.heap.size
 lt h e:=lT e (b7 h.2.2.2 h.2.1.size)
 frame h hk ax:=⟨h.1.keep hk (ax 0 h.2.2.1),h.2.1.trans (hk.below (b7 h.2.2.2 h.2.1.size) λk h1 h2=>ax k h1 h2),h.2.2⟩
structure fT where
 p:J
 c:fG
 L:ir
 lb:J
 db:J
 hb:J
 e9:J
 dV:J
 dT:J
 du:J
 wt:J
structure gi where
 M:ah (aa×aw)
 cw:aa
 c7:aw
 df:aw
 mf:aa
def oL(b:fT)(s:bO)(n:aa):a6 aw:=#[b.c.c,b.L.p,b.lb,b.e9,b.dV,b.dT,.map (some b.du),.map (some b.wt),I s.cu,.bool s.b',I s.reason,I n]
def bC(b:fT)(s:bO)(d:gi):ah ay:=[ay.bc b.p (oL b s d.mf,114),ay.core b.c s.x,ay.link b.L s.aE,ay.ld ⟨b.lb,b.db,b.hb,d.M⟩ s.ld,ay.e9 b.e9 d.cw d.c7,ay.dV b.dV d.df,ay.dT b.dT,ay.ik b.du s.own,ay.ik b.wt s.wt]
def fh(w:ai)(b:fT)(p:ct)(o:J)(sd:aw)(m:aY)(R:ah ay):ak:=∃ d v,Sep w (bC b p.1 d++ay.out o v sd m p.2 :: R)
namespace Sep
variable{w w':ai}{L w5:ah ay}
theorem perm(h:Sep w L)(ar:L.Perm w5):Sep w w5:=⟨λr a=>h.all r (ar.mem_iff.2 a),h.apart.perm ar λh=>h.symm⟩
def sub(h:Sep w L)(ar:w5.Sublist L):Sep w w5:=⟨λr a=>h.all r (ar.subset a),h.apart.sublist ar⟩
def yJ{T:J->ak}(h:Sep w L)(i:J){r r' q:ay}(av:L[i]?=some r)(hk:Keeps T w w')(e:∀ b,b<w.heap.size->T b->r.S b)(d:r'.P w')(al:∀ b,r'.S b->r.S b\/w.heap.size<=b)(f:q.P w')(au:∀ b,q.S b->w.heap.size<=b)(bj:rm q r'):Sep w' (q :: L.set i r'):=by
 have h2:=h.set i av hk e d al;refine⟨λs ax=>?_,jP.2 ⟨λs ax b a c=>?_,h2.apart⟩⟩
 .rcases e3.1 ax with rfl|ax
  .exact f
  exact h2.all s ax
 rcases wJ ax with ax|rfl
 .have:=h.lt ax c
  have:=au b a
  omega
 exact bj b a c
def iD{A B:ah ay}{r:ay}(h:Sep w (r :: (A++B))):Sep w (A++r :: B):=h.perm qb.symm
def qI{A B:ah ay}{r q:ay}(h:Sep w (r :: (A++q :: B))):Sep w (A++q :: r :: B):=h.perm (qb.symm.trans ((Perm.swap q r B).append_left A))
def XP{A B:ah ay}{r:ay}(h:Sep w (A++r :: B)):Sep w (A++B):=h.sub ((sublist_cons_self r B).append_left A)
def p2{A B:ah ay}{r q:ay}(h:Sep w (A++q :: r :: B)):Sep w (A++q :: B):=h.sub (((sublist_cons_self r B).cons_cons q).append_left A)
end Sep
section
variable{w w':ai}{b:fT}{s:bO}{p:ct}{o:J}{sd:aw}{m:aY}{R:ah ay}{d:gi}{A:ah ay}
def AO(h:Sep w (bC b s d++R)):w.heap[b.p]?=some (ae (oL b s d.mf) 114 (0,0)):=h.at' 0 rfl
def gX(h:Sep w (bC b s d++R)):IsCore w b.c s.x:=h.at' 1 rfl
def l4(h:Sep w (bC b s d++R)):IsLink w b.L s.aE:=h.at' 2 rfl
def nI(h:Sep w (bC b s d++R)):IsLd w ⟨b.lb,b.db,b.hb,d.M⟩ s.ld:=h.at' 3 rfl
def xN(h:Sep w (bC b s d++R)):∃ bQ,kB w b.e9 d.cw d.c7 bQ:=h.at' 4 rfl
def AR(h:Sep w (bC b s d++R)):∃ ps,k9 w b.dV d.df ps:=h.at' 5 rfl
def GH(h:Sep w (bC b s d++R)):rp w b.dT:=h.at' 6 rfl
def AU(h:Sep w (bC b s d++R)):IsSm w b.du s.own:=h.at' 7 rfl
def vx(h:Sep w (bC b s d++R)):IsSm w b.wt s.wt:=h.at' 8 rfl
def mE(h:Sep w (bC b s d++R))(k:J){v:aw}(aX:(oL b s d.mf)[k]?=some v):w.cell? (ad b.p k ab)=some v:=bb (AO h) aX
def lk(h:Sep w (bC b s d++R)):w.cell? (ad b.p 0 ab)=some (.pointer (some (ad b.c.c 0 ab))):=mE h 0 rfl
def nH(h:Sep w (bC b s d++R)):w.cell? (ad b.p 1 ab)=some (.pointer (some (ad b.L.p 0 ab))):=mE h 1 rfl
def tq(h:Sep w (bC b s d++R)):w.cell? (ad b.p 2 ab)=some (.pointer (some (ad b.lb 0 ab))):=mE h 2 rfl
def tr(h:Sep w (bC b s d++R)):w.cell? (ad b.p 3 ab)=some (.pointer (some (ad b.e9 0 ab))):=mE h 3 rfl
def ts(h:Sep w (bC b s d++R)):w.cell? (ad b.p 4 ab)=some (.pointer (some (ad b.dV 0 ab))):=mE h 4 rfl
def GF(h:Sep w (bC b s d++R)):w.cell? (ad b.p 5 ab)=some (.pointer (some (ad b.dT 0 ab))):=mE h 5 rfl
def AP(h:Sep w (bC b s d++R)):w.cell? (ad b.p 6 ab)=some (.map (some b.du)):=mE h 6 rfl
def AQ(h:Sep w (bC b s d++R)):w.cell? (ad b.p 7 ab)=some (.map (some b.wt)):=mE h 7 rfl
def GG(h:Sep w (bC b s d++R)):w.cell? (ad b.p 8 ab)=some (I s.cu):=mE h 8 rfl
def pE(h:Sep w (bC b s d++R)):w.cell? (ad b.p 9 ab)=some (.bool s.b'):=mE h 9 rfl
def GD(h:Sep w (bC b s d++R)):w.cell? (ad b.p 10 ab)=some (I s.reason):=mE h 10 rfl
def Qy(h:Sep w (bC b s d++R)):w.cell? (ad b.p 11 ab)=some (I d.mf):=mE h 11 rfl
def xM(h:Sep w (bC b s d++R))(k:J):w.frozen? (ad b.p k ab)=false:=fJ (AO h) k
theorem xO(h:Sep w (bC b s d++R)){x:ck}(a:IsCore w' b.c x)(hk:Keeps b.c.S w w'):Sep w' (bC b {s with x:=x} d++R):=
 h.set 1 (r':=ay.core b.c x) rfl hk (λ_ _ h=>h) a (λ_ h=>.inl h)
theorem xP(h:Sep w (bC b s d++R)){l:b9}(a:IsLink w' b.L l)(hk:Keeps b.L.S w w'):Sep w' (bC b {s with aE:=l} d++R):=
 h.set 2 (r':=ay.link b.L l) rfl hk (λ_ _ h=>h) a (λ_ h=>.inl h)
def AV(h:Sep w (bC b s d++R)){js:dE}{s':cH}{v:aw}{l:ah cg}(g:w6 w ⟨b.lb,b.db,b.hb,d.M⟩ w' js s')(aX:w'.ownsRow w.heap.size 47 12 v l.length (eA l))(au:∀ j,v.ownBlock=some j->¬ js.S j):Sep w' (ay.cS v l :: (bC b {s with ld:=s'} {d with M:=js.M}++R)):=by
 obtain⟨h1,a,c,e,h2,f⟩:=g;obtain⟨bP,k,m,M⟩:=js;subst a c e;exact h.yJ 3 (r':=ay.ld ⟨b.lb,b.db,b.hb,M⟩ s') (q:=ay.cS v l) rfl f (λ_ _ h=>h) h1 h2 (kr aX (c' _)) (λj i=>(aX.lt j i).1) au
def QC(h:Sep w (bC b s d++R))(e:im w b.dV d.df w'):∃ df,Sep w' (bC b s {d with df:=df}++R):=by
 obtain⟨c7,bQ,h1,h2,c⟩:=e;exact⟨c7,h.set 5 (r':=ay.dV b.dV c7) rfl h2 (λ_ _ h=>h) ⟨bQ,h1⟩ λj a=>by
  rcases a with a|a
  .exact .inl (.inl a)
  .exact(c j a).imp .inr id⟩
theorem GI(h:Sep w (bC b s d++R))(a:rp w' b.dT)(hk:Keeps (λj=>j=b.dT) w w'):Sep w' (bC b s d++R):=
 h.set 6 (r':=ay.dT b.dT) rfl hk (λ_ _ h=>h) a (λ_ h=>.inl h)
theorem GK(h:Sep w (bC b s d++R)){M:ah (aa×aa)}(a:IsSm w' b.du M)(hk:Keeps (λj=>j=b.du) w w'):Sep w' (bC b {s with own:=M} d++R):=
 h.set 7 (r':=ay.ik b.du M) rfl hk (λ_ _ h=>h) a (λ_ h=>.inl h)
theorem GL(h:Sep w (bC b s d++R)){M:ah (aa×aa)}(a:IsSm w' b.wt M)(hk:Keeps (λj=>j=b.wt) w w'):Sep w' (bC b {s with wt:=M} d++R):=
 h.set 8 (r':=ay.ik b.wt M) rfl hk (λ_ _ h=>h) a (λ_ h=>.inl h)
def xL(h:Sep w (bC b s d++R)){s':bO}{n:aa}(k:J)(v:aw)(aX:(oL b s d.mf).setIfInBounds k v=oL b s' n)(h1:s'.x=s.x)(h2:s'.aE=s.aE)(a:s'.ld=s.ld)(c:s'.own=s.own)(e:s'.wt=s.wt):Sep (w.setCell (ad b.p k ab) v) (bC b s' {d with mf:=n}++R):=by
 have:=h.set (w':=w.setCell (ad b.p k ab) v) 0 (r':=ay.bc b.p (oL b s' n,114)) rfl (Keeps.setCell (S:=λj=>j=b.p) (Keeps.refl _ w) rfl _) (λ_ _ h=>h) (by have:=bW (AO h) k v;rw[aX]at this;exact this) (λ_ h=>.inl h)
 simpa[bC,h1,h2,a,c,e]using this
end
section
variable{w w':ai}{b:fT}{p:ct}{o:J}{v sd:aw}{m:aY}{R:ah ay}{d:gi}
def kf(h:Sep w (bC b p.1 d++ay.out o v sd m p.2 :: R)):w.heap[o]?=some (ae #[v,sd,.bool m] 35 (0,0))/\w.ownsRow 0 47 12 v p.2.length (eA p.2):=h.at' 9 rfl
theorem AW(h:Sep w (bC b p.1 d++ay.out o v sd m p.2 :: R)){v' sd':aw}{m':aY}{l:ah cg}(c:w'.heap[o]?=some (ae #[v',sd',.bool m'] 35 (0,0))/\w'.ownsRow 0 47 12 v' l.length (eA l))(hk:Keeps (λj=>j=o\/v.ownBlock=some j) w w')(al:∀ j,v'.ownBlock=some j->j=o\/v.ownBlock=some j\/w.heap.size<=j):Sep w' (bC b p.1 d++ay.out o v' sd' m' l :: R):=
 h.set 9 (r':=ay.out o v' sd' m' l) rfl hk (λ_ _ h=>h) c λj a=>by
  rcases a with a|a
  .exact .inl (.inl a)
  rcases al j a with e|e|e
  .exact .inl (.inl e)
  .exact .inl (.inr e)
  exact .inr e
end
end
variable{w w':ai}{b:fT}{s:bO}{R:ah ay}{d:gi}
def Q6{p:J}{s:fG}{x:ck}{F:ai->ak}(h:F w)(b:∀ W W',F W->Keeps (λj=>w.heap.size<=j) W W'->F W')(V:∀ W,F W->W.cell? (ad p 0 ab)=some (.pointer (some (ad s.c 0 ab))))(u:∀ W,F W->IsCore W s x)(v:J->aa)(T:gL x.L (x.now:aa)=some v):az 137 #[p] w λe w'=>e=.returned (.agg (bo v))/\Keeps aG w w':=by
 have O:=aW w (ae (bo cf) 99);have P:=(a_ w).alloc (ae (bo cf) 99);have y:∀ W W',F W->Keeps aG W W'->F W':=λW W' a k=>b W W' a (k.mono λ_ _ e=>e.elim);have X:=(u _ h).gM;have Q:=af b;have n:=af y
 go_in
 go_wp2_with refine ea (lG w) rfl rfl ?_
 generalize w.alloc (ae (bo cf) 99)=bl at *;have g:=y _ _ (y _ _ h P) (Keeps.refl _ bl).drew;have Z:∀ x:bp F,x.to.cell? (ad p 0 ab)=some (.pointer (some (ad s.c 0 ab))):=λx=>V _ x.held;have N:=af (λ(W:ai) (t:F W)=>rB (u W t));have r:=af (λ(W:ai) (t:F W)=>FG (u W t) (x.now:aa) U);rw[T]at r;simp only[hK,pa]at r;have R:bl.drew.heap[w.heap.size]?=some (ae (bo cf) 99 (0,0)):=O;have S:=P.drew;have Y:w.heap.size<bl.drew.heap.size:=bR O;simp only[Act.put,c_];refine cB 18 ?_;refine cC (F) (.range 18) 0 18 ?_;refine de (g) (.range 10) 8 ?_;generalize bl.drew=bl at *;refine rQ (m:=7) 10 15 #[true,true,true,true,true,true,true,true,true,true,true,false,false,false,false,false,false,false] #[true,true,true,true,true,true,true,true,true,true,false,false,false,false,false,true,false,false] aH aH aH aH aH aH aH gh gh (λK b=>?_) (λK b=>?_)
 all_goals simp only[dj,gY]
 .go_simp;refine br (N.o _ g) ?_;refine b _ _ (g) ?_;refine rQ (m:=6) 11 15 #[true,true,true,true,true,true,true,true,true,true,true,true,false,false,false,false,false,false] #[true,true,true,true,true,true,true,true,true,true,true,false,false,false,false,true,false,false] aH aH aH aH aH aH aH gh gh (λK b=>?_) (λK b=>?_)
  all_goals simp only[dj,gY]
  .go_simp;refine aT (r.o _ g) λan d=>?_;have i:=n.o _ _ g d;refine b _ _ (i) ?_;refine de (i) [12,13,14] 3 ?_;have f:=n.o _ _ i ((Keeps.refl _ an).alloc (ae (bo cf) 99));refine qL 15 f (p5 rfl (lG _)) ?_;simp only[Act.put,c_];obtain⟨D,_,l⟩:=dO (an.alloc (ae (bo cf) 99)) 99 60 an.heap.size (bo v) _ sizeOf99 (eh _) (eh _) (aW an (ae (bo cf) 99)) (ff.2 (nO v));have B:=nN (fe (an.alloc (ae (bo cf) 99)) an.heap.size _ (bo v) 99 (aW an (ae (bo cf) 99)));have au:w.heap.size<an.heap.size:=by first|omega|(have:=d.size;omega)
   have q:=Q.o _ _ f (l.mono λ_ _ e=>U);have z:=l.heap (cm (d.heap R id) (ae (bo cf) 99)) U;have G:=cK ((S.trans d).alloc (ae (bo cf) 99)) l a7;generalize World.setRow (an.alloc (ae (bo cf) 99)) an.heap.size (bo v)=M at *;obtain⟨E,C,A⟩:=dO M 99 60 w.heap.size (bo v) _ sizeOf99 (eh _) (eh _) z (ff.2 (nO v));have H:=cK G A a7;refine qL 16 q (na rfl rfl rfl D) ?_;simp only[Act.put];refine hX 17 q ?_;go_wp2_with first|refine dm B rfl rfl rfl ?_|refine c8 E rfl rfl rfl rfl ?_
   refine dn (v:=.agg (bo v)) C ?_;exact⟨rfl,H⟩
  have f:=n.o _ _ g ((Keeps.refl _ bl).alloc (ae (bo cf) 99));refine p5 rfl (lG _) ?_;refine b _ _ (f) ?_;simp only[Act.put,c_];exact MI
 have f:=n.o _ _ g ((Keeps.refl _ bl).alloc (ae (bo cf) 99));refine p5 rfl (lG _) ?_;refine b _ _ (f) ?_;simp only[Act.put,c_];refine dC 10 λK b=>?_;go_simp;refine br (N.o _ f) ?_;refine b _ _ (f) ?_;exact MI
def Wc{L:ah ay}(h:Sep w L):∀ W W',Sep W L->Keeps (λj=>w.heap.size<=j) W W'->Sep W' L:=λ_ _ a k=>a.keeps k λr c j b e=>by have:=h.lt c b;omega
def G'(h:Sep w (bC b s d++R)):az 93 #[b.p] w λe w'=>e=.returned (I (hV s))/\∃ q,w'=w.drewN q:=by
 have au:=(gX h).gM;have aU:=af (λn=>rB ((gX h).drew n));have a:=af (λn=>OW ((gX h).drew n));have bu:=lk h;have aj:=(gX h).dG (1-s.x.aJ) U;unfold hV bT fq;generalize (s.x.f (1-s.x.aJ)).next=dG at *;generalize s.x.now=gM at *
 go_in
 go_wp2_with fail;go_quiet (first|(go_at_call 22;first|exact Calls.quiet_of (mP (aU.o _))|exact iF (mP (aU.o _)))|(go_at_call 156;first|exact Calls.quiet_of (a.o _)|exact iF (a.o _)));go_wp2;go_ret;exact⟨rfl,_,rfl⟩
def Rb(h:Sep w (bC b s d++R))(l:-1000<=s.cu/\s.cu<=1000)(aN:0<=s.aE.b_/\s.aE.b_<=1000000):az 143 #[b.p] w λe w'=>e=.returned (.bool (so s))/\∃ q,w'=w.drewN q:=by
 have au:=(gX h).gM;have aj:=(gX h).dG (1-s.x.aJ) U;have a:=af (λn=>G' (h.drew n));have f:=af (λn=>SB ((l4 h).drew n));have b0:=nH h;have fv:=GG h;have j:IntKind.i64.wrap (hV s-s.cu)=hV s-s.cu:=et _ (by unfold hV bT fq;omega);have k:IntKind.i64.wrap (Int.tmod s.aE.b_ 2)=s.aE.b_%2:=by rw[pf aN.1];exact et _ U
 unfold so;generalize hV s=ld at *;generalize s.cu=cu at *;generalize s.aE.b_=n4 at *;by_cases aq:4<ld-cu
 .have g:=ed aq;have i:decide (n4%2=1)=(n4%2 == 1):=by by_cases c:n4%2=1<;>simp[c]
  rw[i]
  go_in
  exact Mx
 have g:=cZ aq
 go_in
 exact Mx
def jW(s:bO):ak:=∃ v,gL s.x.L (s.x.now:aa)=some v/\∀ k,k<2->bk (v (4+10*k))/\bk (v (4+10*k+1))
def Vx(v:J->aa)(w:ai):(Instr.field 99 (.agg (bo v)) 4).run prog w=.ok (.agg (pS v)) w:=aH
def Vv(v:J->aa)(w:ai):(Instr.field 93 (.agg (tP v 4)) 0).run prog w=.ok (aM #[ag (v 4),ag (v 5)]) w:=aH
def Vw(v:J->aa)(w:ai):(Instr.field 93 (.agg (tP v 14)) 0).run prog w=.ok (aM #[ag (v 14),ag (v 15)]) w:=aH
theorem A6(h:Sep w (bC b s d++R))(v:J->aa)(a:gL s.x.L (s.x.now:aa)=some v):az 137 #[b.p] w λe w'=>e=.returned (.agg (bo v))/\Keeps aG w w':=
 Q6 (F:=λW=>Sep W (bC b s d++R)) h (Wc h) (λ_ h=>lk h) (λ_ h=>gX h) v a
def Q7(h:Sep w (bC b s d++R))(au:jW s)(em:aa):az 160 #[b.p,I em] w λe w'=>(∃ x y,bk x/\bk y/\e=.returned (aM #[ag x,ag y]))/\Keeps aG w w':=by
 have⟨v,u,aX⟩:=au;have g:=aW w (ae c0 91);have r:=(a_ w).alloc (ae c0 91);have h1:=h.keep r;have q:=af (A6 h1 v u);have fin:∀ (W:ai) (x y:aa),Keeps aG w W->Keeps aG w ((W.setCell (ad w 0 ab) (ag x)).setCell (ad w 1 ab) (ag y)):=λW x y k=>(k.nZ (p:=ad w 0 ab) bA _).nZ (p:=ad w 1 ab) bA _;have f:=b8 aX fin;have j:bk 0:=by unfold bk;omega
 have c:=b8 r g;by_cases h1:em<1
 .have d1:=ed h1;have m:=aP g;have g0:=bJ g
  go_in
  go_wp2;have l:=kK c.o.2;refine dn (v:=aM c0) l ?_;exact⟨⟨0,0,j,j,rfl⟩,c.o.1⟩
 by_cases h2:2<em
 .have d1:=cZ h1;have m:=aP g;have g0:=bJ g
  go_in
  go_wp2;have l:=kK c.o.2;refine dn (v:=aM c0) l ?_;exact⟨⟨0,j,0,j,rfl⟩,c.o.1⟩
 have z:=Vx v;rcases (show em=1\/em=2 by omega)with rfl|rfl
 .have av:=Jd v;have bj:=Vv v
  go_in
  go_wp2_with fail;refine aT q.out λan i=>?_;have a:=i.heap c.out.2 id;have t:=af (c.out.1.trans i);have m:=aP a;have g0:=bJ a;have n:=af a;go_wp2;have a:=n.o;refine dn (v:=aM #[ag (v 4),ag (v 5)]) (kK (kb n.o (ag (v 4)) (ag (v 5)))) ?_;exact⟨⟨_,_,(f.out.1 0 U).1,(f.out.1 0 U).2,rfl⟩,f.out.2 _ _ _ t.o⟩
 have av:=Je v;have bj:=Vw v
 go_in
 go_wp2_with fail;refine aT q.out λan i=>?_;have a:=i.heap c.out.2 id;have m:=aP a;have g0:=bJ a;go_wp2;have a:=a;refine dn (v:=aM #[ag (v 14),ag (v 15)]) (kK (kb a (ag (v 14)) (ag (v 15)))) ?_;exact⟨⟨_,_,(f.out.1 1 U).1,(f.out.1 1 U).2,rfl⟩,f.out.2 _ _ _ (c.out.1.trans i)⟩
section
open Go.Maps
variable{w w':ai}{b:fT}{s:bO}{R:ah ay}{d:gi}{q:ct}{o:J}{sd v vl:aw}{m:aY}{l:ah cg}
def Fu{v vl:aw}{cs l:ah cg}(ty:TypeId)(aX:w.ownsRow 0 47 12 v cs.length (eA cs))(b:w.ownsRow 0 47 12 vl l.length (eA l))(au:cs.length+l.length<=100000):∃ v' an,(Builtin.append_ #[32,32] ty #[v,vl]).run prog w=.ok v' an/\an.ownsRow 0 47 12 v' (cs++l).length (eA (cs++l))/\Keeps (λj=>v.ownBlock=some j) w an/\∀ j,v'.ownBlock=some j->v.ownBlock=some j\/w.heap.size<=j:=by
 have⟨i,z,av,s,h1,h2,h⟩:=Hn;have m:eA (cs++l)=eA cs++eA l:=by simp[eA]
 rcases b.2 with⟨rfl,o⟩|⟨g,cap,f,rfl,_⟩
 .obtain rfl:=jn.1 o;refine⟨v,w,?_,by rw[eX];exact aX,Keeps.refl _ _,λj a=>.inl a⟩;rcases aX.2 with⟨rfl,B⟩|⟨g,cap,f,rfl,_,_,aq,_⟩
  .simp[Builtin.append_,q3 underlying32,sizeOf,typeInfo,av,Builtin.lenOf,Builtin.firstCells]
  simp[Builtin.append_,q3 underlying32,sizeOf,typeInfo,av,Builtin.lenOf,aq,Builtin.firstCells,storeCells]
 have⟨A,x,e,r,_⟩:=cP b;cases e
 have⟨v',an,q,p,a1,_,k⟩:=wA (P:=prog) w 0 32 ty 47 i z 12 96 underlying32 av s h1 h2 h bq v cs.length (eA cs) aX (ad g 0 ab) l.length cap (eA l) b.1
  (λj u d=>by
   have n:0<l.length:=by
    rcases rf l.length with e|e
    .have:=b.1
     rw[e]at this
     have:=(hf.1 d).1
     omega
    .exact e
   obtain⟨t,y,e,aq⟩:=r.at' n;cases e;rw[hN];exact aq j u d) (λu d=>by
   obtain⟨c,_,aq⟩:=wI.1 d;exact ff.1 (rz c) u aq) jR U (c' _)
 refine⟨v',an,q,by rw[m,cx];exact p,(Keeps.refl _ w).grown a1 (λj e=>.inl e),λj a=>?_⟩;rcases k with e|e
 .exact .inl (e▸a)
 rw[a]at e;simp at e;omega
structure gF(L:ah ay)(bM:J)(c:cg)(W:ai):ak where
 sep:Sep W L
 box:W.heap[bM]?=some (ae (di c) 47 (0,0))
 off:∀ r∈L,¬ r.S bM
theorem gF.keep{L:ah ay}{bM:J}{c:cg}(h:gF L bM c w)(hk:Keeps aG w w'):gF L bM c w':=⟨h.sep.keep hk,hk.heap h.box id,h.off⟩
theorem SI{bM:J}{c:cg}(h:w.heap[bM]?=some (ae (di c) 47 (0,0))):(Instr.loadAt 45 (.pointer (some (ad bM 1 ab)))).run prog w=.ok (.agg (dU c.cn)) w:=
 gq (P:=prog) 45 9 bM 1 (dU c.cn) _ _ isAgg45 sizeOf45 rfl h (λj u a=>by
  have b:=(j8.1 a).1
  have:(dU c.cn).size=9:=rfl
  rw[show(di c)[1+j]?=(dU c.cn)[j]? from by
   match j,(show j<9 by omega)with
   | 0,_=>rfl
   | 1,_=>rfl
   | 2,_=>rfl
   | 3,_=>rfl
   | 4,_=>rfl
   | 5,_=>rfl
   | 6,_=>rfl
   | 7,_=>rfl
   | 8,_=>rfl]
  exact a)
variable{bM:J}{c:cg}{A:ah ay}
def gF.lt(h:gF A bM c w):bM<w.heap.size:=bR h.box
theorem gF.e9(h:gF (bC b s d++A) bM c w)(i:hM w b.e9 d.cw d.c7 w'):∃ d:gi,gF (bC b s d++A) bM c w':=by
 obtain⟨c7,bQ,h1,h2,g⟩:=i;have au:=h.off (ay.e9 b.e9 d.cw d.c7) (by simp[bC]);refine⟨{d with c7:=c7},h.sep.set 4 (r':=ay.e9 b.e9 d.cw c7) rfl h2 (λ_ _ h=>h) ⟨bQ,h1⟩ (λj a=>?_),h2.heap h.box au,λr f a=>?_⟩
 .exact LL
 have f:r∈(bC b s d++A).set 4 (ay.e9 b.e9 d.cw c7):=f;rcases wJ f with f|rfl
 .exact h.off r f a
 rcases a with a|a
 .exact au (.inl a)
 rcases g _ a with e|e
 .exact au (.inr e)
 have:=h.lt;omega
theorem gF.dV(h:gF (bC b s d++A) bM c w)(i:im w b.dV d.df w'):∃ d:gi,gF (bC b s d++A) bM c w':=by
 obtain⟨c7,bQ,h1,h2,g⟩:=i;have au:=h.off (ay.dV b.dV d.df) (by simp[bC]);refine⟨{d with df:=c7},h.sep.set 5 (r':=ay.dV b.dV c7) rfl h2 (λ_ _ h=>h) ⟨bQ,h1⟩ (λj a=>?_),h2.heap h.box au,λr f a=>?_⟩
 .exact LL
 have f:r∈(bC b s d++A).set 5 (ay.dV b.dV c7):=f;rcases wJ f with f|rfl
 .exact h.off r f a
 rcases a with a|a
 .exact au (.inl a)
 rcases g _ a with e|e
 .exact au (.inr e)
 have:=h.lt;omega
theorem gF.mf(h:gF (bC b s d++A) bM c w)(n:aa):gF (bC b s {d with mf:=n}++A) bM c (w.setCell (ad b.p 11 ab) (I n)):=by
 have au:=h.off (ay.bc b.p (oL b s d.mf,114)) (by simp[bC]);refine⟨xL h.sep 11 (I n) rfl rfl rfl rfl rfl rfl,(Keeps.setCell (S:=λj=>j=b.p) (Keeps.refl _ w) rfl _).heap h.box au,λr a e=>?_⟩;have a:r∈(bC b s d++A).set 0 (ay.bc b.p (oL b s n,114)):=a;rcases wJ a with a|rfl
 .exact h.off r a e
 exact au e
end
end Go.Proofs.YtalagblioepadaaGreatDoor
