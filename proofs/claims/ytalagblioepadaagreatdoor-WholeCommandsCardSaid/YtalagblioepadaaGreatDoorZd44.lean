/- The proof, part 44. -/
import Derived.Test.YtalagblioepadaaGreatDoorZd43
import Derived.Test.YtalagblioepadaaGreatDoorZd27
import Derived.Test.YtalagblioepadaaGreatDoorZd42
namespace Go.Proofs.YtalagblioepadaaGreatDoor
set_option linter.all false
open Proofs.Tryz List Go.RowKit Go.Maps
set_option maxRecDepth 100000
set_option maxHeartbeats 1000000
def NZ{p:al}(h:p:=by
 refine eH 11 λK b=>?_;go_simp;refine aW (r.o _ f) λao d=>?_;have i:=n.o _ _ f d;refine b _ _ (i) ?_;refine dK (i) [12,13,14] 2 ?_;obtain⟨D,_,l⟩:=dQ ao 99 60 bn.heap.size (br v) _ sizeOf99 (et _) (et _) (d.heap (aX bn (af (br ck) 99)) id) (fw.2 (oy v));have B:=ov (fb ao bn.heap.size _ (br v) 99 (d.heap (aX bn (af (br ck) 99)) id));have av:w.heap.size<bn.heap.size:=by first|omega|(have:=d.size;omega)
 have q:=Q.o _ _ i (l.mono λ_ _ e=>U);have z:=l.heap (d.heap (cw R (af (br ck) 99)) id) U;have G:=cN ((S.alloc (af (br ck) 99)).trans d) l a8;generalize World.setRow ao bn.heap.size (br v)=M at *;obtain⟨E,C,A⟩:=dQ M 99 60 w.heap.size (br v) _ sizeOf99 (et _) (et _) z (fw.2 (oy v));have H:=cN G A a8;refine rl 16 q (nM rfl rfl rfl D) ?_;simp only[Act.put];refine h9 17 q ?_;go_wp2_with first|refine dn B rfl rfl rfl ?_|refine c7 E rfl rfl rfl rfl ?_
 refine dx (v:=.agg (br v)) C ?_;exact⟨rfl,H⟩
 ):p:=h
def NO{p:al}(h:p:=by
 go_wp2_with fail;go_quiet (first|(go_at_call 93;first|exact Calls.quiet_of (a.o _)|exact hv (a.o _))|(go_at_call 215;first|exact Calls.quiet_of (jo (f.o _))|exact hv (jo (f.o _))));go_wp2;go_ret;exact⟨b1,_,rfl⟩
 ):p:=h
def MZ{p:al}(h:p:=by
 rcases a with a|a
 .exact .inl (.inl a)
 exact(g j a).imp .inr id
 ):p:=h
section
def az.ld(B:dN)(s:cO):az:=⟨B.S,λw=>IsLd w B s,λh ak=>h.lt ak,λh hk aw=>h.keeps hk aw⟩
def az.fl(b:J)(n:aa)(dh:ay):az where
 S j:=j=b\/dh.ownBlock=some j
 P w:=∃ bV,k2 w b n dh bV
 lt:=λ⟨_,h⟩ a=>a.elim (λe=>e▸bT h.hd) λe=>mH h.row e
 frame:=λ⟨bV,h⟩ hk aw=>⟨bV,hk.heap h.hd (aw _ (.inl rfl)),b5 h.row hk λj a=>aw j (.inr a),h.gn⟩
def az.ed(b:J)(dq:ay):az where
 S j:=j=b\/dq.ownBlock=some j
 P w:=∃ ps,lJ w b dq ps
 lt:=λ⟨_,h⟩ a=>a.elim (λe=>e▸bT h.hd) λe=>mH h.row e
 frame:=λ⟨bV,h⟩ hk aw=>⟨bV,hk.heap h.hd (aw _ (.inl rfl)),b5 h.row hk λj a=>aw j (.inr a),h.gn⟩
def az.ec(b:J):az where
 S j:=j=b
 P w:=r5 w b
 lt:=λ⟨_,_,_,_,_,h⟩ c=>by subst c;exact bT h
 frame:=λ⟨x,y,z,u,a,h⟩ hk aw=>⟨x,y,z,u,a,hk.heap h (aw b rfl)⟩
def mP(M:ah (aa×aa)):ah (aa×ay):=M.map λp=>(p.1,aR p.2)
def IsSm(w:aj)(b:J)(M:ah (aa×aa)):al:=RMap w sq b (mP M)/\∀ p∈M,0<=p.1/\p.1<2147483648
def az.iK(b:J)(M:ah (aa×aa)):az where
 S j:=j=b
 P w:=IsSm w b M
 lt h e:=by subst e;exact h.1.lt
 frame h hk aw:=⟨h.1.keeps hk (aw b rfl),h.2⟩
def az.cF(v:ay)(l:ah bI):az where
 S j:=v.ownBlock=some j
 P w:=w.ownsRow 0 47 12 v l.length (dC l)
 lt h a:=mH h a
 frame h hk aw:=b5 h hk aw
def az.out(o:J)(v sd:ay)(m:a1)(l:ah bI):az where
 S j:=j=o\/v.ownBlock=some j
 P w:=w.heap[o]?=some (af #[v,sd,.bool m] 35 (0,0))/\w.ownsRow 0 47 12 v l.length (dC l)
 lt h a:=a.elim (λe=>e▸bT h.1) λe=>mH h.2 e
 frame h hk aw:=⟨hk.heap h.1 (aw _ (.inl rfl)),b5 h.2 hk λj a=>aw j (.inr a)⟩
structure Old where
 bo:J
 w:aj
def az.kinds(eK:Old):az where
 S j:=j<eK.bo
 P w:=k3 w/\Below eK.bo eK.w w/\0<eK.bo/\eK.bo<=eK.w.heap.size
 lt h e:=mq e (ca h.2.2.2 h.2.1.size)
 frame h hk aw:=⟨h.1.keep hk (aw 0 h.2.2.1),h.2.1.trans (hk.below (ca h.2.2.2 h.2.1.size) λk h1 h2=>aw k h1 h2),h.2.2⟩
structure gk where
 p:J
 c:gj
 L:iR
 lb:J
 cV:J
 hA:J
 fl:J
 ed:J
 ec:J
 dB:J
 wt:J
structure gG where
 M:ah (aa×ay)
 cA:aa
 dh:ay
 dq:ay
 mL:aa
def pe(b:gk)(s:bM)(n:aa):a7 ay:=#[b.c.c,b.L.p,b.lb,b.fl,b.ed,b.ec,.map (some b.dB),.map (some b.wt),I s.cz,.bool s.cc,I s.reason,I n]
def bH(b:gk)(s:bM)(d:gG):ah az:=[az.bd b.p (pe b s d.mL,114),az.core b.c s.x,az.link b.L s.aF,az.ld ⟨b.lb,b.cV,b.hA,d.M⟩ s.ld,az.fl b.fl d.cA d.dh,az.ed b.ed d.dq,az.ec b.ec,az.iK b.dB s.own,az.iK b.wt s.wt]
def fy(w:aj)(b:gk)(p:cq)(o:J)(sd:ay)(m:a1)(R:ah az):al:=∃ d v,Sep w (bH b p.1 d++az.out o v sd m p.2 :: R)
namespace Sep
variable{w w':aj}{L pV:ah az}
theorem perm(h:Sep w L)(au:L.Perm pV):Sep w pV:=⟨λr a=>h.all r (au.mem_iff.2 a),h.apart.perm au λh=>h.symm⟩
def sub(h:Sep w L)(au:pV.Sublist L):Sep w pV:=⟨λr a=>h.all r (au.subset a),h.apart.sublist au⟩
def zn{T:J->al}(h:Sep w L)(i:J){r r' q:az}(ax:L[i]?=some r)(hk:Keeps T w w')(e:∀ b,b<w.heap.size->T b->r.S b)(d:r'.P w')(ar:∀ b,r'.S b->r.S b\/w.heap.size<=b)(f:q.P w')(av:∀ b,q.S b->w.heap.size<=b)(bh:r3 q r'):Sep w' (q :: L.set i r'):=by
 have h2:=h.set i ax hk e d ar;refine⟨λs aw=>?_,kb.2 ⟨λs aw b a c=>?_,h2.apart⟩⟩
 .rcases ff.1 aw with rfl|aw
  .exact f
  exact h2.all s aw
 rcases xk aw with aw|rfl
 .have:=h.lt aw c
  have:=av b a
  omega
 exact bh b a c
def iY{A B:ah az}{r:az}(h:Sep w (r :: (A++B))):Sep w (A++r :: B):=h.perm qJ.symm
def rj{A B:ah az}{r q:az}(h:Sep w (r :: (A++q :: B))):Sep w (A++q :: r :: B):=h.perm (qJ.symm.trans ((Perm.swap q r B).append_left A))
def Za{A B:ah az}{r:az}(h:Sep w (A++r :: B)):Sep w (A++B):=h.sub ((sublist_cons_self r B).append_left A)
def qx{A B:ah az}{r q:az}(h:Sep w (A++q :: r :: B)):Sep w (A++q :: B):=h.sub (((sublist_cons_self r B).cons_cons q).append_left A)
end Sep
section
variable{w w':aj}{b:gk}{s:bM}{p:cq}{o:J}{sd:ay}{m:a1}{R:ah az}{d:gG}{A:ah az}
def BD(h:Sep w (bH b s d++R)):w.heap[b.p]?=some (af (pe b s d.mL) 114 (0,0)):=h.at' 0 rfl
def hq(h:Sep w (bH b s d++R)):IsCore w b.c s.x:=h.at' 1 rfl
def nj(h:Sep w (bH b s d++R)):IsLink w b.L s.aF:=h.at' 2 rfl
def ni(h:Sep w (bH b s d++R)):IsLd w ⟨b.lb,b.cV,b.hA,d.M⟩ s.ld:=h.at' 3 rfl
def BH(h:Sep w (bH b s d++R)):∃ bV,k2 w b.fl d.cA d.dh bV:=h.at' 4 rfl
def BG(h:Sep w (bH b s d++R)):∃ ps,lJ w b.ed d.dq ps:=h.at' 5 rfl
def HP(h:Sep w (bH b s d++R)):r5 w b.ec:=h.at' 6 rfl
def BK(h:Sep w (bH b s d++R)):IsSm w b.dB s.own:=h.at' 7 rfl
def v_(h:Sep w (bH b s d++R)):IsSm w b.wt s.wt:=h.at' 8 rfl
def nh(h:Sep w (bH b s d++R))(k:J){v:ay}(aU:(pe b s d.mL)[k]?=some v):w.cell? (ae b.p k ad)=some v:=bf (BD h) aU
def lW(h:Sep w (bH b s d++R)):w.cell? (ae b.p 0 ad)=some (.pointer (some (ae b.c.c 0 ad))):=nh h 0 rfl
def pf(h:Sep w (bH b s d++R)):w.cell? (ae b.p 1 ad)=some (.pointer (some (ae b.L.p 0 ad))):=nh h 1 rfl
def tV(h:Sep w (bH b s d++R)):w.cell? (ae b.p 2 ad)=some (.pointer (some (ae b.lb 0 ad))):=nh h 2 rfl
def v8(h:Sep w (bH b s d++R)):w.cell? (ae b.p 3 ad)=some (.pointer (some (ae b.fl 0 ad))):=nh h 3 rfl
def tW(h:Sep w (bH b s d++R)):w.cell? (ae b.p 4 ad)=some (.pointer (some (ae b.ed 0 ad))):=nh h 4 rfl
def HN(h:Sep w (bH b s d++R)):w.cell? (ae b.p 5 ad)=some (.pointer (some (ae b.ec 0 ad))):=nh h 5 rfl
def BE(h:Sep w (bH b s d++R)):w.cell? (ae b.p 6 ad)=some (.map (some b.dB)):=nh h 6 rfl
def BF(h:Sep w (bH b s d++R)):w.cell? (ae b.p 7 ad)=some (.map (some b.wt)):=nh h 7 rfl
def HO(h:Sep w (bH b s d++R)):w.cell? (ae b.p 8 ad)=some (I s.cz):=nh h 8 rfl
def p'(h:Sep w (bH b s d++R)):w.cell? (ae b.p 9 ad)=some (.bool s.cc):=nh h 9 rfl
def HM(h:Sep w (bH b s d++R)):w.cell? (ae b.p 10 ad)=some (I s.reason):=nh h 10 rfl
def RT(h:Sep w (bH b s d++R)):w.cell? (ae b.p 11 ad)=some (I d.mL):=nh h 11 rfl
def yp(h:Sep w (bH b s d++R))(k:J):w.frozen? (ae b.p k ad)=false:=fO (BD h) k
theorem yq(h:Sep w (bH b s d++R)){x:ct}(a:IsCore w' b.c x)(hk:Keeps b.c.S w w'):Sep w' (bH b {s with x:=x} d++R):=
 h.set 1 (r':=az.core b.c x) rfl hk (λ_ _ h=>h) a (λ_ h=>.inl h)
theorem yr(h:Sep w (bH b s d++R)){l:cd}(a:IsLink w' b.L l)(hk:Keeps b.L.S w w'):Sep w' (bH b {s with aF:=l} d++R):=
 h.set 2 (r':=az.link b.L l) rfl hk (λ_ _ h=>h) a (λ_ h=>.inl h)
def BL(h:Sep w (bH b s d++R)){jT:dN}{s':cO}{v:ay}{l:ah bI}(g:xH w ⟨b.lb,b.cV,b.hA,d.M⟩ w' jT s')(aU:w'.ownsRow w.heap.size 47 12 v l.length (dC l))(av:∀ j,v.ownBlock=some j->¬ jT.S j):Sep w' (az.cF v l :: (bH b {s with ld:=s'} {d with M:=jT.M}++R)):=by
 obtain⟨h1,a,c,e,h2,f⟩:=g;obtain⟨bR,k,m,M⟩:=jT;subst a c e;exact h.zn 3 (r':=az.ld ⟨b.lb,b.cV,b.hA,M⟩ s') (q:=az.cF v l) rfl f (λ_ _ h=>h) h1 h2 (kQ aU (de _)) (λj i=>(aU.lt j i).1) av
def RX(h:Sep w (bH b s d++R))(e:iP w b.ed d.dq w'):∃ dq,Sep w' (bH b s {d with dq:=dq}++R):=by
 obtain⟨dh,bV,h1,h2,c⟩:=e;exact⟨dh,h.set 5 (r':=az.ed b.ed dh) rfl h2 (λ_ _ h=>h) ⟨bV,h1⟩ λj a=>by
  rcases a with a|a
  .exact .inl (.inl a)
  .exact(c j a).imp .inr id⟩
theorem HQ(h:Sep w (bH b s d++R))(a:r5 w' b.ec)(hk:Keeps (λj=>j=b.ec) w w'):Sep w' (bH b s d++R):=
 h.set 6 (r':=az.ec b.ec) rfl hk (λ_ _ h=>h) a (λ_ h=>.inl h)
theorem HS(h:Sep w (bH b s d++R)){M:ah (aa×aa)}(a:IsSm w' b.dB M)(hk:Keeps (λj=>j=b.dB) w w'):Sep w' (bH b {s with own:=M} d++R):=
 h.set 7 (r':=az.iK b.dB M) rfl hk (λ_ _ h=>h) a (λ_ h=>.inl h)
theorem HT(h:Sep w (bH b s d++R)){M:ah (aa×aa)}(a:IsSm w' b.wt M)(hk:Keeps (λj=>j=b.wt) w w'):Sep w' (bH b {s with wt:=M} d++R):=
 h.set 8 (r':=az.iK b.wt M) rfl hk (λ_ _ h=>h) a (λ_ h=>.inl h)
def yo(h:Sep w (bH b s d++R)){s':bM}{n:aa}(k:J)(v:ay)(aU:(pe b s d.mL).setIfInBounds k v=pe b s' n)(h1:s'.x=s.x)(h2:s'.aF=s.aF)(a:s'.ld=s.ld)(c:s'.own=s.own)(e:s'.wt=s.wt):Sep (w.setCell (ae b.p k ad) v) (bH b s' {d with mL:=n}++R):=by
 have:=h.set (w':=w.setCell (ae b.p k ad) v) 0 (r':=az.bd b.p (pe b s' n,114)) rfl (Keeps.setCell (S:=λj=>j=b.p) (Keeps.refl _ w) rfl _) (λ_ _ h=>h) (by have:=b3 (BD h) k v;rw[aU]at this;exact this) (λ_ h=>.inl h)
 simpa[bH,h1,h2,a,c,e]using this
end
section
variable{w w':aj}{b:gk}{p:cq}{o:J}{v sd:ay}{m:a1}{R:ah az}{d:gG}
def kG(h:Sep w (bH b p.1 d++az.out o v sd m p.2 :: R)):w.heap[o]?=some (af #[v,sd,.bool m] 35 (0,0))/\w.ownsRow 0 47 12 v p.2.length (dC p.2):=h.at' 9 rfl
theorem BM(h:Sep w (bH b p.1 d++az.out o v sd m p.2 :: R)){v' sd':ay}{m':a1}{l:ah bI}(c:w'.heap[o]?=some (af #[v',sd',.bool m'] 35 (0,0))/\w'.ownsRow 0 47 12 v' l.length (dC l))(hk:Keeps (λj=>j=o\/v.ownBlock=some j) w w')(ar:∀ j,v'.ownBlock=some j->j=o\/v.ownBlock=some j\/w.heap.size<=j):Sep w' (bH b p.1 d++az.out o v' sd' m' l :: R):=
 h.set 9 (r':=az.out o v' sd' m' l) rfl hk (λ_ _ h=>h) c λj a=>by
  rcases a with a|a
  .exact .inl (.inl a)
  rcases ar j a with e|e|e
  .exact .inl (.inl e)
  .exact .inl (.inr e)
  exact .inr e
end
end
variable{w w':aj}{b:gk}{s:bM}{R:ah az}{d:gG}
def Sq{p:J}{s:gj}{x:ct}{F:aj->al}(h:F w)(b:∀ W W',F W->Keeps (λj=>w.heap.size<=j) W W'->F W')(V:∀ W,F W->W.cell? (ae p 0 ad)=some (.pointer (some (ae s.c 0 ad))))(u:∀ W,F W->IsCore W s x)(v:J->aa)(T:hb x.L (x.now:aa)=some v):aA 137 #[p] w λe w'=>e=.returned (.agg (br v))/\Keeps aG w w':=by
 have O:=aX w (af (br ck) 99);have P:=(bb w).alloc (af (br ck) 99);have y:∀ W W',F W->Keeps aG W W'->F W':=λW W' a k=>b W W' a (k.mono λ_ _ e=>e.elim);have X:=(u _ h).gS;have Q:=ag b;have n:=ag y
 go_in
 go_wp2_with refine dU (ma w) rfl rfl ?_
 generalize w.alloc (af (br ck) 99)=bn at *;have g:=y _ _ (y _ _ h P) (Keeps.refl _ bn).drew;have Z:∀ x:bs F,x.to.cell? (ae p 0 ad)=some (.pointer (some (ae s.c 0 ad))):=λx=>V _ x.held;have N:=ag (λ(W:aj) (t:F W)=>tK (u W t));have r:=ag (λ(W:aj) (t:F W)=>GO (u W t) (x.now:aa) U);rw[T]at r;simp only[ib,pM]at r;have R:bn.drew.heap[w.heap.size]?=some (af (br ck) 99 (0,0)):=O;have S:=P.drew;have Y:w.heap.size<bn.drew.heap.size:=bT O;simp only[Act.put,c8];refine cJ 18 ?_;refine cK (F) (.range 18) 0 18 ?_;refine dK (g) (.range 10) 8 ?_;generalize bn.drew=bn at *;refine so (m:=7) 10 15 #[true,true,true,true,true,true,true,true,true,true,true,false,false,false,false,false,false,false] #[true,true,true,true,true,true,true,true,true,true,false,false,false,false,false,true,false,false] aI aI aI aI aI aI aI gF gF (λK b=>?_) (λK b=>?_)
 all_goals simp only[du,hr]
 .go_simp;refine bE (N.o _ g) ?_;refine b _ _ (g) ?_;refine so (m:=6) 11 15 #[true,true,true,true,true,true,true,true,true,true,true,true,false,false,false,false,false,false] #[true,true,true,true,true,true,true,true,true,true,true,false,false,false,false,true,false,false] aI aI aI aI aI aI aI gF gF (λK b=>?_) (λK b=>?_)
  all_goals simp only[du,hr]
  .go_simp;refine aW (r.o _ g) λao d=>?_;have i:=n.o _ _ g d;refine b _ _ (i) ?_;refine dK (i) [12,13,14] 3 ?_;have f:=n.o _ _ i ((Keeps.refl _ ao).alloc (af (br ck) 99));refine rl 15 f (qB rfl (ma _)) ?_;simp only[Act.put,c8];obtain⟨D,_,l⟩:=dQ (ao.alloc (af (br ck) 99)) 99 60 ao.heap.size (br v) _ sizeOf99 (et _) (et _) (aX ao (af (br ck) 99)) (fw.2 (oy v));have B:=ov (fb (ao.alloc (af (br ck) 99)) ao.heap.size _ (br v) 99 (aX ao (af (br ck) 99)));have av:w.heap.size<ao.heap.size:=by first|omega|(have:=d.size;omega)
   have q:=Q.o _ _ f (l.mono λ_ _ e=>U);have z:=l.heap (cw (d.heap R id) (af (br ck) 99)) U;have G:=cN ((S.trans d).alloc (af (br ck) 99)) l a8;generalize World.setRow (ao.alloc (af (br ck) 99)) ao.heap.size (br v)=M at *;obtain⟨E,C,A⟩:=dQ M 99 60 w.heap.size (br v) _ sizeOf99 (et _) (et _) z (fw.2 (oy v));have H:=cN G A a8;refine rl 16 q (nM rfl rfl rfl D) ?_;simp only[Act.put];refine h9 17 q ?_;go_wp2_with first|refine dn B rfl rfl rfl ?_|refine c7 E rfl rfl rfl rfl ?_
   refine dx (v:=.agg (br v)) C ?_;exact⟨rfl,H⟩
  have f:=n.o _ _ g ((Keeps.refl _ bn).alloc (af (br ck) 99));refine qB rfl (ma _) ?_;refine b _ _ (f) ?_;simp only[Act.put,c8];exact NZ
 have f:=n.o _ _ g ((Keeps.refl _ bn).alloc (af (br ck) 99));refine qB rfl (ma _) ?_;refine b _ _ (f) ?_;simp only[Act.put,c8];refine eH 10 λK b=>?_;go_simp;refine bE (N.o _ f) ?_;refine b _ _ (f) ?_;exact NZ
def Xy{L:ah az}(h:Sep w L):∀ W W',Sep W L->Keeps (λj=>w.heap.size<=j) W W'->Sep W' L:=λ_ _ a k=>a.keeps k λr c j b e=>by have:=h.lt c b;omega
def Ie(h:Sep w (bH b s d++R)):aA 93 #[b.p] w λe w'=>e=.returned (I (iw s))/\∃ q,w'=w.drewN q:=by
 have av:=(hq h).gS;have aV:=ag (λn=>tK ((hq h).drew n));have a:=ag (λn=>Qi ((hq h).drew n));have bz:=lW h;have ak:=(hq h).dO (1-s.x.aN) U;unfold iw bS fv;generalize (s.x.f (1-s.x.aN)).next=dO at *;generalize s.x.now=gS at *
 go_in
 go_wp2_with fail;go_quiet (first|(go_at_call 22;first|exact Calls.quiet_of (jo (aV.o _))|exact hv (jo (aV.o _)))|(go_at_call 156;first|exact Calls.quiet_of (a.o _)|exact hv (a.o _)));go_wp2;go_ret;exact⟨rfl,_,rfl⟩
def Sx(h:Sep w (bH b s d++R))(l:-1000<=s.cz/\s.cz<=1000)(aK:0<=s.aF.cf/\s.aF.cf<=1000000):aA 143 #[b.p] w λe w'=>e=.returned (.bool (sX s))/\∃ q,w'=w.drewN q:=by
 have av:=(hq h).gS;have ak:=(hq h).dO (1-s.x.aN) U;have a:=ag (λn=>Ie (h.drew n));have f:=ag (λn=>TW ((nj h).drew n));have b6:=pf h;have fI:=HO h;have j:IntKind.i64.wrap (iw s-s.cz)=iw s-s.cz:=eG _ (by unfold iw bS fv;omega);have k:IntKind.i64.wrap (Int.tmod s.aF.cf 2)=s.aF.cf%2:=by rw[oS aK.1];exact eG _ U
 unfold sX;generalize iw s=ld at *;generalize s.cz=cz at *;generalize s.aF.cf=oM at *;by_cases an:4<ld-cz
 .have g:=ei an;have i:decide (oM%2=1)=(oM%2 == 1):=by by_cases c:oM%2=1<;>simp[c]
  rw[i]
  go_in
  exact NO
 have g:=di an
 go_in
 exact NO
def ki(s:bM):al:=∃ v,hb s.x.L (s.x.now:aa)=some v/\∀ k,k<2->bm (v (4+10*k))/\bm (v (4+10*k+1))
def WQ(v:J->aa)(w:aj):(Instr.field 99 (.agg (br v)) 4).run prog w=.ok (.agg (qm v)) w:=aI
def WN(v:J->aa)(w:aj):(Instr.field 93 (.agg (uy v 4)) 0).run prog w=.ok (aL #[ai (v 4),ai (v 5)]) w:=aI
def WO(v:J->aa)(w:aj):(Instr.field 93 (.agg (uy v 14)) 0).run prog w=.ok (aL #[ai (v 14),ai (v 15)]) w:=aI
theorem BX(h:Sep w (bH b s d++R))(v:J->aa)(a:hb s.x.L (s.x.now:aa)=some v):aA 137 #[b.p] w λe w'=>e=.returned (.agg (br v))/\Keeps aG w w':=
 Sq (F:=λW=>Sep W (bH b s d++R)) h (Xy h) (λ_ h=>lW h) (λ_ h=>hq h) v a
def Sr(h:Sep w (bH b s d++R))(av:ki s)(em:aa):aA 160 #[b.p,I em] w λe w'=>(∃ x y,bm x/\bm y/\e=.returned (aL #[ai x,ai y]))/\Keeps aG w w':=by
 have⟨v,u,aU⟩:=av;have g:=aX w (af c_ 91);have r:=(bb w).alloc (af c_ 91);have h1:=h.keep r;have q:=ag (BX h1 v u);have fin:∀ (W:aj) (x y:aa),Keeps aG w W->Keeps aG w ((W.setCell (ae w 0 ad) (ai x)).setCell (ae w 1 ad) (ai y)):=λW x y k=>(k.oH (p:=ae w 0 ad) bx _).oH (p:=ae w 1 ad) bx _;have f:=bW aU fin;have j:bm 0:=by unfold bm;omega
 have c:=bW r g;by_cases h1:em<1
 .have d1:=ei h1;have m:=aO g;have g0:=bP g
  go_in
  go_wp2;have l:=k' c.o.2;refine dx (v:=aL c_) l ?_;exact⟨⟨0,0,j,j,rfl⟩,c.o.1⟩
 by_cases h2:2<em
 .have d1:=di h1;have m:=aO g;have g0:=bP g
  go_in
  go_wp2;have l:=k' c.o.2;refine dx (v:=aL c_) l ?_;exact⟨⟨0,j,0,j,rfl⟩,c.o.1⟩
 have z:=WQ v;rcases (show em=1\/em=2 by omega)with rfl|rfl
 .have ax:=Ki v;have bh:=WN v
  go_in
  go_wp2_with fail;refine aW q.out λao i=>?_;have a:=i.heap c.out.2 id;have t:=ag (c.out.1.trans i);have m:=aO a;have g0:=bP a;have n:=ag a;go_wp2;have a:=n.o;refine dx (v:=aL #[ai (v 4),ai (v 5)]) (k' (kC n.o (ai (v 4)) (ai (v 5)))) ?_;exact⟨⟨_,_,(f.out.1 0 U).1,(f.out.1 0 U).2,rfl⟩,f.out.2 _ _ _ t.o⟩
 have ax:=Kj v;have bh:=WO v
 go_in
 go_wp2_with fail;refine aW q.out λao i=>?_;have a:=i.heap c.out.2 id;have m:=aO a;have g0:=bP a;go_wp2;have a:=a;refine dx (v:=aL #[ai (v 14),ai (v 15)]) (k' (kC a (ai (v 14)) (ai (v 15)))) ?_;exact⟨⟨_,_,(f.out.1 1 U).1,(f.out.1 1 U).2,rfl⟩,f.out.2 _ _ _ (c.out.1.trans i)⟩
section
open Go.Maps
variable{w w':aj}{b:gk}{s:bM}{R:ah az}{d:gG}{q:cq}{o:J}{sd v vl:ay}{m:a1}{l:ah bI}
def A4{v vl:ay}{cs l:ah bI}(ty:TypeId)(aU:w.ownsRow 0 47 12 v cs.length (dC cs))(b:w.ownsRow 0 47 12 vl l.length (dC l))(av:cs.length+l.length<=1000000000):∃ v' ao,(Builtin.append_ #[32,32] ty #[v,vl]).run prog w=.ok v' ao/\ao.ownsRow 0 47 12 v' (cs++l).length (dC (cs++l))/\Keeps (λj=>v.ownBlock=some j) w ao/\∀ j,v'.ownBlock=some j->v.ownBlock=some j\/w.heap.size<=j:=by
 have⟨i,z,ax,s,h1,h2,h⟩:=Iv;have m:dC (cs++l)=dC cs++dC l:=by simp[dC]
 rcases b.2 with⟨rfl,o⟩|⟨g,cap,f,rfl,_⟩
 .obtain rfl:=jP.1 o;refine⟨v,w,?_,by rw[eB];exact aU,Keeps.refl _ _,λj a=>.inl a⟩;rcases aU.2 with⟨rfl,B⟩|⟨g,cap,f,rfl,_,_,an,_⟩
  .simp[Builtin.append_,rM underlying32,sizeOf,typeInfo,ax,Builtin.lenOf,Builtin.firstCells]
  simp[Builtin.append_,rM underlying32,sizeOf,typeInfo,ax,Builtin.lenOf,an,Builtin.firstCells,storeCells]
 have⟨A,x,e,r,_⟩:=cS b;cases e
 have⟨v',ao,q,p,aZ,_,k⟩:=w9 (P:=prog) w 0 32 ty 47 i z 12 96 underlying32 ax s h1 h2 h bt v cs.length (dC cs) aU (ae g 0 ad) l.length cap (dC l) b.1
  (λj u d=>by
   have n:0<l.length:=by
    rcases rW l.length with e|e
    .have:=b.1
     rw[e]at this
     have:=(hD.1 d).1
     omega
    .exact e
   obtain⟨t,y,e,an⟩:=r.at' n;cases e;rw[ij];exact an j u d) (λu d=>by
   obtain⟨c,_,an⟩:=xj.1 d;exact fw.1 (sa c) u an) kd U (de _)
 refine⟨v',ao,q,by rw[m,cx];exact p,(Keeps.refl _ w).grown aZ (λj e=>.inl e),λj a=>?_⟩;rcases k with e|e
 .exact .inl (e▸a)
 rw[a]at e;simp at e;omega
structure gW(L:ah az)(bN:J)(c:bI)(W:aj):al where
 sep:Sep W L
 box:W.heap[bN]?=some (af (dg c) 47 (0,0))
 off:∀ r∈L,¬ r.S bN
theorem gW.keep{L:ah az}{bN:J}{c:bI}(h:gW L bN c w)(hk:Keeps aG w w'):gW L bN c w':=⟨h.sep.keep hk,hk.heap h.box id,h.off⟩
theorem T2{bN:J}{c:bI}(h:w.heap[bN]?=some (af (dg c) 47 (0,0))):(Instr.loadAt 45 (.pointer (some (ae bN 1 ad)))).run prog w=.ok (.agg (dD c.bg)) w:=
 gd (P:=prog) 45 9 bN 1 (dD c.bg) _ _ isAgg45 sizeOf45 rfl h (λj u a=>by
  have b:=(jv.1 a).1
  have:(dD c.bg).size=9:=rfl
  rw[show(dg c)[1+j]?=(dD c.bg)[j]? from by
   match j,(show j<9 by omega)with
   | 0,_=>rfl
   | 1,_=>rfl
   | 2,_=>rfl
   | 3,_=>rfl
   | 4,_=>rfl
   | 5,_=>rfl
   | 6,_=>rfl
   | 7,_=>rfl
   | 8,_=>rfl]
  exact a)
variable{bN:J}{c:bI}{A:ah az}
def gW.lt(h:gW A bN c w):bN<w.heap.size:=bT h.box
theorem gW.fl(h:gW (bH b s d++A) bN c w)(i:ig w b.fl d.cA d.dh w'):∃ d:gG,gW (bH b s d++A) bN c w':=by
 obtain⟨dh,bV,h1,h2,g⟩:=i;have av:=h.off (az.fl b.fl d.cA d.dh) (by simp[bH]);refine⟨{d with dh:=dh},h.sep.set 4 (r':=az.fl b.fl d.cA dh) rfl h2 (λ_ _ h=>h) ⟨bV,h1⟩ (λj a=>?_),h2.heap h.box av,λr f a=>?_⟩
 .exact MZ
 have f:r∈(bH b s d++A).set 4 (az.fl b.fl d.cA dh):=f;rcases xk f with f|rfl
 .exact h.off r f a
 rcases a with a|a
 .exact av (.inl a)
 rcases g _ a with e|e
 .exact av (.inr e)
 have:=h.lt;omega
theorem gW.ed(h:gW (bH b s d++A) bN c w)(i:iP w b.ed d.dq w'):∃ d:gG,gW (bH b s d++A) bN c w':=by
 obtain⟨dh,bV,h1,h2,g⟩:=i;have av:=h.off (az.ed b.ed d.dq) (by simp[bH]);refine⟨{d with dq:=dh},h.sep.set 5 (r':=az.ed b.ed dh) rfl h2 (λ_ _ h=>h) ⟨bV,h1⟩ (λj a=>?_),h2.heap h.box av,λr f a=>?_⟩
 .exact MZ
 have f:r∈(bH b s d++A).set 5 (az.ed b.ed dh):=f;rcases xk f with f|rfl
 .exact h.off r f a
 rcases a with a|a
 .exact av (.inl a)
 rcases g _ a with e|e
 .exact av (.inr e)
 have:=h.lt;omega
theorem gW.mL(h:gW (bH b s d++A) bN c w)(n:aa):gW (bH b s {d with mL:=n}++A) bN c (w.setCell (ae b.p 11 ad) (I n)):=by
 have av:=h.off (az.bd b.p (pe b s d.mL,114)) (by simp[bH]);refine⟨yo h.sep 11 (I n) rfl rfl rfl rfl rfl rfl,(Keeps.setCell (S:=λj=>j=b.p) (Keeps.refl _ w) rfl _).heap h.box av,λr a e=>?_⟩;have a:r∈(bH b s d++A).set 0 (az.bd b.p (pe b s n,114)):=a;rcases xk a with a|rfl
 .exact h.off r a e
 exact av e
end
end Go.Proofs.YtalagblioepadaaGreatDoor
