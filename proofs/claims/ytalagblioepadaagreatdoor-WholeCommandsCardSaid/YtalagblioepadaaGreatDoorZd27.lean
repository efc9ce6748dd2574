/- The proof, part 27. -/
import Derived.Deep.DeepCutAuto
import Derived.Test.YtalagblioepadaaGreatDoorZd26
namespace Go.Proofs.YtalagblioepadaaGreatDoor
set_option linter.all false
open Proofs.Tryz List Go.RowKit
set_option maxRecDepth 100000
set_option maxHeartbeats 1000000
def M6{p:al}(h:p:=by
 have f0:=bP f;have ps:=((Keeps.refl (λj=>j=o) wc).setCell (p:=ae o 0 ad) rfl (ai 0)).setCell (p:=ae o 1 ad) rfl (ai 0);have Aw:=kC f (ai 0) (ai 0);have n:k4 b w.heap.size x y z u p q r s w _:=⟨⟨ps.heap l.ec.bd (by have:=O.out;omega),cN l.ec.cu ps a8⟩,ps.heap l.bN U⟩;have cI:=bW n Aw;have zp:=bW l f;clear l f ps Aw n;go_wp2_with fail
 .go_meet;exact⟨_,rfl,0,0,gi,cI.o.1,cI.o.2⟩
 go_meet;exact⟨_,rfl,dO,d,⟨V.o,X.o⟩,zp.o.1,zp.o.2⟩
 ):p:=h
def NY{p:al}(h:p:=by
 refine a _ _ ((t _).2 A) ?_;clear a K;refine cK (λ_=>True) [11] 0 1 ?_;refine pv 11 trivial (nM rfl rfl rfl l') ?_;simp only[Act.put];go_wp2_with fail;go_meet;exact⟨_,rfl,lb,l,f⟩
 ):p:=h
def N3{p:al}(h:p:=by
 simp only[Act.put,c8];refine cK (λ_=>True) [11] 0 1 ?_;refine pv 11 trivial (nM rfl rfl rfl l') ?_;simp only[Act.put];go_wp2_with fail;go_meet;exact⟨_,rfl,U,l,f⟩
 ):p:=h
def MA{p:al}(h:p:=by
 go_wp2_with fail;go_roundg 1
 case rel=>exact⟨1,rfl,U,by go_num,_,_,_,_,X.out⟩
 omega
 ):p:=h
def MB{p:al}(h:p:=by
 go_wp2_with fail;go_roundg 0
 case rel=>exact⟨2,rfl,U,by go_num,_,_,_,_,X.out⟩
 omega
 ):p:=h
variable{w w':aj}
def r5(w:aj)(b:J):al:=∃ x y z u:aa,(bm x/\bm y/\bm z/\bm u)/\w.heap[b]?=some (af #[ai x,ai y,ai z,ai u] 278 (0,0))
def QF(w:aj):aA 133 #[] w λe w'=>e=.returned w.heap.size/\w'=w.alloc (af eT 278):=by
 go_in
 go_wp2;go_ret;exact⟨rfl,rfl⟩
def pj(n:aa):aa:=if 0<n then n-max (n / 8) 1 else if n<0 then iz (n+max (-n / 8) 1)else 0
def yL{n:aa}(h:bm n):bm (pj n):=by
 unfold pj bm at *;split
 .omega
 split
 .exact hz _
 omega
def ya(n:aa)(h:bm n)(w:aj):aA 142 #[ai n] w λe w'=>e=.returned (ai (pj n))/\w=w':=by
 unfold pj;by_cases h1:0<n
 .rw[aE h1];have a:IntKind.i32.wrap (n-max (n / 8) 1)=n-max (n / 8) 1:=by unfold bm at h;exact IntWalk.i32_in _ U
  go_in
  go_wp2;go_ret;exact⟨rfl,rfl⟩
 rw[aB h1];by_cases h2:n<0
 .rw[aE h2];have b:=qd h;have a:IntKind.i64.wrap (-n)=-n:=by unfold bm at h;exact eG _ U
  have c:IntKind.i64.wrap (n+max (-n / 8) 1)=n+max (-n / 8) 1:=by unfold bm at h;exact eG _ U
  go_in
  go_wp2_with fail;refine bE (re (n+max (-n / 8) 1) w) ?_;go_wp2;go_ret;exact⟨rfl,rfl⟩
 rw[aB h2]
 go_in
 go_wp2;go_ret;exact⟨rfl,rfl⟩
def UM(x y z u:aa):∃ r,∀ W,(binOp .neq 274 (aL #[ai x,ai y,ai z,ai u]) (aL eT)).run prog W=.ok (.bool r) W:=by
 have ax:∃ i,prog.info? 91=some i:=Ev.1 aI;have⟨i,ax⟩:=ax;have an:prog.cellsOf 91=2:=aI;have a:prog.underlying 274=some (.array 2 91):=aI;refine⟨!((decide (x=0)&&decide (y=0))&&(decide (z=0)&&decide (u=0))),λW=>?_⟩;have b:(part 91 #[ai x,ai y,ai z,ai u] (0*2)).run prog W=.ok (aL #[ai x,ai y]) W:=aI;have c:(part 91 #[ai x,ai y,ai z,ai u] (1*2)).run prog W=.ok (aL #[ai z,ai u]) W:=aI;have eV:(part 91 eT (0*2)).run prog W=.ok (aL c_) W:=aI;have fE:(part 91 eT (1*2)).run prog W=.ok (aL c_) W:=aI;have h:(Op.equalIn 10000 274 (aL #[ai x,ai y,ai z,ai u]) (aL eT)).run prog W=.ok ((decide (x=0)&&decide (y=0))&&(decide (z=0)&&decide (u=0))) W:=by
  rw[show(10000:J)=9999+1 from rfl,run_equalIn_array W 9999 _ _ a ax,an,show range 2=[0,1]from rfl];simp only[Op.eqItems,hW,b,eV,Dz,hE];rcases d:(decide (x=0)&&decide (y=0))with _|_
  .rfl
  simp only[Bool.not_true,w3,if_false,hW,c,fE,Dz,hE];cases (decide (z=0)&&decide (u=0))<;>rfl
 rw[run_neq_struct,h];rfl
structure je(b:J)(x y z u:aa)(w w':aj):al where
 bd:w'.heap[b]?=some (af #[ai x,ai y,ai z,ai u] 278 (0,0))
 cu:Keeps (λj=>j=b) w w'
def je.keep{b:J}{x y z u:aa}{w w' a:aj}(h:je b x y z u w w')(hk:Keeps aG w' a):je b x y z u w a:=⟨hk.heap h.bd id,h.cu.trans (hk.mono λ_ _ e=>e.elim)⟩
def je.fF{b:J}{x y z u:aa}(h:je b x y z u w w')(v:aa):je b v y z u w (w'.setCell (ae b 0 ad) (ai v)):=⟨by simpa using b3 h.bd 0 (ai v),h.cu.setCell rfl _⟩
def je.s1{b:J}{x y z u:aa}(h:je b x y z u w w')(v:aa):je b x v z u w (w'.setCell (ae b 1 ad) (ai v)):=⟨by simpa using b3 h.bd 1 (ai v),h.cu.setCell rfl _⟩
def je.s2{b:J}{x y z u:aa}(h:je b x y z u w w')(v:aa):je b x y v u w (w'.setCell (ae b 2 ad) (ai v)):=⟨by simpa using b3 h.bd 2 (ai v),h.cu.setCell rfl _⟩
def je.gy{b:J}{x y z u:aa}(h:je b x y z u w w')(v:aa):je b x y z v w (w'.setCell (ae b 3 ad) (ai v)):=⟨by simpa using b3 h.bd 3 (ai v),h.cu.setCell rfl _⟩
def QG(b:J)(h:r5 w b):aA 87 #[b] w λe w'=>(∃ c,e=.returned (.bool c))/\r5 w' b/\Keeps (λj=>j=b) w w':=by
 have⟨x,y,z,u,l,ak⟩:=h;have H:=ag l;have L:je b x y z u w w:=⟨ak,Keeps.refl _ w⟩
 go_in
 go_wp2_with fail;go_loopg [7] 2 (λg i wr=>∃ k:J,g=2-k/\k<=2/\i=I k/\∃ x y z u,(bm x/\bm y/\bm z/\bm u)/\je b x y z u w wr)
 case atStart=>exact⟨0,rfl,U,rfl,x,y,z,u,H.o,L⟩
 obtain⟨k,aZ,hk,rfl,x,y,z,u,l,n⟩:=hrel;by_cases Q:k<2
 .have M:k=0\/k=1:=U;rcases M with rfl|rfl
  .have B:=ag (λw=>ya x l.1 w);have C:=ag (λw=>ya y l.2.1 w);have m:=ag l;go_wp2_with fail;have f:=n.keep (bb wr).drew;have R:=aO f.bd;have g0:=bP f.bd;have g1:=bP n.bd;have O:=aO n.bd;go_wp2_with fail;have⟨G,p⟩:=h0 (F:=λW=>∃ v,je b v y z u w W);have N:∀ t:bs G,t.to.cell? (ae b 1 ad)=some (ai y):=λt=>by
    obtain⟨v,aU⟩:=(p _).1 t.held;exact bf aU.bd rfl
   have a:=(p _).2 ⟨_,f⟩;have E:=(p _).2 ⟨_,f.fF (pj x)⟩;refine cJ 18 ?_;have hne:Nonempty (bs (G)):=⟨⟨_,a⟩⟩;refine uN (G) (a) [0,1,2,3,4,7,8,9,10] [5,6,11,12,13,14] 3 rfl #[true,true,true,true,true,true,true,true,true,true,true,true,true,true,true,false,false,false] aI aI (λ_ _ _ d _ h=>th) ?_;simp only[eQ,jQ,lG,hr]
   repeat (go_big_quiet_step (fail))
   refine wpQuiet_nil ?_;refine iH (j2 (a)) ?_;refine gu λK q=>?_;go_simp;refine bE (B.o _) ?_;refine q _ _ (j2 (a)) ?_;refine gu λK q=>?_;go_simp;refine bE (C.o _) ?_;refine q _ _ (j2 (a)) ?_;refine iH (j2 (a)) ?_;refine iH (j2 (a)) ?_;refine ou (j2 (E)) ?_;refine cK (λ_=>True) [15,16,17] 0 3 ?_;refine hs 15 trivial ?_;refine hs 16 trivial ?_;refine h9 17 trivial ?_;have D:=(f.fF (pj x)).s1 (pj y);have A:=ag D;go_wp2_with fail;go_roundg 1
   case rel=>exact⟨1,rfl,U,by go_num,_,_,_,_,⟨yL m.o.1,yL m.o.2.1,m.o.2.2⟩,A.o⟩
   omega
  have B:=ag (λw=>ya z l.2.2.1 w);have C:=ag (λw=>ya u l.2.2.2 w);have m:=ag l;go_wp2_with fail;have f:=n.keep (bb wr).drew;have g0:=bP f.bd;have g1:=bP n.bd;have O:=aO n.bd;go_wp2_with fail;have⟨G,p⟩:=h0 (F:=λW=>∃ v,je b x y v u w W);have N:∀ t:bs G,t.to.cell? (ae b 3 ad)=some (ai u):=λt=>by
   obtain⟨v,aU⟩:=(p _).1 t.held;exact bf aU.bd rfl
  have a:=(p _).2 ⟨_,f⟩;have E:=(p _).2 ⟨_,f.s2 (pj z)⟩;refine cJ 18 ?_;have hne:Nonempty (bs (G)):=⟨⟨_,a⟩⟩;refine uN (G) (a) [0,1,2,3,4,7,8,9,10] [5,6,11,12,13,14] 3 rfl #[true,true,true,true,true,true,true,true,true,true,true,true,true,true,true,false,false,false] aI aI (λ_ _ _ d _ h=>th) ?_;simp only[eQ,jQ,lG,hr]
  repeat (go_big_quiet_step (fail))
  refine wpQuiet_nil ?_;refine iH (j2 (a)) ?_;refine gu λK q=>?_;go_simp;refine bE (B.o _) ?_;refine q _ _ (j2 (a)) ?_;refine gu λK q=>?_;go_simp;refine bE (C.o _) ?_;refine q _ _ (j2 (a)) ?_;refine iH (j2 (a)) ?_;refine iH (j2 (a)) ?_;refine ou (j2 (E)) ?_;refine cK (λ_=>True) [15,16,17] 0 3 ?_;refine hs 15 trivial ?_;refine hs 16 trivial ?_;refine h9 17 trivial ?_;have D:=(f.s2 (pj z)).gy (pj u);have A:=ag D;go_wp2_with fail;go_roundg 0
  case rel=>exact⟨2,rfl,U,by go_num,_,_,_,_,⟨m.o.1,m.o.2.1,yL m.o.2.2.1,yL m.o.2.2.2⟩,A.o⟩
  omega
 obtain rfl:k=2:=U;have hne:=UM x y z u;obtain⟨r,hne⟩:=hne;have P:∀ W,(Instr.build 274 #[]).run prog W=.ok (aL eT) W:=λW=>aI;have bz:=aO n.bd;have s:=bW l n;go_wp2_with fail;go_ret;exact⟨⟨_,rfl⟩,⟨_,_,_,_,s.o.1,s.o.2.bd⟩,s.o.2.cu⟩
def ze(w:aj):(Instr.alloc 91 true (aY #[])).run prog w=.ok w.heap.size (w.alloc (af c_ 91)):=aI
structure k4(b bN:J)(x y z u p q r s:aa)(w W:aj):al where
 ec:je b x y z u w W
 bN:W.heap[bN]?=some (af #[ai p,ai q,ai r,ai s] 274 (0,0))
theorem k4.keep{b bN:J}{x y z u p q r s:aa}{W W':aj}(h:k4 b bN x y z u p q r s w W)(hk:Keeps aG W W'):k4 b bN x y z u p q r s w W':=⟨h.ec.keep hk,hk.heap h.bN id⟩
def k4.put{b bN:J}{x y z u p q r s:aa}{W:aj}(h:k4 b bN x y z u p q r s w W)(ak:b<w.heap.size)(f:w.heap.size=bN)(o:J)(e:W.heap[o]?=some (af c_ 91 (0,0)))(av:bN<o)(a c:aa):∃ W',(Instr.storeAt 91 o (aL #[ai a,ai c])).run prog W=.ok () W'/\W'.heap[o]?=some (af #[ai a,ai c] 91 (0,0))/\k4 b bN x y z u p q r s w W':=by
 obtain⟨h1,_,d⟩:=dQ W 91 2 o #[ai a,ai c] _ sizeOf91 rfl rfl e rfl;exact⟨_,h1,fb _ _ _ _ _ e,⟨d.heap h.ec.bd U,cN h.ec.cu d a8⟩,d.heap h.bN U⟩
def QE(b:J)(h:r5 w b)(p q r s:aa)(au:bm p/\bm q/\bm r/\bm s):aA 140 #[b,aL #[ai p,ai q,ai r,ai s]] w λe w'=>(∃ c,e=.returned (I c))/\r5 w' b/\Keeps (λj=>j=b) w w':=by
 have⟨x,y,z,u,s',ak⟩:=h;have O:=ag (bT ak);have CW:=ag s';have m':=ag au;have T':=(Keeps.refl (λj=>j=b) w).alloc (af #[ai p,ai q,ai r,ai s] 274);have Q':k4 b w.heap.size x y z u p q r s w (w.alloc (af #[ai p,ai q,ai r,ai s] 274)):=⟨⟨cw ak _,T'⟩,aX w _⟩
 go_in
 go_wp2_with fail;go_loopg [5,10] 2 (λg h2 i wr=>∃ (k:J) (c:aa),g=2-k/\k<=2/\i=I k/\h2=I c/\∃ x y z u,(bm x/\bm y/\bm z/\bm u)/\k4 b w.heap.size x y z u p q r s w wr)
 case atStart=>exact⟨0,0,rfl,U,rfl,rfl,x,y,z,u,CW.o,Q'⟩
 obtain⟨k,c,aZ,hk,rfl,rfl,x,y,z,u,s',C⟩:=hrel;have D:=ag s';by_cases lb:k<2
 .have St:k=0\/k=1:=U;rcases St with rfl|rfl
  .have R:=D.out.1;have T:=D.out.2.1;have P:=m'.out.1;have Q:=m'.out.2.1;have E:=ag (λW=>uI x y p q R T P Q W);have lb:=bT C.bN;go_upto_region 7 with fail
   go_cut [7] (λvl b2=>∃ o,vl=.pointer (some (ae o 0 ad))/\w.heap.size<o/\k4 b w.heap.size x y z u p q r s w b2/\b2.heap[o]?=some (af #[ai (dt x p),ai (dt y q)] 91 (0,0)))
   case first=>
    have H:=C.keep (bb wr).drew;have⟨G,t⟩:=h0 (F:=λW=>k4 b w.heap.size x y z u p q r s w W);have hd:=λx:bs G=>aO (((t _).1 x.held).ec.bd);have V':=λx:bs G=>aO (((t _).1 x.held).bN);have r':=(t _).2 H;go_wp2_with fail;refine cJ 12 ?_;refine cK (G) (.range 11) 1 11 ?_;refine dK (r') (.range 9) 2 ?_;refine so (m:=1) 9 10 #[true,true,true,true,true,true,true,true,true,true,false,false] #[true,true,true,true,true,true,true,true,true,false,true,false] aI aI aI aI aI aI aI gF gF (λK a=>?_) (λK a=>?_)
    all_goals simp only[du,hr]
    .go_simp;refine aW (E.o _) λao L=>?_;have v:=Keeps.bJ (S:=aG) L a8;have a':=H.keep v;have A:=a'.keep ((bb ao).alloc (af c_ 91));have TS:wr.heap.size<=ao.heap.size:=v.size;obtain⟨v',l',f,l⟩:=A.put O.out rfl ao.heap.size (aX ao _) U (dt x p) (dt y q);refine a _ _ ((t _).2 a') ?_;refine jG 10 λK a=>?_;refine qB rfl (ze ao) ?_;refine a _ _ ((t _).2 A) ?_;exact N3
    refine qB rfl (ze wr.drew) ?_;have fr:=H.keep ((bb wr.drew).alloc (af c_ 91));have sd:=aX wr.drew (af c_ 91);refine a _ _ ((t _).2 fr) ?_;clear a K;simp only[Act.put,c8];refine jG 9 λK a=>?_;go_simp;refine aW (E.o _) λao L=>?_;have v:=Keeps.bJ (S:=aG) L a8;have A:=fr.keep v;obtain⟨v',l',f,l⟩:=A.put O.out rfl wr.heap.size (v.heap sd id) lb (dt x p) (dt y q);exact NY
   case rest=>
   obtain⟨o,rfl,Tq,l,f⟩:=hcut;obtain⟨dO,M⟩:=cT (dt x p);obtain⟨d,N⟩:=cT (dt y q);have V:=ag (show bm dO from M▸hz _);have X:=ag (show bm d from N▸hz _);rw[<-M,<-N]at f;have Y:=ag (λW=>zx dO d V.o X.o W);clear C E M N R T P Q;have ys:=aO f;go_wp2_with fail;refine bE (Y.o _) ?_;go_upto_if 28 with fail
   go_cut [5] (λh2 b2=>∃ c:aa,h2=I c/\∃ dO d,(bm dO/\bm d)/\k4 b w.heap.size x y z u p q r s w b2/\b2.heap[o]?=some (af #[ai dO,ai d] 91 (0,0)))
   case first=>
    exact M6
   case rest=>
   obtain⟨c,rfl,dO,d,gf,n,g'⟩:=hcut;clear Y ys V X l f;have Z:=n.ec.keep (bb wc).drew;have bz:=aO n.ec.bd;have f0:=bP n.ec.bd;have hd:=iG (S:=aG) (w:=wc.drew) g' id;have ab:=(Z.fF dO).s1 d;have eD:=((Keeps.refl (λj=>j=b) wc.drew).setCell (p:=ae b 0 ad) rfl (ai dO)).setCell (p:=ae b 1 ad) rfl (ai d);have B:=bW ab (bD (eD.heap n.bN (by have:=O.out;omega)) gf);clear Z n g' ab eD gf;go_wp2_with fail;refine cJ 7 ?_;refine fu (λ_=>False) (.range 6) [] 1 (hQ ?_);refine cK (λ_=>True) [6] 0 1 ?_;refine h9 6 trivial ?_;clear bz f0 hd;go_wp2_with fail;go_roundg 1
   case rel=>exact⟨1,_,rfl,U,by go_num,rfl,_,_,_,_,⟨B.o.2.2.1,B.o.2.2.2,D.out.2.2⟩,B.o.1,B.o.2.1⟩
   omega
  have R:=D.out.2.2.1;have T:=D.out.2.2.2;have P:=m'.out.2.2.1;have Q:=m'.out.2.2.2;have E:=ag (λW=>uI z u r s R T P Q W);have lb:=bT C.bN;go_upto_region 7 with fail
  go_cut [7] (λvl b2=>∃ o,vl=.pointer (some (ae o 0 ad))/\w.heap.size<o/\k4 b w.heap.size x y z u p q r s w b2/\b2.heap[o]?=some (af #[ai (dt z r),ai (dt u s)] 91 (0,0)))
  case first=>
   have H:=C.keep (bb wr).drew;have⟨G,t⟩:=h0 (F:=λW=>k4 b w.heap.size x y z u p q r s w W);have hd:=λx:bs G=>aO (((t _).1 x.held).ec.bd);have V':=λx:bs G=>aO (((t _).1 x.held).bN);have r':=(t _).2 H;clear C R T P Q;go_wp2_with fail;refine cJ 12 ?_;refine cK (G) (.range 11) 1 11 ?_;refine dK (r') (.range 9) 2 ?_;refine so (m:=1) 9 10 #[true,true,true,true,true,true,true,true,true,true,false,false] #[true,true,true,true,true,true,true,true,true,false,true,false] aI aI aI aI aI aI aI gF gF (λK a=>?_) (λK a=>?_)
   all_goals simp only[du,hr]
   .go_simp;refine aW (E.o _) λao L=>?_;have v:=Keeps.bJ (S:=aG) L a8;have a':=H.keep v;have A:=a'.keep ((bb ao).alloc (af c_ 91));have TS:wr.heap.size<=ao.heap.size:=v.size;obtain⟨v',l',f,l⟩:=A.put O.out rfl ao.heap.size (aX ao _) U (dt z r) (dt u s);refine a _ _ ((t _).2 a') ?_;clear a K;refine jG 10 λK a=>?_;refine qB rfl (ze ao) ?_;refine a _ _ ((t _).2 A) ?_;clear a K;exact N3
   refine qB rfl (ze wr.drew) ?_;have fr:=H.keep ((bb wr.drew).alloc (af c_ 91));have sd:=aX wr.drew (af c_ 91);refine a _ _ ((t _).2 fr) ?_;clear a K;simp only[Act.put,c8];refine jG 9 λK a=>?_;go_simp;refine aW (E.o _) λao L=>?_;have v:=Keeps.bJ (S:=aG) L a8;have A:=fr.keep v;obtain⟨v',l',f,l⟩:=A.put O.out rfl wr.heap.size (v.heap sd id) lb (dt z r) (dt u s);exact NY
  case rest=>
  obtain⟨o,rfl,Tq,l,f⟩:=hcut;obtain⟨dO,M⟩:=cT (dt z r);obtain⟨d,N⟩:=cT (dt u s);have V:=ag (show bm dO from M▸hz _);have X:=ag (show bm d from N▸hz _);rw[<-M,<-N]at f;have Y:=ag (λW=>zx dO d V.o X.o W);clear C E M N R T P Q;have ys:=aO f;go_wp2_with fail;refine bE (Y.o _) ?_;go_upto_if 28 with fail
  go_cut [5] (λh2 b2=>∃ c:aa,h2=I c/\∃ dO d,(bm dO/\bm d)/\k4 b w.heap.size x y z u p q r s w b2/\b2.heap[o]?=some (af #[ai dO,ai d] 91 (0,0)))
  case first=>
   exact M6
  case rest=>
  obtain⟨c,rfl,dO,d,gf,n,g'⟩:=hcut;clear Y ys V X l f;have Z:=n.ec.keep (bb wc).drew;have bz:=aO n.ec.bd;have f0:=bP n.ec.bd;have hd:=iG (S:=aG) (w:=wc.drew) g' id;have ab:=(Z.s2 dO).gy d;have eD:=((Keeps.refl (λj=>j=b) wc.drew).setCell (p:=ae b 2 ad) rfl (ai dO)).setCell (p:=ae b 3 ad) rfl (ai d);have B:=bW ab (bD (eD.heap n.bN (by have:=O.out;omega)) gf);clear Z n g' ab eD gf;go_wp2_with fail;refine cJ 7 ?_;refine fu (λ_=>False) (.range 6) [] 1 (hQ ?_);refine cK (λ_=>True) [6] 0 1 ?_;refine h9 6 trivial ?_;clear bz f0 hd;go_wp2_with fail;go_roundg 0
  case rel=>exact⟨2,_,rfl,U,by go_num,rfl,_,_,_,_,⟨D.out.1,D.out.2.1,B.o.2.2.1,B.o.2.2.2⟩,B.o.1,B.o.2.1⟩
  omega
 obtain rfl:k=2:=U;have zd:=ag C;clear C;go_wp2_with fail;go_ret;exact⟨⟨_,rfl⟩,⟨_,_,_,_,D.out,zd.o.ec.bd⟩,zd.o.ec.cu⟩
variable{fs fP:a7 ay}
structure mu(w:aj)(fs fP:a7 ay)(p q r s:aa)(W:aj):al where
 a:W.heap[w.heap.size]?=some (af fs 264 (0,0))
 b:W.heap[w.heap.size+1]?=some (af fP 264 (0,0))
 rs:W.heap[w.heap.size+1+1]?=some (af eT 274 (0,0))
 g:W.heap[w.heap.size+1+1+1]?=some (af #[ai p,ai q,ai r,ai s] 274 (0,0))
 fix:bm p/\bm q/\bm r/\bm s
 cu:Keeps aG w W
def mu.keep{p q r s:aa}{W W':aj}(h:mu w fs fP p q r s W)(hk:Keeps aG W W'):mu w fs fP p q r s W':=⟨hk.heap h.a id,hk.heap h.b id,hk.heap h.rs id,hk.heap h.g id,h.fix,h.cu.trans hk⟩
def mu.g0{p q r s:aa}{W:aj}(h:mu w fs fP p q r s W)(x y:aa)(c:bm x/\bm y):mu w fs fP x y r s ((W.setCell (ae (w.heap.size+1+1+1) 0 ad) (ai x)).setCell (ae (w.heap.size+1+1+1) 1 ad) (ai y)):=by
 have k:=((Keeps.refl (λj=>j=w.heap.size+1+1+1) W).setCell (p:=ae (w.heap.size+1+1+1) 0 ad) rfl (ai x)).setCell (p:=ae (w.heap.size+1+1+1) 1 ad) rfl (ai y);exact⟨k.heap h.a U,k.heap h.b U,k.heap h.rs U,by simpa using b3 (b3 h.g 0 (ai x)) 1 (ai y),⟨c.1,c.2,h.fix.2.2⟩,cN h.cu k a8⟩
def mu.g1{p q r s:aa}{W:aj}(h:mu w fs fP p q r s W)(x y:aa)(c:bm x/\bm y):mu w fs fP p q x y ((W.setCell (ae (w.heap.size+1+1+1) 2 ad) (ai x)).setCell (ae (w.heap.size+1+1+1) 3 ad) (ai y)):=by
 have k:=((Keeps.refl (λj=>j=w.heap.size+1+1+1) W).setCell (p:=ae (w.heap.size+1+1+1) 2 ad) rfl (ai x)).setCell (p:=ae (w.heap.size+1+1+1) 3 ad) rfl (ai y);exact⟨k.heap h.a U,k.heap h.b U,k.heap h.rs U,by simpa using b3 (b3 h.g 2 (ai x)) 3 (ai y),⟨h.fix.1,h.fix.2.1,c⟩,cN h.cu k a8⟩
def Y8(bh:kz fs)(ak:kz fP)(w:aj):aA 141 #[.agg fs,.agg fP] w λe w'=>(∃ p q r s,(bm p/\bm q/\bm r/\bm s)/\e=.returned (aL #[ai p,ai q,ai r,ai s]))/\Below w w w':=by
 have⟨D,H,f0,ab,E,L,f1,a',wI,sd,ec⟩:=bh;have⟨l,u,gf,Y,n,y,g',Z,nz,s',kF⟩:=ak;have A:=ag (show ∀ j,j<8->fs[j]?=[ai D,ai H,I f0,.bool ab,ai E,ai L,I f1,.bool a'][j]? from λj m=>by rw[<-mh,ec,jO vt]);have B:=ag (show ∀ j,j<8->fP[j]?=[ai l,ai u,I gf,.bool Y,ai n,ai y,I g',.bool Z][j]? from λj m=>by rw[<-mh,kF,jO vt]);have z:=ag sd;have C:=ag s';have r':mu w fs fP 0 0 0 0 ((((w.alloc (af fs 264)).alloc (af fP 264)).alloc (af eT 274)).alloc (af eT 274)):=by
  have l':(w.alloc (af fs 264)).heap.size=w.heap.size+1:=aM;have m':((w.alloc (af fs 264)).alloc (af fP 264)).heap.size=w.heap.size+1+1:=aM;have ps:(((w.alloc (af fs 264)).alloc (af fP 264)).alloc (af eT 274)).heap.size=w.heap.size+1+1+1:=aM;refine⟨cw (cw (cw (aX w _) _) _) _,cw (cw (l'▸aX _ _) _) _,cw (m'▸aX _ _) _,ps▸aX _ _,gi,((((Keeps.refl _ w).alloc _).alloc _).alloc _).alloc _⟩
 go_in
 go_wp2_with fail;go_loopg [7] 2 (λg i wr=>∃ k:J,g=2-k/\k<=2/\i=I k/\∃ p q r s,mu w fs fP p q r s wr)
 case atStart=>exact⟨0,rfl,U,rfl,_,_,_,_,r'⟩
 obtain⟨k,aZ,hk,rfl,p,q,r,s,d⟩:=hrel;by_cases St:k<2
 .have vl:k=0\/k=1:=U;rcases vl with rfl|rfl
  .have T:=z.out.1;have V:=z.out.2.1;have M:=C.out.1;have N:=C.out.2.1;have P:=ag (λW=>C9 D H l u T V M N W);have lb:=bf d.a (A.out 3 U);have fr:=bf d.b (B.out 3 U);have h:=d.keep (bb wr).drew;have⟨G,c⟩:=h0 (F:=λW=>mu w fs fP p q r s W);have zp:∀ t:bs G,t.to.cell? (ae w 0 ad)=some (ai D):=λt=>bf ((c _).1 t.held).a (A.out 0 U);have Aw:∀ t:bs G,t.to.cell? (ae w 1 ad)=some (ai H):=λt=>bf ((c _).1 t.held).a (A.out 1 U);have CW:∀ t:bs G,t.to.cell? (ae (w+1) 0 ad)=some (ai l):=λt=>bf ((c _).1 t.held).b (B.out 0 U);have Q':∀ t:bs G,t.to.cell? (ae (w+1) 1 ad)=some (ai u):=λt=>bf ((c _).1 t.held).b (B.out 1 U);have Q:=(c _).2 h;have X:=ag d;cases ab with
   | false=>
    exact MA
   | true=>
   cases Y with
   | false=>
    exact MA
   | true=>
   go_wp2_with fail;refine cJ 14 ?_;refine cK (G) (.range 12) 2 12 ?_;refine dK (Q) (.range 11) 1 ?_;refine jG 11 λK R=>?_;go_simp;refine aW (P.out _) λao S=>?_;have f:=h.keep (Keeps.bJ S a8);refine R _ _ ((c _).2 f) ?_;have bz:=aO f.g;have f0:=bP f.g;have O:=ag (f.g0 (fK D l) (fK H u) ⟨hz _,hz _⟩);refine cK (λ_=>True) [12,13] 0 2 ?_;refine hs 12 trivial ?_;refine h9 13 trivial ?_;go_wp2_with fail;go_roundg 1
   case rel=>exact⟨1,rfl,U,by go_num,_,_,_,_,O.o⟩
   omega
  have T:=z.out.2.2.1;have V:=z.out.2.2.2;have M:=C.out.2.2.1;have N:=C.out.2.2.2;have P:=ag (λW=>C9 E L n y T V M N W);have lb:=bf d.a (A.out 7 U);have fr:=bf d.b (B.out 7 U);have h:=d.keep (bb wr).drew;have⟨G,c⟩:=h0 (F:=λW=>mu w fs fP p q r s W);have zp:∀ t:bs G,t.to.cell? (ae w 4 ad)=some (ai E):=λt=>bf ((c _).1 t.held).a (A.out 4 U);have Aw:∀ t:bs G,t.to.cell? (ae w 5 ad)=some (ai L):=λt=>bf ((c _).1 t.held).a (A.out 5 U);have CW:∀ t:bs G,t.to.cell? (ae (w+1) 4 ad)=some (ai n):=λt=>bf ((c _).1 t.held).b (B.out 4 U);have Q':∀ t:bs G,t.to.cell? (ae (w+1) 5 ad)=some (ai y):=λt=>bf ((c _).1 t.held).b (B.out 5 U);have Q:=(c _).2 h;have X:=ag d;cases a' with
  | false=>
   exact MB
  | true=>
  cases Z with
  | false=>
   exact MB
  | true=>
  go_wp2_with fail;refine cJ 14 ?_;refine cK (G) (.range 12) 2 12 ?_;refine dK (Q) (.range 11) 1 ?_;refine jG 11 λK R=>?_;go_simp;refine aW (P.out _) λao S=>?_;have f:=h.keep (Keeps.bJ S a8);refine R _ _ ((c _).2 f) ?_;have bz:=aO f.g;have f0:=bP f.g;have O:=ag (f.g1 (fK E n) (fK L y) ⟨hz _,hz _⟩);refine cK (λ_=>True) [12,13] 0 2 ?_;refine hs 12 trivial ?_;refine h9 13 trivial ?_;go_wp2_with fail;go_roundg 0
  case rel=>exact⟨2,rfl,U,by go_num,_,_,_,_,O.o⟩
  omega
 obtain rfl:k=2:=U;have hd:=ag d;have bz:=aO d.g;obtain⟨zd,ys,v'⟩:=dQ wr 274 4 (w.heap.size+1+1) #[ai p,ai q,ai r,ai s] _ sizeOf274 rfl rfl d.rs rfl;have h2:=ag ((d.cu.mono λ_ _ x=>x.elim).trans v');go_wp2_with refine c7 zd rfl rfl rfl rfl ?_
 refine dx (v:=aL #[ai p,ai q,ai r,ai s]) ys ?_;exact⟨⟨_,_,_,_,hd.o.fix,rfl⟩,h2.o.below bx a8⟩
end Go.Proofs.YtalagblioepadaaGreatDoor
