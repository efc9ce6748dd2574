/- The proof, part 27. -/
import Derived.Deep.DeepCutAuto
import Derived.Test.YtalagblioepadaaGreatDoorZb26
namespace Go.Proofs.YtalagblioepadaaGreatDoor
set_option linter.all false
open Proofs.Tryz List Go.RowKit
set_option maxRecDepth 100000
set_option maxHeartbeats 1000000
def LY{p:ak}(h:p:=by
 have f0:=bJ f;have r':=((Keeps.refl (λj=>j=o) wc).setCell (p:=ad o 0 ab) rfl (ag 0)).setCell (p:=ad o 1 ab) rfl (ag 0);have CW:=kb f (ag 0) (ag 0);have n:kD b w.heap.size x y z u p q r s w _:=⟨⟨r'.heap l.dT.bc (by have:=O.out;omega),cK l.dT.cv r' a7⟩,r'.heap l.bM U⟩;have cE:=b8 n CW;have Aw:=b8 l f;clear l f r' CW n;go_wp2_with fail
 .go_meet;exact⟨_,rfl,0,0,fS,cE.o.1,cE.o.2⟩
 go_meet;exact⟨_,rfl,dG,d,⟨V.o,X.o⟩,Aw.o.1,Aw.o.2⟩
 ):p:=h
def MG{p:ak}(h:p:=by
 refine a _ _ ((t _).2 A) ?_;clear a K;refine cC (λ_=>True) [11] 0 1 ?_;refine oW 11 trivial (na rfl rfl rfl m') ?_;simp only[Act.put];go_wp2_with fail;go_meet;exact⟨_,rfl,l',l,f⟩
 ):p:=h
def ML{p:ak}(h:p:=by
 simp only[Act.put,c_];refine cC (λ_=>True) [11] 0 1 ?_;refine oW 11 trivial (na rfl rfl rfl m') ?_;simp only[Act.put];go_wp2_with fail;go_meet;exact⟨_,rfl,U,l,f⟩
 ):p:=h
def Lo{p:ak}(h:p:=by
 go_wp2_with fail;go_roundg 1
 case rel=>exact⟨1,rfl,U,by go_num,_,_,_,_,X.out⟩
 omega
 ):p:=h
def Lp{p:ak}(h:p:=by
 go_wp2_with fail;go_roundg 0
 case rel=>exact⟨2,rfl,U,by go_num,_,_,_,_,X.out⟩
 omega
 ):p:=h
variable{w w':ai}
def rp(w:ai)(b:J):ak:=∃ x y z u:aa,(bk x/\bk y/\bk z/\bk u)/\w.heap[b]?=some (ae #[ag x,ag y,ag z,ag u] 278 (0,0))
def Pl(w:ai):az 133 #[] w λe w'=>e=.returned w.heap.size/\w'=w.alloc (ae eG 278):=by
 go_in
 go_wp2;go_ret;exact⟨rfl,rfl⟩
def oO(n:aa):aa:=if 0<n then n-max (n / 8) 1 else if n<0 then hZ (n+max (-n / 8) 1)else 0
def x_{n:aa}(h:bk n):bk (oO n):=by
 unfold oO bk at *;split
 .omega
 split
 .exact ha _
 omega
def xx(n:aa)(h:bk n)(w:ai):az 142 #[ag n] w λe w'=>e=.returned (ag (oO n))/\w=w':=by
 unfold oO;by_cases h1:0<n
 .rw[aD h1];have a:IntKind.i32.wrap (n-max (n / 8) 1)=n-max (n / 8) 1:=by unfold bk at h;exact IntWalk.i32_in _ U
  go_in
  go_wp2;go_ret;exact⟨rfl,rfl⟩
 rw[aA h1];by_cases h2:n<0
 .rw[aD h2];have b:=pI h;have a:IntKind.i64.wrap (-n)=-n:=by unfold bk at h;exact et _ U
  have c:IntKind.i64.wrap (n+max (-n / 8) 1)=n+max (-n / 8) 1:=by unfold bk at h;exact et _ U
  go_in
  go_wp2_with fail;refine br (qD (n+max (-n / 8) 1) w) ?_;go_wp2;go_ret;exact⟨rfl,rfl⟩
 rw[aA h2]
 go_in
 go_wp2;go_ret;exact⟨rfl,rfl⟩
def Tw(x y z u:aa):∃ r,∀ W,(binOp .neq 274 (aM #[ag x,ag y,ag z,ag u]) (aM eG)).run prog W=.ok (.bool r) W:=by
 have av:∃ i,prog.info? 91=some i:=Dz.1 aH;have⟨i,av⟩:=av;have aq:prog.cellsOf 91=2:=aH;have a:prog.underlying 274=some (.array 2 91):=aH;refine⟨!((decide (x=0)&&decide (y=0))&&(decide (z=0)&&decide (u=0))),λW=>?_⟩;have b:(part 91 #[ag x,ag y,ag z,ag u] (0*2)).run prog W=.ok (aM #[ag x,ag y]) W:=aH;have c:(part 91 #[ag x,ag y,ag z,ag u] (1*2)).run prog W=.ok (aM #[ag z,ag u]) W:=aH;have eJ:(part 91 eG (0*2)).run prog W=.ok (aM c0) W:=aH;have fm:(part 91 eG (1*2)).run prog W=.ok (aM c0) W:=aH;have h:(Op.equalIn 10000 274 (aM #[ag x,ag y,ag z,ag u]) (aM eG)).run prog W=.ok ((decide (x=0)&&decide (y=0))&&(decide (z=0)&&decide (u=0))) W:=by
  rw[show(10000:J)=9999+1 from rfl,run_equalIn_array W 9999 _ _ a av,aq,show range 2=[0,1]from rfl];simp only[Op.eqItems,hz,b,eJ,CC,hg];rcases d:(decide (x=0)&&decide (y=0))with _|_
  .rfl
  simp only[Bool.not_true,wq,if_false,hz,c,fm,CC,hg];cases (decide (z=0)&&decide (u=0))<;>rfl
 rw[run_neq_struct,h];rfl
structure iO(b:J)(x y z u:aa)(w w':ai):ak where
 bc:w'.heap[b]?=some (ae #[ag x,ag y,ag z,ag u] 278 (0,0))
 cv:Keeps (λj=>j=b) w w'
def iO.keep{b:J}{x y z u:aa}{w w' a:ai}(h:iO b x y z u w w')(hk:Keeps aG w' a):iO b x y z u w a:=⟨hk.heap h.bc id,h.cv.trans (hk.mono λ_ _ e=>e.elim)⟩
def iO.fo{b:J}{x y z u:aa}(h:iO b x y z u w w')(v:aa):iO b v y z u w (w'.setCell (ad b 0 ab) (ag v)):=⟨by simpa using bW h.bc 0 (ag v),h.cv.setCell rfl _⟩
def iO.s1{b:J}{x y z u:aa}(h:iO b x y z u w w')(v:aa):iO b x v z u w (w'.setCell (ad b 1 ab) (ag v)):=⟨by simpa using bW h.bc 1 (ag v),h.cv.setCell rfl _⟩
def iO.s2{b:J}{x y z u:aa}(h:iO b x y z u w w')(v:aa):iO b x y v u w (w'.setCell (ad b 2 ab) (ag v)):=⟨by simpa using bW h.bc 2 (ag v),h.cv.setCell rfl _⟩
def iO.gO{b:J}{x y z u:aa}(h:iO b x y z u w w')(v:aa):iO b x y z v w (w'.setCell (ad b 3 ab) (ag v)):=⟨by simpa using bW h.bc 3 (ag v),h.cv.setCell rfl _⟩
def Pm(b:J)(h:rp w b):az 87 #[b] w λe w'=>(∃ c,e=.returned (.bool c))/\rp w' b/\Keeps (λj=>j=b) w w':=by
 have⟨x,y,z,u,l,aj⟩:=h;have H:=af l;have L:iO b x y z u w w:=⟨aj,Keeps.refl _ w⟩
 go_in
 go_wp2_with fail;go_loopg [7] 2 (λg i wr=>∃ k:J,g=2-k/\k<=2/\i=I k/\∃ x y z u,(bk x/\bk y/\bk z/\bk u)/\iO b x y z u w wr)
 case atStart=>exact⟨0,rfl,U,rfl,x,y,z,u,H.o,L⟩
 obtain⟨k,a1,hk,rfl,x,y,z,u,l,n⟩:=hrel;by_cases Q:k<2
 .have M:k=0\/k=1:=U;rcases M with rfl|rfl
  .have B:=af (λw=>xx x l.1 w);have C:=af (λw=>xx y l.2.1 w);have m:=af l;go_wp2_with fail;have f:=n.keep (a_ wr).drew;have R:=aP f.bc;have g0:=bJ f.bc;have g1:=bJ n.bc;have O:=aP n.bc;go_wp2_with fail;have⟨G,p⟩:=hj (F:=λW=>∃ v,iO b v y z u w W);have N:∀ t:bp G,t.to.cell? (ad b 1 ab)=some (ag y):=λt=>by
    obtain⟨v,aX⟩:=(p _).1 t.held;exact bb aX.bc rfl
   have a:=(p _).2 ⟨_,f⟩;have E:=(p _).2 ⟨_,f.fo (oO x)⟩;refine cB 18 ?_;have hne:Nonempty (bp (G)):=⟨⟨_,a⟩⟩;refine ue (G) (a) [0,1,2,3,4,7,8,9,10] [5,6,11,12,13,14] 3 rfl #[true,true,true,true,true,true,true,true,true,true,true,true,true,true,true,false,false,false] aH aH (λ_ _ _ d _ h=>sN) ?_;simp only[eE,jo,k6,gY]
   repeat (go_big_quiet_step (fail))
   refine wpQuiet_nil ?_;refine ig (jD (a)) ?_;refine f_ λK q=>?_;go_simp;refine br (B.o _) ?_;refine q _ _ (jD (a)) ?_;refine f_ λK q=>?_;go_simp;refine br (C.o _) ?_;refine q _ _ (jD (a)) ?_;refine ig (jD (a)) ?_;refine ig (jD (a)) ?_;refine nM (jD (E)) ?_;refine cC (λ_=>True) [15,16,17] 0 3 ?_;refine gZ 15 trivial ?_;refine gZ 16 trivial ?_;refine hX 17 trivial ?_;have D:=(f.fo (oO x)).s1 (oO y);have A:=af D;go_wp2_with fail;go_roundg 1
   case rel=>exact⟨1,rfl,U,by go_num,_,_,_,_,⟨x_ m.o.1,x_ m.o.2.1,m.o.2.2⟩,A.o⟩
   omega
  have B:=af (λw=>xx z l.2.2.1 w);have C:=af (λw=>xx u l.2.2.2 w);have m:=af l;go_wp2_with fail;have f:=n.keep (a_ wr).drew;have g0:=bJ f.bc;have g1:=bJ n.bc;have O:=aP n.bc;go_wp2_with fail;have⟨G,p⟩:=hj (F:=λW=>∃ v,iO b x y v u w W);have N:∀ t:bp G,t.to.cell? (ad b 3 ab)=some (ag u):=λt=>by
   obtain⟨v,aX⟩:=(p _).1 t.held;exact bb aX.bc rfl
  have a:=(p _).2 ⟨_,f⟩;have E:=(p _).2 ⟨_,f.s2 (oO z)⟩;refine cB 18 ?_;have hne:Nonempty (bp (G)):=⟨⟨_,a⟩⟩;refine ue (G) (a) [0,1,2,3,4,7,8,9,10] [5,6,11,12,13,14] 3 rfl #[true,true,true,true,true,true,true,true,true,true,true,true,true,true,true,false,false,false] aH aH (λ_ _ _ d _ h=>sN) ?_;simp only[eE,jo,k6,gY]
  repeat (go_big_quiet_step (fail))
  refine wpQuiet_nil ?_;refine ig (jD (a)) ?_;refine f_ λK q=>?_;go_simp;refine br (B.o _) ?_;refine q _ _ (jD (a)) ?_;refine f_ λK q=>?_;go_simp;refine br (C.o _) ?_;refine q _ _ (jD (a)) ?_;refine ig (jD (a)) ?_;refine ig (jD (a)) ?_;refine nM (jD (E)) ?_;refine cC (λ_=>True) [15,16,17] 0 3 ?_;refine gZ 15 trivial ?_;refine gZ 16 trivial ?_;refine hX 17 trivial ?_;have D:=(f.s2 (oO z)).gO (oO u);have A:=af D;go_wp2_with fail;go_roundg 0
  case rel=>exact⟨2,rfl,U,by go_num,_,_,_,_,⟨m.o.1,m.o.2.1,x_ m.o.2.2.1,x_ m.o.2.2.2⟩,A.o⟩
  omega
 obtain rfl:k=2:=U;have hne:=Tw x y z u;obtain⟨r,hne⟩:=hne;have P:∀ W,(Instr.build 274 #[]).run prog W=.ok (aM eG) W:=λW=>aH;have bu:=aP n.bc;have s:=b8 l n;go_wp2_with fail;go_ret;exact⟨⟨_,rfl⟩,⟨_,_,_,_,s.o.1,s.o.2.bc⟩,s.o.2.cv⟩
def yC(w:ai):(Instr.alloc 91 true (aV #[])).run prog w=.ok w.heap.size (w.alloc (ae c0 91)):=aH
structure kD(b bM:J)(x y z u p q r s:aa)(w W:ai):ak where
 dT:iO b x y z u w W
 bM:W.heap[bM]?=some (ae #[ag p,ag q,ag r,ag s] 274 (0,0))
theorem kD.keep{b bM:J}{x y z u p q r s:aa}{W W':ai}(h:kD b bM x y z u p q r s w W)(hk:Keeps aG W W'):kD b bM x y z u p q r s w W':=⟨h.dT.keep hk,hk.heap h.bM id⟩
def kD.put{b bM:J}{x y z u p q r s:aa}{W:ai}(h:kD b bM x y z u p q r s w W)(aj:b<w.heap.size)(f:w.heap.size=bM)(o:J)(e:W.heap[o]?=some (ae c0 91 (0,0)))(au:bM<o)(a c:aa):∃ W',(Instr.storeAt 91 o (aM #[ag a,ag c])).run prog W=.ok () W'/\W'.heap[o]?=some (ae #[ag a,ag c] 91 (0,0))/\kD b bM x y z u p q r s w W':=by
 obtain⟨h1,_,d⟩:=dO W 91 2 o #[ag a,ag c] _ sizeOf91 rfl rfl e rfl;exact⟨_,h1,fe _ _ _ _ _ e,⟨d.heap h.dT.bc U,cK h.dT.cv d a7⟩,d.heap h.bM U⟩
def Pk(b:J)(h:rp w b)(p q r s:aa)(ar:bk p/\bk q/\bk r/\bk s):az 140 #[b,aM #[ag p,ag q,ag r,ag s]] w λe w'=>(∃ c,e=.returned (I c))/\rp w' b/\Keeps (λj=>j=b) w w':=by
 have⟨x,y,z,u,vl,aj⟩:=h;have O:=af (bR aj);have Q':=af vl;have ps:=af ar;have V':=(Keeps.refl (λj=>j=b) w).alloc (ae #[ag p,ag q,ag r,ag s] 274);have St:kD b w.heap.size x y z u p q r s w (w.alloc (ae #[ag p,ag q,ag r,ag s] 274)):=⟨⟨cm aj _,V'⟩,aW w _⟩
 go_in
 go_wp2_with fail;go_loopg [5,10] 2 (λg lb i wr=>∃ (k:J) (c:aa),g=2-k/\k<=2/\i=I k/\lb=I c/\∃ x y z u,(bk x/\bk y/\bk z/\bk u)/\kD b w.heap.size x y z u p q r s w wr)
 case atStart=>exact⟨0,0,rfl,U,rfl,rfl,x,y,z,u,Q'.o,St⟩
 obtain⟨k,c,a1,hk,rfl,rfl,x,y,z,u,vl,C⟩:=hrel;have D:=af vl;by_cases l':k<2
 .have Tq:k=0\/k=1:=U;rcases Tq with rfl|rfl
  .have R:=D.out.1;have T:=D.out.2.1;have P:=ps.out.1;have Q:=ps.out.2.1;have E:=af (λW=>t' x y p q R T P Q W);have l':=bR C.bM;go_upto_region 7 with fail
   go_cut [7] (λv' bV=>∃ o,v'=.pointer (some (ad o 0 ab))/\w.heap.size<o/\kD b w.heap.size x y z u p q r s w bV/\bV.heap[o]?=some (ae #[ag (ds x p),ag (ds y q)] 91 (0,0)))
   case first=>
    have H:=C.keep (a_ wr).drew;have⟨G,t⟩:=hj (F:=λW=>kD b w.heap.size x y z u p q r s w W);have h2:=λx:bp G=>aP (((t _).1 x.held).dT.bc);have W':=λx:bp G=>aP (((t _).1 x.held).bM);have sd:=(t _).2 H;go_wp2_with fail;refine cB 12 ?_;refine cC (G) (.range 11) 1 11 ?_;refine de (sd) (.range 9) 2 ?_;refine rQ (m:=1) 9 10 #[true,true,true,true,true,true,true,true,true,true,false,false] #[true,true,true,true,true,true,true,true,true,false,true,false] aH aH aH aH aH aH aH gh gh (λK a=>?_) (λK a=>?_)
    all_goals simp only[dj,gY]
    .go_simp;refine aT (E.o _) λan L=>?_;have v:=Keeps.bE (S:=aG) L a7;have fr:=H.keep v;have A:=fr.keep ((a_ an).alloc (ae c0 91));have T':wr.heap.size<=an.heap.size:=v.size;obtain⟨ys,m',f,l⟩:=A.put O.out rfl an.heap.size (aW an _) U (ds x p) (ds y q);refine a _ _ ((t _).2 fr) ?_;refine jg 10 λK a=>?_;refine p5 rfl (yC an) ?_;refine a _ _ ((t _).2 A) ?_;exact ML
    refine p5 rfl (yC wr.drew) ?_;have gf:=H.keep ((a_ wr.drew).alloc (ae c0 91));have s':=aW wr.drew (ae c0 91);refine a _ _ ((t _).2 gf) ?_;clear a K;simp only[Act.put,c_];refine jg 9 λK a=>?_;go_simp;refine aT (E.o _) λan L=>?_;have v:=Keeps.bE (S:=aG) L a7;have A:=gf.keep v;obtain⟨ys,m',f,l⟩:=A.put O.out rfl wr.heap.size (v.heap s' id) l' (ds x p) (ds y q);exact MG
   case rest=>
   obtain⟨o,rfl,TS,l,f⟩:=hcut;obtain⟨dG,M⟩:=cQ (ds x p);obtain⟨d,N⟩:=cQ (ds y q);have V:=af (show bk dG from M▸ha _);have X:=af (show bk d from N▸ha _);rw[<-M,<-N]at f;have Y:=af (λW=>yR dG d V.o X.o W);clear C E M N R T P Q;have zd:=aP f;go_wp2_with fail;refine br (Y.o _) ?_;go_upto_if 28 with fail
   go_cut [5] (λlb bV=>∃ c:aa,lb=I c/\∃ dG d,(bk dG/\bk d)/\kD b w.heap.size x y z u p q r s w bV/\bV.heap[o]?=some (ae #[ag dG,ag d] 91 (0,0)))
   case first=>
    exact LY
   case rest=>
   obtain⟨c,rfl,dG,d,g',n,hd⟩:=hcut;clear Y zd V X l f;have Z:=n.dT.keep (a_ wc).drew;have bu:=aP n.dT.bc;have f0:=bJ n.dT.bc;have h2:=ie (S:=aG) (w:=wc.drew) hd id;have a':=(Z.fo dG).s1 d;have en:=((Keeps.refl (λj=>j=b) wc.drew).setCell (p:=ad b 0 ab) rfl (ag dG)).setCell (p:=ad b 1 ab) rfl (ag d);have B:=b8 a' (bD (en.heap n.bM (by have:=O.out;omega)) g');clear Z n hd a' en g';go_wp2_with fail;refine cB 7 ?_;refine fk (λ_=>False) (.range 6) [] 1 (hC ?_);refine cC (λ_=>True) [6] 0 1 ?_;refine hX 6 trivial ?_;clear bu f0 h2;go_wp2_with fail;go_roundg 1
   case rel=>exact⟨1,_,rfl,U,by go_num,rfl,_,_,_,_,⟨B.o.2.2.1,B.o.2.2.2,D.out.2.2⟩,B.o.1,B.o.2.1⟩
   omega
  have R:=D.out.2.2.1;have T:=D.out.2.2.2;have P:=ps.out.2.2.1;have Q:=ps.out.2.2.2;have E:=af (λW=>t' z u r s R T P Q W);have l':=bR C.bM;go_upto_region 7 with fail
  go_cut [7] (λv' bV=>∃ o,v'=.pointer (some (ad o 0 ab))/\w.heap.size<o/\kD b w.heap.size x y z u p q r s w bV/\bV.heap[o]?=some (ae #[ag (ds z r),ag (ds u s)] 91 (0,0)))
  case first=>
   have H:=C.keep (a_ wr).drew;have⟨G,t⟩:=hj (F:=λW=>kD b w.heap.size x y z u p q r s w W);have h2:=λx:bp G=>aP (((t _).1 x.held).dT.bc);have W':=λx:bp G=>aP (((t _).1 x.held).bM);have sd:=(t _).2 H;clear C R T P Q;go_wp2_with fail;refine cB 12 ?_;refine cC (G) (.range 11) 1 11 ?_;refine de (sd) (.range 9) 2 ?_;refine rQ (m:=1) 9 10 #[true,true,true,true,true,true,true,true,true,true,false,false] #[true,true,true,true,true,true,true,true,true,false,true,false] aH aH aH aH aH aH aH gh gh (λK a=>?_) (λK a=>?_)
   all_goals simp only[dj,gY]
   .go_simp;refine aT (E.o _) λan L=>?_;have v:=Keeps.bE (S:=aG) L a7;have fr:=H.keep v;have A:=fr.keep ((a_ an).alloc (ae c0 91));have T':wr.heap.size<=an.heap.size:=v.size;obtain⟨ys,m',f,l⟩:=A.put O.out rfl an.heap.size (aW an _) U (ds z r) (ds u s);refine a _ _ ((t _).2 fr) ?_;clear a K;refine jg 10 λK a=>?_;refine p5 rfl (yC an) ?_;refine a _ _ ((t _).2 A) ?_;clear a K;exact ML
   refine p5 rfl (yC wr.drew) ?_;have gf:=H.keep ((a_ wr.drew).alloc (ae c0 91));have s':=aW wr.drew (ae c0 91);refine a _ _ ((t _).2 gf) ?_;clear a K;simp only[Act.put,c_];refine jg 9 λK a=>?_;go_simp;refine aT (E.o _) λan L=>?_;have v:=Keeps.bE (S:=aG) L a7;have A:=gf.keep v;obtain⟨ys,m',f,l⟩:=A.put O.out rfl wr.heap.size (v.heap s' id) l' (ds z r) (ds u s);exact MG
  case rest=>
  obtain⟨o,rfl,TS,l,f⟩:=hcut;obtain⟨dG,M⟩:=cQ (ds z r);obtain⟨d,N⟩:=cQ (ds u s);have V:=af (show bk dG from M▸ha _);have X:=af (show bk d from N▸ha _);rw[<-M,<-N]at f;have Y:=af (λW=>yR dG d V.o X.o W);clear C E M N R T P Q;have zd:=aP f;go_wp2_with fail;refine br (Y.o _) ?_;go_upto_if 28 with fail
  go_cut [5] (λlb bV=>∃ c:aa,lb=I c/\∃ dG d,(bk dG/\bk d)/\kD b w.heap.size x y z u p q r s w bV/\bV.heap[o]?=some (ae #[ag dG,ag d] 91 (0,0)))
  case first=>
   exact LY
  case rest=>
  obtain⟨c,rfl,dG,d,g',n,hd⟩:=hcut;clear Y zd V X l f;have Z:=n.dT.keep (a_ wc).drew;have bu:=aP n.dT.bc;have f0:=bJ n.dT.bc;have h2:=ie (S:=aG) (w:=wc.drew) hd id;have a':=(Z.s2 dG).gO d;have en:=((Keeps.refl (λj=>j=b) wc.drew).setCell (p:=ad b 2 ab) rfl (ag dG)).setCell (p:=ad b 3 ab) rfl (ag d);have B:=b8 a' (bD (en.heap n.bM (by have:=O.out;omega)) g');clear Z n hd a' en g';go_wp2_with fail;refine cB 7 ?_;refine fk (λ_=>False) (.range 6) [] 1 (hC ?_);refine cC (λ_=>True) [6] 0 1 ?_;refine hX 6 trivial ?_;clear bu f0 h2;go_wp2_with fail;go_roundg 0
  case rel=>exact⟨2,_,rfl,U,by go_num,rfl,_,_,_,_,⟨D.out.1,D.out.2.1,B.o.2.2.1,B.o.2.2.2⟩,B.o.1,B.o.2.1⟩
  omega
 obtain rfl:k=2:=U;have zp:=af C;clear C;go_wp2_with fail;go_ret;exact⟨⟨_,rfl⟩,⟨_,_,_,_,D.out,zp.o.dT.bc⟩,zp.o.dT.cv⟩
variable{fa fA:a6 aw}
structure lW(w:ai)(fa fA:a6 aw)(p q r s:aa)(W:ai):ak where
 a:W.heap[w.heap.size]?=some (ae fa 264 (0,0))
 b:W.heap[w.heap.size+1]?=some (ae fA 264 (0,0))
 rs:W.heap[w.heap.size+1+1]?=some (ae eG 274 (0,0))
 g:W.heap[w.heap.size+1+1+1]?=some (ae #[ag p,ag q,ag r,ag s] 274 (0,0))
 fix:bk p/\bk q/\bk r/\bk s
 cv:Keeps aG w W
def lW.keep{p q r s:aa}{W W':ai}(h:lW w fa fA p q r s W)(hk:Keeps aG W W'):lW w fa fA p q r s W':=⟨hk.heap h.a id,hk.heap h.b id,hk.heap h.rs id,hk.heap h.g id,h.fix,h.cv.trans hk⟩
def lW.g0{p q r s:aa}{W:ai}(h:lW w fa fA p q r s W)(x y:aa)(c:bk x/\bk y):lW w fa fA x y r s ((W.setCell (ad (w.heap.size+1+1+1) 0 ab) (ag x)).setCell (ad (w.heap.size+1+1+1) 1 ab) (ag y)):=by
 have k:=((Keeps.refl (λj=>j=w.heap.size+1+1+1) W).setCell (p:=ad (w.heap.size+1+1+1) 0 ab) rfl (ag x)).setCell (p:=ad (w.heap.size+1+1+1) 1 ab) rfl (ag y);exact⟨k.heap h.a U,k.heap h.b U,k.heap h.rs U,by simpa using bW (bW h.g 0 (ag x)) 1 (ag y),⟨c.1,c.2,h.fix.2.2⟩,cK h.cv k a7⟩
def lW.g1{p q r s:aa}{W:ai}(h:lW w fa fA p q r s W)(x y:aa)(c:bk x/\bk y):lW w fa fA p q x y ((W.setCell (ad (w.heap.size+1+1+1) 2 ab) (ag x)).setCell (ad (w.heap.size+1+1+1) 3 ab) (ag y)):=by
 have k:=((Keeps.refl (λj=>j=w.heap.size+1+1+1) W).setCell (p:=ad (w.heap.size+1+1+1) 2 ab) rfl (ag x)).setCell (p:=ad (w.heap.size+1+1+1) 3 ab) rfl (ag y);exact⟨k.heap h.a U,k.heap h.b U,k.heap h.rs U,by simpa using bW (bW h.g 2 (ag x)) 3 (ag y),⟨h.fix.1,h.fix.2.1,c⟩,cK h.cv k a7⟩
def XM(bj:j_ fa)(aj:j_ fA)(w:ai):az 141 #[.agg fa,.agg fA] w λe w'=>(∃ p q r s,(bk p/\bk q/\bk r/\bk s)/\e=.returned (aM #[ag p,ag q,ag r,ag s]))/\Below w w w':=by
 have⟨D,H,f0,a',E,L,f1,fr,vW,s',dT⟩:=bj;have⟨l,u,g',Y,n,y,hd,Z,mQ,vl,kd⟩:=aj;have A:=af (show ∀ j,j<8->fa[j]?=[ag D,ag H,I f0,.bool a',ag E,ag L,I f1,.bool fr][j]? from λj m=>by rw[<-nc,dT,jL uP]);have B:=af (show ∀ j,j<8->fA[j]?=[ag l,ag u,I g',.bool Y,ag n,ag y,I hd,.bool Z][j]? from λj m=>by rw[<-nc,kd,jL uP]);have z:=af s';have C:=af vl;have sd:lW w fa fA 0 0 0 0 ((((w.alloc (ae fa 264)).alloc (ae fA 264)).alloc (ae eG 274)).alloc (ae eG 274)):=by
  have m':(w.alloc (ae fa 264)).heap.size=w.heap.size+1:=aI;have ps:((w.alloc (ae fa 264)).alloc (ae fA 264)).heap.size=w.heap.size+1+1:=aI;have r':(((w.alloc (ae fa 264)).alloc (ae fA 264)).alloc (ae eG 274)).heap.size=w.heap.size+1+1+1:=aI;refine⟨cm (cm (cm (aW w _) _) _) _,cm (cm (m'▸aW _ _) _) _,cm (ps▸aW _ _) _,r'▸aW _ _,fS,((((Keeps.refl _ w).alloc _).alloc _).alloc _).alloc _⟩
 go_in
 go_wp2_with fail;go_loopg [7] 2 (λg i wr=>∃ k:J,g=2-k/\k<=2/\i=I k/\∃ p q r s,lW w fa fA p q r s wr)
 case atStart=>exact⟨0,rfl,U,rfl,_,_,_,_,sd⟩
 obtain⟨k,a1,hk,rfl,p,q,r,s,d⟩:=hrel;by_cases Tq:k<2
 .have v':k=0\/k=1:=U;rcases v' with rfl|rfl
  .have T:=z.out.1;have V:=z.out.2.1;have M:=C.out.1;have N:=C.out.2.1;have P:=af (λW=>Cd D H l u T V M N W);have l':=bb d.a (A.out 3 U);have gf:=bb d.b (B.out 3 U);have h:=d.keep (a_ wr).drew;have⟨G,c⟩:=hj (F:=λW=>lW w fa fA p q r s W);have Aw:∀ t:bp G,t.to.cell? (ad w 0 ab)=some (ag D):=λt=>bb ((c _).1 t.held).a (A.out 0 U);have CW:∀ t:bp G,t.to.cell? (ad w 1 ab)=some (ag H):=λt=>bb ((c _).1 t.held).a (A.out 1 U);have Q':∀ t:bp G,t.to.cell? (ad (w+1) 0 ab)=some (ag l):=λt=>bb ((c _).1 t.held).b (B.out 0 U);have St:∀ t:bp G,t.to.cell? (ad (w+1) 1 ab)=some (ag u):=λt=>bb ((c _).1 t.held).b (B.out 1 U);have Q:=(c _).2 h;have X:=af d;cases a' with
   | false=>
    exact Lo
   | true=>
   cases Y with
   | false=>
    exact Lo
   | true=>
   go_wp2_with fail;refine cB 14 ?_;refine cC (G) (.range 12) 2 12 ?_;refine de (Q) (.range 11) 1 ?_;refine jg 11 λK R=>?_;go_simp;refine aT (P.out _) λan S=>?_;have f:=h.keep (Keeps.bE S a7);refine R _ _ ((c _).2 f) ?_;have bu:=aP f.g;have f0:=bJ f.g;have O:=af (f.g0 (fx D l) (fx H u) ⟨ha _,ha _⟩);refine cC (λ_=>True) [12,13] 0 2 ?_;refine gZ 12 trivial ?_;refine hX 13 trivial ?_;go_wp2_with fail;go_roundg 1
   case rel=>exact⟨1,rfl,U,by go_num,_,_,_,_,O.o⟩
   omega
  have T:=z.out.2.2.1;have V:=z.out.2.2.2;have M:=C.out.2.2.1;have N:=C.out.2.2.2;have P:=af (λW=>Cd E L n y T V M N W);have l':=bb d.a (A.out 7 U);have gf:=bb d.b (B.out 7 U);have h:=d.keep (a_ wr).drew;have⟨G,c⟩:=hj (F:=λW=>lW w fa fA p q r s W);have Aw:∀ t:bp G,t.to.cell? (ad w 4 ab)=some (ag E):=λt=>bb ((c _).1 t.held).a (A.out 4 U);have CW:∀ t:bp G,t.to.cell? (ad w 5 ab)=some (ag L):=λt=>bb ((c _).1 t.held).a (A.out 5 U);have Q':∀ t:bp G,t.to.cell? (ad (w+1) 4 ab)=some (ag n):=λt=>bb ((c _).1 t.held).b (B.out 4 U);have St:∀ t:bp G,t.to.cell? (ad (w+1) 5 ab)=some (ag y):=λt=>bb ((c _).1 t.held).b (B.out 5 U);have Q:=(c _).2 h;have X:=af d;cases fr with
  | false=>
   exact Lp
  | true=>
  cases Z with
  | false=>
   exact Lp
  | true=>
  go_wp2_with fail;refine cB 14 ?_;refine cC (G) (.range 12) 2 12 ?_;refine de (Q) (.range 11) 1 ?_;refine jg 11 λK R=>?_;go_simp;refine aT (P.out _) λan S=>?_;have f:=h.keep (Keeps.bE S a7);refine R _ _ ((c _).2 f) ?_;have bu:=aP f.g;have f0:=bJ f.g;have O:=af (f.g1 (fx E n) (fx L y) ⟨ha _,ha _⟩);refine cC (λ_=>True) [12,13] 0 2 ?_;refine gZ 12 trivial ?_;refine hX 13 trivial ?_;go_wp2_with fail;go_roundg 0
  case rel=>exact⟨2,rfl,U,by go_num,_,_,_,_,O.o⟩
  omega
 obtain rfl:k=2:=U;have h2:=af d;have bu:=aP d.g;obtain⟨zp,zd,ys⟩:=dO wr 274 4 (w.heap.size+1+1) #[ag p,ag q,ag r,ag s] _ sizeOf274 rfl rfl d.rs rfl;have lb:=af ((d.cv.mono λ_ _ x=>x.elim).trans ys);go_wp2_with refine c8 zp rfl rfl rfl rfl ?_
 refine dn (v:=aM #[ag p,ag q,ag r,ag s]) zd ?_;exact⟨⟨_,_,_,_,h2.o.fix,rfl⟩,lb.o.below bA a7⟩
end Go.Proofs.YtalagblioepadaaGreatDoor
