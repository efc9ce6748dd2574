/- The proof, part 27. -/
import Derived.Deep.DeepCutAuto
import Derived.Test.YtalagblioepadaaGreatDoorZc26
namespace Go.Proofs.YtalagblioepadaaGreatDoor
set_option linter.all false
open Proofs.Tryz List Go.RowKit
set_option maxRecDepth 100000
set_option maxHeartbeats 1000000
def Ms{p:ak}(h:p:=by
 have f0:=bI f;have ps:=((Keeps.refl (λj=>j=o) wc).setCell (p:=ad o 0 ab) rfl (ag 0)).setCell (p:=ad o 1 ab) rfl (ag 0);have Aw:=km f (ag 0) (ag 0);have n:kN b w.heap.size x y z u p q r s w _:=⟨⟨ps.heap l.dS.bc (by have:=O.out;omega),cL l.dS.cv ps a7⟩,ps.heap l.bM U⟩;have cF:=b6 n Aw;have zp:=b6 l f;clear l f ps Aw n;go_wp2_with fail
 .go_meet;exact⟨_,rfl,0,0,f_,cF.o.1,cF.o.2⟩
 go_meet;exact⟨_,rfl,dG,d,⟨V.o,X.o⟩,zp.o.1,zp.o.2⟩
 ):p:=h
def Nd{p:ak}(h:p:=by
 refine a _ _ ((t _).2 A) ?_;clear a K;refine cI (λ_=>True) [11] 0 1 ?_;refine o_ 11 trivial (nu rfl rfl rfl mv) ?_;simp only[Act.put];go_wp2_with fail;go_meet;exact⟨_,rfl,l',l,f⟩
 ):p:=h
def Nj{p:ak}(h:p:=by
 simp only[Act.put,c7];refine cI (λ_=>True) [11] 0 1 ?_;refine o_ 11 trivial (nu rfl rfl rfl mv) ?_;simp only[Act.put];go_wp2_with fail;go_meet;exact⟨_,rfl,U,l,f⟩
 ):p:=h
def LX{p:ak}(h:p:=by
 go_wp2_with fail;go_roundg 1
 case rel=>exact⟨1,rfl,U,by go_num,_,_,_,_,X.out⟩
 omega
 ):p:=h
def LY{p:ak}(h:p:=by
 go_wp2_with fail;go_roundg 0
 case rel=>exact⟨2,rfl,U,by go_num,_,_,_,_,X.out⟩
 omega
 ):p:=h
variable{w w':ai}
def rM(w:ai)(b:J):ak:=∃ x y z u:aa,(bj x/\bj y/\bj z/\bj u)/\w.heap[b]?=some (ae #[ag x,ag y,ag z,ag u] 278 (0,0))
def PY(w:ai):aA 133 #[] w λe w'=>e=.returned w.heap.size/\w'=w.alloc (ae eJ 278):=by
 go_in
 go_wp2;go_ret;exact⟨rfl,rfl⟩
def o4(n:aa):aa:=if 0<n then n-max (n / 8) 1 else if n<0 then ia (n+max (-n / 8) 1)else 0
def yu{n:aa}(h:bj n):bj (o4 n):=by
 unfold o4 bj at *;split
 .omega
 split
 .exact hl _
 omega
def xU(n:aa)(h:bj n)(w:ai):aA 142 #[ag n] w λe w'=>e=.returned (ag (o4 n))/\w=w':=by
 unfold o4;by_cases h1:0<n
 .rw[aD h1];have a:IntKind.i32.wrap (n-max (n / 8) 1)=n-max (n / 8) 1:=by unfold bj at h;exact IntWalk.i32_in _ U
  go_in
  go_wp2;go_ret;exact⟨rfl,rfl⟩
 rw[az h1];by_cases h2:n<0
 .rw[aD h2];have b:=pW h;have a:IntKind.i64.wrap (-n)=-n:=by unfold bj at h;exact ev _ U
  have c:IntKind.i64.wrap (n+max (-n / 8) 1)=n+max (-n / 8) 1:=by unfold bj at h;exact ev _ U
  go_in
  go_wp2_with fail;refine bA (qW (n+max (-n / 8) 1) w) ?_;go_wp2;go_ret;exact⟨rfl,rfl⟩
 rw[az h2]
 go_in
 go_wp2;go_ret;exact⟨rfl,rfl⟩
def T9(x y z u:aa):∃ r,∀ W,(binOp .neq 274 (aQ #[ag x,ag y,ag z,ag u]) (aQ eJ)).run prog W=.ok (.bool r) W:=by
 have aw:∃ i,prog.info? 91=some i:=DZ.1 aH;have⟨i,aw⟩:=aw;have al:prog.cellsOf 91=2:=aH;have a:prog.underlying 274=some (.array 2 91):=aH;refine⟨!((decide (x=0)&&decide (y=0))&&(decide (z=0)&&decide (u=0))),λW=>?_⟩;have b:(part 91 #[ag x,ag y,ag z,ag u] (0*2)).run prog W=.ok (aQ #[ag x,ag y]) W:=aH;have c:(part 91 #[ag x,ag y,ag z,ag u] (1*2)).run prog W=.ok (aQ #[ag z,ag u]) W:=aH;have eO:(part 91 eJ (0*2)).run prog W=.ok (aQ c2) W:=aH;have fu:(part 91 eJ (1*2)).run prog W=.ok (aQ c2) W:=aH;have h:(Op.equalIn 10000 274 (aQ #[ag x,ag y,ag z,ag u]) (aQ eJ)).run prog W=.ok ((decide (x=0)&&decide (y=0))&&(decide (z=0)&&decide (u=0))) W:=by
  rw[show(10000:J)=9999+1 from rfl,run_equalIn_array W 9999 _ _ a aw,al,show range 2=[0,1]from rfl];simp only[Op.eqItems,hG,b,eO,C4,hq];rcases d:(decide (x=0)&&decide (y=0))with _|_
  .rfl
  simp only[Bool.not_true,wN,if_false,hG,c,fu,C4,hq];cases (decide (z=0)&&decide (u=0))<;>rfl
 rw[run_neq_struct,h];rfl
structure iU(b:J)(x y z u:aa)(w w':ai):ak where
 bc:w'.heap[b]?=some (ae #[ag x,ag y,ag z,ag u] 278 (0,0))
 cv:Keeps (λj=>j=b) w w'
def iU.keep{b:J}{x y z u:aa}{w w' a:ai}(h:iU b x y z u w w')(hk:Keeps aI w' a):iU b x y z u w a:=⟨hk.heap h.bc id,h.cv.trans (hk.mono λ_ _ e=>e.elim)⟩
def iU.fF{b:J}{x y z u:aa}(h:iU b x y z u w w')(v:aa):iU b v y z u w (w'.setCell (ad b 0 ab) (ag v)):=⟨by simpa using bV h.bc 0 (ag v),h.cv.setCell rfl _⟩
def iU.s1{b:J}{x y z u:aa}(h:iU b x y z u w w')(v:aa):iU b x v z u w (w'.setCell (ad b 1 ab) (ag v)):=⟨by simpa using bV h.bc 1 (ag v),h.cv.setCell rfl _⟩
def iU.s2{b:J}{x y z u:aa}(h:iU b x y z u w w')(v:aa):iU b x y v u w (w'.setCell (ad b 2 ab) (ag v)):=⟨by simpa using bV h.bc 2 (ag v),h.cv.setCell rfl _⟩
def iU.gS{b:J}{x y z u:aa}(h:iU b x y z u w w')(v:aa):iU b x y z v w (w'.setCell (ad b 3 ab) (ag v)):=⟨by simpa using bV h.bc 3 (ag v),h.cv.setCell rfl _⟩
def PZ(b:J)(h:rM w b):aA 87 #[b] w λe w'=>(∃ c,e=.returned (.bool c))/\rM w' b/\Keeps (λj=>j=b) w w':=by
 have⟨x,y,z,u,l,aj⟩:=h;have H:=af l;have L:iU b x y z u w w:=⟨aj,Keeps.refl _ w⟩
 go_in
 go_wp2_with fail;go_loopg [7] 2 (λg i wr=>∃ k:J,g=2-k/\k<=2/\i=I k/\∃ x y z u,(bj x/\bj y/\bj z/\bj u)/\iU b x y z u w wr)
 case atStart=>exact⟨0,rfl,U,rfl,x,y,z,u,H.o,L⟩
 obtain⟨k,aZ,hk,rfl,x,y,z,u,l,n⟩:=hrel;by_cases Q:k<2
 .have M:k=0\/k=1:=U;rcases M with rfl|rfl
  .have B:=af (λw=>xU x l.1 w);have C:=af (λw=>xU y l.2.1 w);have m:=af l;go_wp2_with fail;have f:=n.keep (ba wr).drew;have R:=aS f.bc;have g0:=bI f.bc;have g1:=bI n.bc;have O:=aS n.bc;go_wp2_with fail;have⟨G,p⟩:=hJ (F:=λW=>∃ v,iU b v y z u w W);have N:∀ t:bp G,t.to.cell? (ad b 1 ab)=some (ag y):=λt=>by
    obtain⟨v,aW⟩:=(p _).1 t.held;exact bb aW.bc rfl
   have a:=(p _).2 ⟨_,f⟩;have E:=(p _).2 ⟨_,f.fF (o4 x)⟩;refine cH 18 ?_;have hne:Nonempty (bp (G)):=⟨⟨_,a⟩⟩;refine uz (G) (a) [0,1,2,3,4,7,8,9,10] [5,6,11,12,13,14] 3 rfl #[true,true,true,true,true,true,true,true,true,true,true,true,true,true,true,false,false,false] aH aH (λ_ _ _ d _ h=>sZ) ?_;simp only[eG,jz,lo,hf]
   repeat (go_big_quiet_step (fail))
   refine wpQuiet_nil ?_;refine ir (jN (a)) ?_;refine gi λK q=>?_;go_simp;refine bA (B.o _) ?_;refine q _ _ (jN (a)) ?_;refine gi λK q=>?_;go_simp;refine bA (C.o _) ?_;refine q _ _ (jN (a)) ?_;refine ir (jN (a)) ?_;refine ir (jN (a)) ?_;refine n3 (jN (E)) ?_;refine cI (λ_=>True) [15,16,17] 0 3 ?_;refine hg 15 trivial ?_;refine hg 16 trivial ?_;refine h_ 17 trivial ?_;have D:=(f.fF (o4 x)).s1 (o4 y);have A:=af D;go_wp2_with fail;go_roundg 1
   case rel=>exact⟨1,rfl,U,by go_num,_,_,_,_,⟨yu m.o.1,yu m.o.2.1,m.o.2.2⟩,A.o⟩
   omega
  have B:=af (λw=>xU z l.2.2.1 w);have C:=af (λw=>xU u l.2.2.2 w);have m:=af l;go_wp2_with fail;have f:=n.keep (ba wr).drew;have g0:=bI f.bc;have g1:=bI n.bc;have O:=aS n.bc;go_wp2_with fail;have⟨G,p⟩:=hJ (F:=λW=>∃ v,iU b x y v u w W);have N:∀ t:bp G,t.to.cell? (ad b 3 ab)=some (ag u):=λt=>by
   obtain⟨v,aW⟩:=(p _).1 t.held;exact bb aW.bc rfl
  have a:=(p _).2 ⟨_,f⟩;have E:=(p _).2 ⟨_,f.s2 (o4 z)⟩;refine cH 18 ?_;have hne:Nonempty (bp (G)):=⟨⟨_,a⟩⟩;refine uz (G) (a) [0,1,2,3,4,7,8,9,10] [5,6,11,12,13,14] 3 rfl #[true,true,true,true,true,true,true,true,true,true,true,true,true,true,true,false,false,false] aH aH (λ_ _ _ d _ h=>sZ) ?_;simp only[eG,jz,lo,hf]
  repeat (go_big_quiet_step (fail))
  refine wpQuiet_nil ?_;refine ir (jN (a)) ?_;refine gi λK q=>?_;go_simp;refine bA (B.o _) ?_;refine q _ _ (jN (a)) ?_;refine gi λK q=>?_;go_simp;refine bA (C.o _) ?_;refine q _ _ (jN (a)) ?_;refine ir (jN (a)) ?_;refine ir (jN (a)) ?_;refine n3 (jN (E)) ?_;refine cI (λ_=>True) [15,16,17] 0 3 ?_;refine hg 15 trivial ?_;refine hg 16 trivial ?_;refine h_ 17 trivial ?_;have D:=(f.s2 (o4 z)).gS (o4 u);have A:=af D;go_wp2_with fail;go_roundg 0
  case rel=>exact⟨2,rfl,U,by go_num,_,_,_,_,⟨m.o.1,m.o.2.1,yu m.o.2.2.1,yu m.o.2.2.2⟩,A.o⟩
  omega
 obtain rfl:k=2:=U;have hne:=T9 x y z u;obtain⟨r,hne⟩:=hne;have P:∀ W,(Instr.build 274 #[]).run prog W=.ok (aQ eJ) W:=λW=>aH;have bt:=aS n.bc;have s:=b6 l n;go_wp2_with fail;go_ret;exact⟨⟨_,rfl⟩,⟨_,_,_,_,s.o.1,s.o.2.bc⟩,s.o.2.cv⟩
def yY(w:ai):(Instr.alloc 91 true (aV #[])).run prog w=.ok w.heap.size (w.alloc (ae c2 91)):=aH
structure kN(b bM:J)(x y z u p q r s:aa)(w W:ai):ak where
 dS:iU b x y z u w W
 bM:W.heap[bM]?=some (ae #[ag p,ag q,ag r,ag s] 274 (0,0))
theorem kN.keep{b bM:J}{x y z u p q r s:aa}{W W':ai}(h:kN b bM x y z u p q r s w W)(hk:Keeps aI W W'):kN b bM x y z u p q r s w W':=⟨h.dS.keep hk,hk.heap h.bM id⟩
def kN.put{b bM:J}{x y z u p q r s:aa}{W:ai}(h:kN b bM x y z u p q r s w W)(aj:b<w.heap.size)(f:w.heap.size=bM)(o:J)(e:W.heap[o]?=some (ae c2 91 (0,0)))(ar:bM<o)(a c:aa):∃ W',(Instr.storeAt 91 o (aQ #[ag a,ag c])).run prog W=.ok () W'/\W'.heap[o]?=some (ae #[ag a,ag c] 91 (0,0))/\kN b bM x y z u p q r s w W':=by
 obtain⟨h1,_,d⟩:=dP W 91 2 o #[ag a,ag c] _ sizeOf91 rfl rfl e rfl;exact⟨_,h1,fl _ _ _ _ _ e,⟨d.heap h.dS.bc U,cL h.dS.cv d a7⟩,d.heap h.bM U⟩
def PX(b:J)(h:rM w b)(p q r s:aa)(au:bj p/\bj q/\bj r/\bj s):aA 140 #[b,aQ #[ag p,ag q,ag r,ag s]] w λe w'=>(∃ c,e=.returned (I c))/\rM w' b/\Keeps (λj=>j=b) w w':=by
 have⟨x,y,z,u,s',aj⟩:=h;have O:=af (bP aj);have CW:=af s';have m':=af au;have T':=(Keeps.refl (λj=>j=b) w).alloc (ae #[ag p,ag q,ag r,ag s] 274);have Q':kN b w.heap.size x y z u p q r s w (w.alloc (ae #[ag p,ag q,ag r,ag s] 274)):=⟨⟨cm aj _,T'⟩,aX w _⟩
 go_in
 go_wp2_with fail;go_loopg [5,10] 2 (λg lb i wr=>∃ (k:J) (c:aa),g=2-k/\k<=2/\i=I k/\lb=I c/\∃ x y z u,(bj x/\bj y/\bj z/\bj u)/\kN b w.heap.size x y z u p q r s w wr)
 case atStart=>exact⟨0,0,rfl,U,rfl,rfl,x,y,z,u,CW.o,Q'⟩
 obtain⟨k,c,aZ,hk,rfl,rfl,x,y,z,u,s',C⟩:=hrel;have D:=af s';by_cases l':k<2
 .have St:k=0\/k=1:=U;rcases St with rfl|rfl
  .have R:=D.out.1;have T:=D.out.2.1;have P:=m'.out.1;have Q:=m'.out.2.1;have E:=af (λW=>uu x y p q R T P Q W);have l':=bP C.bM;go_upto_region 7 with fail
   go_cut [7] (λvl bU=>∃ o,vl=.pointer (some (ad o 0 ab))/\w.heap.size<o/\kN b w.heap.size x y z u p q r s w bU/\bU.heap[o]?=some (ae #[ag (dj x p),ag (dj y q)] 91 (0,0)))
   case first=>
    have H:=C.keep (ba wr).drew;have⟨G,t⟩:=hJ (F:=λW=>kN b w.heap.size x y z u p q r s w W);have h2:=λx:bp G=>aS (((t _).1 x.held).dS.bc);have V':=λx:bp G=>aS (((t _).1 x.held).bM);have r':=(t _).2 H;go_wp2_with fail;refine cH 12 ?_;refine cI (G) (.range 11) 1 11 ?_;refine dC (r') (.range 9) 2 ?_;refine r3 (m:=1) 9 10 #[true,true,true,true,true,true,true,true,true,true,false,false] #[true,true,true,true,true,true,true,true,true,false,true,false] aH aH aH aH aH aH aH gp gp (λK a=>?_) (λK a=>?_)
    all_goals simp only[dm,hf]
    .go_simp;refine aU (E.o _) λao L=>?_;have v:=Keeps.bD (S:=aI) L a7;have fr:=H.keep v;have A:=fr.keep ((ba ao).alloc (ae c2 91));have TS:wr.heap.size<=ao.heap.size:=v.size;obtain⟨v',mv,f,l⟩:=A.put O.out rfl ao.heap.size (aX ao _) U (dj x p) (dj y q);refine a _ _ ((t _).2 fr) ?_;refine jq 10 λK a=>?_;refine qi rfl (yY ao) ?_;refine a _ _ ((t _).2 A) ?_;exact Nj
    refine qi rfl (yY wr.drew) ?_;have gf:=H.keep ((ba wr.drew).alloc (ae c2 91));have sd:=aX wr.drew (ae c2 91);refine a _ _ ((t _).2 gf) ?_;clear a K;simp only[Act.put,c7];refine jq 9 λK a=>?_;go_simp;refine aU (E.o _) λao L=>?_;have v:=Keeps.bD (S:=aI) L a7;have A:=gf.keep v;obtain⟨v',mv,f,l⟩:=A.put O.out rfl wr.heap.size (v.heap sd id) l' (dj x p) (dj y q);exact Nd
   case rest=>
   obtain⟨o,rfl,Tq,l,f⟩:=hcut;obtain⟨dG,M⟩:=cO (dj x p);obtain⟨d,N⟩:=cO (dj y q);have V:=af (show bj dG from M▸hl _);have X:=af (show bj d from N▸hl _);rw[<-M,<-N]at f;have Y:=af (λW=>za dG d V.o X.o W);clear C E M N R T P Q;have ys:=aS f;go_wp2_with fail;refine bA (Y.o _) ?_;go_upto_if 28 with fail
   go_cut [5] (λlb bU=>∃ c:aa,lb=I c/\∃ dG d,(bj dG/\bj d)/\kN b w.heap.size x y z u p q r s w bU/\bU.heap[o]?=some (ae #[ag dG,ag d] 91 (0,0)))
   case first=>
    exact Ms
   case rest=>
   obtain⟨c,rfl,dG,d,g',n,hd⟩:=hcut;clear Y ys V X l f;have Z:=n.dS.keep (ba wc).drew;have bt:=aS n.dS.bc;have f0:=bI n.dS.bc;have h2:=iq (S:=aI) (w:=wc.drew) hd id;have a':=(Z.fF dG).s1 d;have er:=((Keeps.refl (λj=>j=b) wc.drew).setCell (p:=ad b 0 ab) rfl (ag dG)).setCell (p:=ad b 1 ab) rfl (ag d);have B:=b6 a' (bB (er.heap n.bM (by have:=O.out;omega)) g');clear Z n hd a' er g';go_wp2_with fail;refine cH 7 ?_;refine fs (λ_=>False) (.range 6) [] 1 (hP ?_);refine cI (λ_=>True) [6] 0 1 ?_;refine h_ 6 trivial ?_;clear bt f0 h2;go_wp2_with fail;go_roundg 1
   case rel=>exact⟨1,_,rfl,U,by go_num,rfl,_,_,_,_,⟨B.o.2.2.1,B.o.2.2.2,D.out.2.2⟩,B.o.1,B.o.2.1⟩
   omega
  have R:=D.out.2.2.1;have T:=D.out.2.2.2;have P:=m'.out.2.2.1;have Q:=m'.out.2.2.2;have E:=af (λW=>uu z u r s R T P Q W);have l':=bP C.bM;go_upto_region 7 with fail
  go_cut [7] (λvl bU=>∃ o,vl=.pointer (some (ad o 0 ab))/\w.heap.size<o/\kN b w.heap.size x y z u p q r s w bU/\bU.heap[o]?=some (ae #[ag (dj z r),ag (dj u s)] 91 (0,0)))
  case first=>
   have H:=C.keep (ba wr).drew;have⟨G,t⟩:=hJ (F:=λW=>kN b w.heap.size x y z u p q r s w W);have h2:=λx:bp G=>aS (((t _).1 x.held).dS.bc);have V':=λx:bp G=>aS (((t _).1 x.held).bM);have r':=(t _).2 H;clear C R T P Q;go_wp2_with fail;refine cH 12 ?_;refine cI (G) (.range 11) 1 11 ?_;refine dC (r') (.range 9) 2 ?_;refine r3 (m:=1) 9 10 #[true,true,true,true,true,true,true,true,true,true,false,false] #[true,true,true,true,true,true,true,true,true,false,true,false] aH aH aH aH aH aH aH gp gp (λK a=>?_) (λK a=>?_)
   all_goals simp only[dm,hf]
   .go_simp;refine aU (E.o _) λao L=>?_;have v:=Keeps.bD (S:=aI) L a7;have fr:=H.keep v;have A:=fr.keep ((ba ao).alloc (ae c2 91));have TS:wr.heap.size<=ao.heap.size:=v.size;obtain⟨v',mv,f,l⟩:=A.put O.out rfl ao.heap.size (aX ao _) U (dj z r) (dj u s);refine a _ _ ((t _).2 fr) ?_;clear a K;refine jq 10 λK a=>?_;refine qi rfl (yY ao) ?_;refine a _ _ ((t _).2 A) ?_;clear a K;exact Nj
   refine qi rfl (yY wr.drew) ?_;have gf:=H.keep ((ba wr.drew).alloc (ae c2 91));have sd:=aX wr.drew (ae c2 91);refine a _ _ ((t _).2 gf) ?_;clear a K;simp only[Act.put,c7];refine jq 9 λK a=>?_;go_simp;refine aU (E.o _) λao L=>?_;have v:=Keeps.bD (S:=aI) L a7;have A:=gf.keep v;obtain⟨v',mv,f,l⟩:=A.put O.out rfl wr.heap.size (v.heap sd id) l' (dj z r) (dj u s);exact Nd
  case rest=>
  obtain⟨o,rfl,Tq,l,f⟩:=hcut;obtain⟨dG,M⟩:=cO (dj z r);obtain⟨d,N⟩:=cO (dj u s);have V:=af (show bj dG from M▸hl _);have X:=af (show bj d from N▸hl _);rw[<-M,<-N]at f;have Y:=af (λW=>za dG d V.o X.o W);clear C E M N R T P Q;have ys:=aS f;go_wp2_with fail;refine bA (Y.o _) ?_;go_upto_if 28 with fail
  go_cut [5] (λlb bU=>∃ c:aa,lb=I c/\∃ dG d,(bj dG/\bj d)/\kN b w.heap.size x y z u p q r s w bU/\bU.heap[o]?=some (ae #[ag dG,ag d] 91 (0,0)))
  case first=>
   exact Ms
  case rest=>
  obtain⟨c,rfl,dG,d,g',n,hd⟩:=hcut;clear Y ys V X l f;have Z:=n.dS.keep (ba wc).drew;have bt:=aS n.dS.bc;have f0:=bI n.dS.bc;have h2:=iq (S:=aI) (w:=wc.drew) hd id;have a':=(Z.s2 dG).gS d;have er:=((Keeps.refl (λj=>j=b) wc.drew).setCell (p:=ad b 2 ab) rfl (ag dG)).setCell (p:=ad b 3 ab) rfl (ag d);have B:=b6 a' (bB (er.heap n.bM (by have:=O.out;omega)) g');clear Z n hd a' er g';go_wp2_with fail;refine cH 7 ?_;refine fs (λ_=>False) (.range 6) [] 1 (hP ?_);refine cI (λ_=>True) [6] 0 1 ?_;refine h_ 6 trivial ?_;clear bt f0 h2;go_wp2_with fail;go_roundg 0
  case rel=>exact⟨2,_,rfl,U,by go_num,rfl,_,_,_,_,⟨D.out.1,D.out.2.1,B.o.2.2.1,B.o.2.2.2⟩,B.o.1,B.o.2.1⟩
  omega
 obtain rfl:k=2:=U;have zd:=af C;clear C;go_wp2_with fail;go_ret;exact⟨⟨_,rfl⟩,⟨_,_,_,_,D.out,zd.o.dS.bc⟩,zd.o.dS.cv⟩
variable{fh fD:a6 ax}
structure l9(w:ai)(fh fD:a6 ax)(p q r s:aa)(W:ai):ak where
 a:W.heap[w.heap.size]?=some (ae fh 264 (0,0))
 b:W.heap[w.heap.size+1]?=some (ae fD 264 (0,0))
 rs:W.heap[w.heap.size+1+1]?=some (ae eJ 274 (0,0))
 g:W.heap[w.heap.size+1+1+1]?=some (ae #[ag p,ag q,ag r,ag s] 274 (0,0))
 fix:bj p/\bj q/\bj r/\bj s
 cv:Keeps aI w W
def l9.keep{p q r s:aa}{W W':ai}(h:l9 w fh fD p q r s W)(hk:Keeps aI W W'):l9 w fh fD p q r s W':=⟨hk.heap h.a id,hk.heap h.b id,hk.heap h.rs id,hk.heap h.g id,h.fix,h.cv.trans hk⟩
def l9.g0{p q r s:aa}{W:ai}(h:l9 w fh fD p q r s W)(x y:aa)(c:bj x/\bj y):l9 w fh fD x y r s ((W.setCell (ad (w.heap.size+1+1+1) 0 ab) (ag x)).setCell (ad (w.heap.size+1+1+1) 1 ab) (ag y)):=by
 have k:=((Keeps.refl (λj=>j=w.heap.size+1+1+1) W).setCell (p:=ad (w.heap.size+1+1+1) 0 ab) rfl (ag x)).setCell (p:=ad (w.heap.size+1+1+1) 1 ab) rfl (ag y);exact⟨k.heap h.a U,k.heap h.b U,k.heap h.rs U,by simpa using bV (bV h.g 0 (ag x)) 1 (ag y),⟨c.1,c.2,h.fix.2.2⟩,cL h.cv k a7⟩
def l9.g1{p q r s:aa}{W:ai}(h:l9 w fh fD p q r s W)(x y:aa)(c:bj x/\bj y):l9 w fh fD p q x y ((W.setCell (ad (w.heap.size+1+1+1) 2 ab) (ag x)).setCell (ad (w.heap.size+1+1+1) 3 ab) (ag y)):=by
 have k:=((Keeps.refl (λj=>j=w.heap.size+1+1+1) W).setCell (p:=ad (w.heap.size+1+1+1) 2 ab) rfl (ag x)).setCell (p:=ad (w.heap.size+1+1+1) 3 ab) rfl (ag y);exact⟨k.heap h.a U,k.heap h.b U,k.heap h.rs U,by simpa using bV (bV h.g 2 (ag x)) 3 (ag y),⟨h.fix.1,h.fix.2.1,c⟩,cL h.cv k a7⟩
def Yo(bd:kj fh)(aj:kj fD)(w:ai):aA 141 #[.agg fh,.agg fD] w λe w'=>(∃ p q r s,(bj p/\bj q/\bj r/\bj s)/\e=.returned (aQ #[ag p,ag q,ag r,ag s]))/\Below w w w':=by
 have⟨D,H,f0,a',E,L,f1,fr,wo,sd,dS⟩:=bd;have⟨l,u,g',Y,n,y,hd,Z,nd,s',kn⟩:=aj;have A:=af (show ∀ j,j<8->fh[j]?=[ag D,ag H,I f0,.bool a',ag E,ag L,I f1,.bool fr][j]? from λj m=>by rw[<-nw,dS,jU vc]);have B:=af (show ∀ j,j<8->fD[j]?=[ag l,ag u,I g',.bool Y,ag n,ag y,I hd,.bool Z][j]? from λj m=>by rw[<-nw,kn,jU vc]);have z:=af sd;have C:=af s';have r':l9 w fh fD 0 0 0 0 ((((w.alloc (ae fh 264)).alloc (ae fD 264)).alloc (ae eJ 274)).alloc (ae eJ 274)):=by
  have mv:(w.alloc (ae fh 264)).heap.size=w.heap.size+1:=aK;have m':((w.alloc (ae fh 264)).alloc (ae fD 264)).heap.size=w.heap.size+1+1:=aK;have ps:(((w.alloc (ae fh 264)).alloc (ae fD 264)).alloc (ae eJ 274)).heap.size=w.heap.size+1+1+1:=aK;refine⟨cm (cm (cm (aX w _) _) _) _,cm (cm (mv▸aX _ _) _) _,cm (m'▸aX _ _) _,ps▸aX _ _,f_,((((Keeps.refl _ w).alloc _).alloc _).alloc _).alloc _⟩
 go_in
 go_wp2_with fail;go_loopg [7] 2 (λg i wr=>∃ k:J,g=2-k/\k<=2/\i=I k/\∃ p q r s,l9 w fh fD p q r s wr)
 case atStart=>exact⟨0,rfl,U,rfl,_,_,_,_,r'⟩
 obtain⟨k,aZ,hk,rfl,p,q,r,s,d⟩:=hrel;by_cases St:k<2
 .have vl:k=0\/k=1:=U;rcases vl with rfl|rfl
  .have T:=z.out.1;have V:=z.out.2.1;have M:=C.out.1;have N:=C.out.2.1;have P:=af (λW=>CC D H l u T V M N W);have l':=bb d.a (A.out 3 U);have gf:=bb d.b (B.out 3 U);have h:=d.keep (ba wr).drew;have⟨G,c⟩:=hJ (F:=λW=>l9 w fh fD p q r s W);have zp:∀ t:bp G,t.to.cell? (ad w 0 ab)=some (ag D):=λt=>bb ((c _).1 t.held).a (A.out 0 U);have Aw:∀ t:bp G,t.to.cell? (ad w 1 ab)=some (ag H):=λt=>bb ((c _).1 t.held).a (A.out 1 U);have CW:∀ t:bp G,t.to.cell? (ad (w+1) 0 ab)=some (ag l):=λt=>bb ((c _).1 t.held).b (B.out 0 U);have Q':∀ t:bp G,t.to.cell? (ad (w+1) 1 ab)=some (ag u):=λt=>bb ((c _).1 t.held).b (B.out 1 U);have Q:=(c _).2 h;have X:=af d;cases a' with
   | false=>
    exact LX
   | true=>
   cases Y with
   | false=>
    exact LX
   | true=>
   go_wp2_with fail;refine cH 14 ?_;refine cI (G) (.range 12) 2 12 ?_;refine dC (Q) (.range 11) 1 ?_;refine jq 11 λK R=>?_;go_simp;refine aU (P.out _) λao S=>?_;have f:=h.keep (Keeps.bD S a7);refine R _ _ ((c _).2 f) ?_;have bt:=aS f.g;have f0:=bI f.g;have O:=af (f.g0 (fA D l) (fA H u) ⟨hl _,hl _⟩);refine cI (λ_=>True) [12,13] 0 2 ?_;refine hg 12 trivial ?_;refine h_ 13 trivial ?_;go_wp2_with fail;go_roundg 1
   case rel=>exact⟨1,rfl,U,by go_num,_,_,_,_,O.o⟩
   omega
  have T:=z.out.2.2.1;have V:=z.out.2.2.2;have M:=C.out.2.2.1;have N:=C.out.2.2.2;have P:=af (λW=>CC E L n y T V M N W);have l':=bb d.a (A.out 7 U);have gf:=bb d.b (B.out 7 U);have h:=d.keep (ba wr).drew;have⟨G,c⟩:=hJ (F:=λW=>l9 w fh fD p q r s W);have zp:∀ t:bp G,t.to.cell? (ad w 4 ab)=some (ag E):=λt=>bb ((c _).1 t.held).a (A.out 4 U);have Aw:∀ t:bp G,t.to.cell? (ad w 5 ab)=some (ag L):=λt=>bb ((c _).1 t.held).a (A.out 5 U);have CW:∀ t:bp G,t.to.cell? (ad (w+1) 4 ab)=some (ag n):=λt=>bb ((c _).1 t.held).b (B.out 4 U);have Q':∀ t:bp G,t.to.cell? (ad (w+1) 5 ab)=some (ag y):=λt=>bb ((c _).1 t.held).b (B.out 5 U);have Q:=(c _).2 h;have X:=af d;cases fr with
  | false=>
   exact LY
  | true=>
  cases Z with
  | false=>
   exact LY
  | true=>
  go_wp2_with fail;refine cH 14 ?_;refine cI (G) (.range 12) 2 12 ?_;refine dC (Q) (.range 11) 1 ?_;refine jq 11 λK R=>?_;go_simp;refine aU (P.out _) λao S=>?_;have f:=h.keep (Keeps.bD S a7);refine R _ _ ((c _).2 f) ?_;have bt:=aS f.g;have f0:=bI f.g;have O:=af (f.g1 (fA E n) (fA L y) ⟨hl _,hl _⟩);refine cI (λ_=>True) [12,13] 0 2 ?_;refine hg 12 trivial ?_;refine h_ 13 trivial ?_;go_wp2_with fail;go_roundg 0
  case rel=>exact⟨2,rfl,U,by go_num,_,_,_,_,O.o⟩
  omega
 obtain rfl:k=2:=U;have h2:=af d;have bt:=aS d.g;obtain⟨zd,ys,v'⟩:=dP wr 274 4 (w.heap.size+1+1) #[ag p,ag q,ag r,ag s] _ sizeOf274 rfl rfl d.rs rfl;have lb:=af ((d.cv.mono λ_ _ x=>x.elim).trans v');go_wp2_with refine c8 zd rfl rfl rfl rfl ?_
 refine dq (v:=aQ #[ag p,ag q,ag r,ag s]) ys ?_;exact⟨⟨_,_,_,_,h2.o.fix,rfl⟩,lb.o.below bs a7⟩
end Go.Proofs.YtalagblioepadaaGreatDoor
