/- The proof, part 3. -/
import Derived.Test.YtalagblioepadaaGreatDoorZe01
import Derived.Deep.Cut
namespace Go.Proofs.YtalagblioepadaaGreatDoor
set_option linter.all false
open List Go.RowKit
set_option maxRecDepth 100000
variable{ww:Prop}
def ajB(h:ww:=by
 refine SS;refine z8;refine(r'.o _).mono ?_;rintro e t ⟨a,c,rfl,i,sd,j⟩;have ax:=g.o.rz (ag.bU sd a1);go_upto_region 6 with fail
 have ajT:=ax.aJ.lt.1;have N:=aP t (ab (fV m a c) 254);have ax:=ax.rz ((bd t).alloc (ab (fV m a c) 254));have i:=i.keeps ((bd t).alloc (ab (fV m a c) 254)) (λ_ _ _=>id);have j:∀ x,a=some x->w.heap.size<=x.block:=λx ak=>by have:=j x ak;omega
 generalize World.alloc t _=L at *;generalize ?_=O;exact O):=h
def ajs {p:ae} (h:p:=by
 have ax:=g.o.next (V':=L.setCell (ah B.p 5) (aa l.cA)) (l':={l with heard:=l.cA}) H.o (g.o.aJ.set 5 (aa l.cA) _ rfl rfl rfl) (ag.setCell (ag.refl _ _) (.inl rfl) _);have i:=fr.o.keeps (ag.setCell (S:=λb=>b=B.p) (ag.refl _ _) (p:=ah B.p 5) rfl (aa l.cA)) (λ_ x ak e=>by have:=j x ak;omega);refine(dr.o _ a c ax.aJ i (λx ak an=>by have:=j x ak;rcases an with e|e|e|e|e<;>omega) j).mono ?_;rintro e r ⟨⟨f,bB,rfl,d,h2⟩,hd,g'⟩;have gf:=ad h2;have ax:=ax.next H.o hd g';unfold aU;go_upto_region 11 with fail
 have ajR:=ax.aJ.lt.1;have y:=aP r (ab (aU R f bB) 199);have ax:=ax.rz ((bd r).alloc (ab (aU R f bB) 199));have d:=d.keeps ((bd r).alloc (ab (aU R f bB) 199)) (λ_ _ _=>id);simp only[aU]at y ax d;generalize World.alloc r _=M at *;have T':=aX y;have W':=bZ y;have lb:=(ax).aJ.lt;have mv:=bZ (ax).res;generalize ?_=O;exact O
 ):p:=h
def Ss {p:ae} (h:p:=by
 have r':=ad G;clear G;rw[<-D.o]at a8;go_upto_region 6 with fail
 refine xT;refine Dn;clear a8 t;refine VQ;have g':=i.cell (p:=ah c 0) y (λh=>h.elim g.2.1 (λh=>tu));have fo:=(b.drew q).keeps i (λh=>h.elim g.2.2.1 a1) (λh=>h.elim g.2.2.2 a1);have gf:=i.size;gi_wp2;go_wp2;go_roundw
 case rel=>exact⟨k+1,I,cT,K,g',fo,by rw[x.o,aD (by have:=D.o;simp;omega)];exact F,cu z gf⟩
 case measure=>simp[intOf];omega
 ):p:=h
def Dh(h:ww:=by have D:=ad (λv W=>mU.put (v:=v) (W':=W) al b (az aW));clear ar b al aw q;refine aK;refine r.o.mono ?_;rintro _ br ⟨v3,rfl,M,a'⟩;have g:=ad (D.o _ _ (by rw[cG];exact NB M) a');clear M a' D r;refine aK;go_meet;exact g.o):=h
def Vv(h:ww:=by refine Sk;have e4:=ax.aJ.e4;have hA:=ax.aJ.hA;have f5:=ax.aJ.free 5;have cx:=aX N;have ajU:=bZ N;have g:=ad ax;have fr:=ad i;refine aK;refine ajs;have z0:=bV (ax).res;have bR:=aX (ax).res;generalize ?_=O;exact O):=h
def Jn(h:ww:=by refine VV;refine S8;generalize ?_=O;exact O):=h
def W2(h:ww:=by intro s' vl t E _;rw[ahK]at t;have g:=ad (D.o _ _ (by rw[cG];exact NB t) (K.grown E q (λk e=>(ar.lt k e).1)));refine I0;go_meet;exact g.o):=h
def Rc(h:ww:=by have c:1073741824<f:=I;exact R1):=h
def RH(h:ww:=by clear a;exact R1):=h
def RJ {p:ae} (h:p:=by
 refine ob;go_upto_region 5 with fail
 have mv:p<=(p+q) / 2/\(p+q) / 2<q:=I;rw[show((p:U)+(q:U)) / 2=(((p+q) / 2:J):U)by omega];generalize (p+q) / 2=h at *;generalize ?_=O;exact O
 ):p:=h
def xw(h:ww:=by rw[dh aW];have g:=ad (mf.skip ⟨q,a,c,e,aA,av,aw⟩ (λq=>aD aW));clear e aA av aw;exact Jd):=h
def R1(h:ww:=by
 go_in
 go_upto_region 1 with fail
 generalize w.alloc (ab #[aa f] 3)=aq at *;go_quiet (fail);refine fB;exact⟨rfl,⟨S,h1.drew _,b⟩,hk.drewN _⟩):=h
def Sk(h:ww:=by refine vv;generalize World.alloc w _=m' at *;refine ajB;refine UW;generalize ?_=O;exact O):=h
def Sv(h:ww:=by have al:=T.o.2.2.2.2.2.symm.trans ao;refine vw;refine aK;go_meet;exact⟨by rw[vs.o];rfl,rfl⟩):=h
def xy(h:ww:=by rw[dh aW];have g:=ad (C.skip (aD aW));refine qW;go_meet;exact g.o):=h
def Th(h:ww:=by subst E;refine aK;refine bJ (T.o _) ?_;exact I1):=h
def Ti(h:ww:=by refine aK;refine bJ (V.o _) ?_;exact I1):=h
def Ij(h:ww:=by refine vw;have ax:=ad C;exact DA):=h
def ajy(h:ww:=by
 go_upto_region 9 with fail
 generalize World.setCell (World.setCell _ (ah w 3) _) _ _=v1 at *;generalize ?_=O;exact O):=h
def UR(h:ww:=by
 go_in
 go_upto_region 4 with fail
 have ax:=f.o;generalize World.setCell _ _ _=aq at *;generalize ?_=O;exact O):=h
def zR(h:ww:=by clear V a7 i d hk;exact Jd):=h
def IE(h:ww:=by refine aK;go_meet;exact⟨v,by rw[e.o];exact m'.o⟩):=h
def Vo(h:ww:=by clear E n C ax;refine aK;exact Jj):=h
def VB(h:ww:=by clear F;refine aK;go_meet;exact⟨by rw[E.o],rfl⟩):=h
def VV(h:ww:=by
 go_in
 go_upto_region 1 with fail
 generalize World.alloc (World.alloc w _) _=j at *;generalize ?_=O;exact O):=h
def VX(h:ww:=by
 go_upto_region 5 with fail
 have ax:=f.o;generalize World.setCell _ _ _=br at *;generalize ?_=O;exact O):=h
def DA(h:ww:=by refine qW;go_meet;rw[vs.o];exact ax.o):=h
def DI(h:ww:=by refine qW;go_meet;unfold sH;generalize ?_=O;exact O):=h
def I1(h:ww:=by refine aK;go_meet;exact⟨rfl,ax.o⟩):=h
def Wa(h:ww:=by refine aK;go_meet;exact⟨⟨_,rfl⟩,P.o⟩):=h
def Jd(h:ww:=by refine aK;go_meet;exact g.o):=h
def vv(h:ww:=by
 go_upto_region 3 with fail
 generalize ?_=O;exact O):=h
def Jj(h:ww:=by go_meet;exact⟨_,_,f.sep⟩):=h
def Q_(h:ww:=by
 have zp:=zd.keeps fP a1;have ys:=X.trans (fP.below X.size a1);simp only[dV]at N;have M:=ad N;have W:=ad zp;have V:=ad ys;go_upto_region 9 with fail
 generalize World.setCell (World.setCell _ (ah w 3) _) _ _=v1 at *;have hJ:=aX M.o;refine jI;generalize ?_=C;exact C):=h
def Rb(h:ww:=by simp only[Act.put,dV];clear n zd h2 aw ys aj3 v' D S i1 Y;refine sT 8 dr.o.2.1 (l3 rfl rfl rfl s1) ?_;refine pE 9 dr.o.2.2 (l3 rfl rfl rfl s2) ?_;simp only[Act.put];refine jI;go_meet;exact⟨_,_,rfl,rfl,dr.o.1⟩):=h
def Rq(h:ww:=by clear u g1 P g3;exact H7):=h
def Rs(h:ww:=by clear zp u;exact Rz):=h
def H7(h:ww:=by refine jI;go_meet;exact⟨by rw[Q.o],q.o⟩):=h
def Rz(h:ww:=by refine jI;go_meet;exact⟨by rw[Q.o],dr.o⟩):=h
end Go.Proofs.YtalagblioepadaaGreatDoor
