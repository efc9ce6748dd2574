/- The proof, part 4. -/
import Derived.Test.YtalagblioepadaaGreatDoorZe01
import Derived.Deep.LoopGhost
namespace Go.Proofs.YtalagblioepadaaGreatDoor
set_option linter.all false
open List Go.RowKit
set_option maxRecDepth 100000
variable{ww:Prop}
def tp(h:ww:=by rw[cG,jG];go_num):=h
def RS {p:ae} (h:p:=by
 refine SD;refine cS 8 ?_;refine cJ (G) (.range 8) 0 8 ?_;refine dN (b) (.range 6) 2 ?_;refine vr;refine eK 6 λK E=>?_;refine UH;refine dN (B) [7] 0 ?_;refine pA ?_;have bK:=bH.trans (ag.bU (S:=aH) d a1);by_cases a':h<m
 .have an:=y.o h aT a';refine aK;go_roundg (q-(h+1))
  case rel=>exact⟨h+1,q,rfl,cT,rfl,I,z,C,bK⟩
  case measure=>omega
 .have an:=v.o h aT I;refine aK;go_roundg (h-p)
  case rel=>exact⟨p,h,rfl,rfl,rfl,ao,I,I,bK⟩
  case measure=>omega
 ):p:=h
def V5(h:ww:=by refine vp;clear ao h;exact WK):=h
def Jo(h:ww:=by
 go_roundg (xs.length-(j+1))
 case measure=>omega
 case rel=>exact⟨i+1,j+1,ys.set i y,cT,cT,dm _,by rw[R.o];exact vl.o.keep K (by rw[<-R.o,F];rfl),q.o⟩):=h
def WK(h:ww:=by
 refine cg;go_loopg [5,8] 0 (λg _ z wr=>g=0/\z=aa 0/\wr=w)
 case atStart=>exact⟨rfl,rfl,rfl⟩
 case round=>
  obtain⟨rfl,rfl,rfl⟩:=hrel;refine fB;exact⟨b9 _ _,.inl ⟨rfl,λx ak=>nomatch ak⟩⟩):=h
def WU(h:ww:=by
 generalize (r+c4)*(r+c4)=C at *;generalize r+c4=eZ at *;refine aK;refine bJ (b5.o _) ?_;simp only;refine aK;go_roundg j
 case rel=>exact⟨j,r,rfl,rfl,by rw[<-q],D.o,rfl⟩
 case measure=>omega):=h
def WX(h:ww:=by
 refine sm;have d:=ad (d.o.keep ((bd wr).drewN nq));refine aK;go_roundg (xs.length-(k+1))
 case rel=>exact⟨k+1,rfl,I,cT,by rw[z.o];exact d.o⟩
 case measure=>omega):=h
def H_(h:ww:=by
 go_roundg rest.length
 case measure=>omega
 case rel=>exact⟨pre++[e],rest,se.o.1,rfl,tp,⟨_,_,_,rfl⟩,V'.o⟩):=h
def RY(h:ww:=by
 have L:=m.trans (a.mono λj _ l=>wa d l);have r:=ad hfin;refine aK;go_roundg 1
 case rel=>exact⟨1,rfl,I,cT,r.o,L⟩
 case measure=>omega):=h
def R3(h:ww:=by
 have r:=ad hfin;refine aK;go_roundg 0
 case rel=>exact⟨2,rfl,I,cT,r.o,(m.trans (a.mono λj _ l=>wa d l))⟩
 case measure=>omega):=h
def Sn(h:ww:=by
 clear j i;go_wp2;go_roundg (9-(k+1))
 case measure=>omega
 case rel=>exact⟨k+1,rfl,I,cT,by rw[v.o];exact GQ I,rfl⟩):=h
def ajv(h:ww:=by
 refine aK;go_roundg (6-(k+1))
 case rel=>exact⟨k+1,rfl,I,cT,by rw[w'.o];exact l'.o⟩
 case measure=>omega):=h
def Tj(h:ww:=by
 go_roundg (6-(k+1))
 case rel=>exact⟨k+1,rfl,I,cT,by rw[w'.out];exact l'.o⟩
 case measure=>omega):=h
def Tz(h:ww:=by
 refine aK;go_roundg (300-(k+1))
 case rel=>exact⟨k+1,rfl,I,cT,P.o⟩
 case measure=>omega):=h
def TH(h:ww:=by
 go_roundg (64-(j+1))
 case measure=>omega
 case rel=>exact⟨j+1,rfl,I,cT,u,d.drewN (q+k)⟩):=h
def TV(h:ww:=by
 refine aK;go_roundg 1
 case rel=>exact⟨1,rfl,I,cT,g'⟩
 case measure=>omega):=h
def TW(h:ww:=by
 refine aK;go_roundg 0
 case rel=>exact⟨2,rfl,I,cT,g'⟩
 case measure=>omega):=h
def U8(h:ww:=by
 refine aK;go_roundg 1
 case rel=>exact⟨1,rfl,I,cT,_,_,_,_,N.o⟩
 case measure=>omega):=h
def U9(h:ww:=by
 refine aK;go_roundg 0
 case rel=>exact⟨2,rfl,I,cT,_,_,_,_,N.o⟩
 case measure=>omega):=h
end Go.Proofs.YtalagblioepadaaGreatDoor
