/- The proof, part 4. -/
import Derived.Test.YtalagblioepadaaGreatDoorZb01
import Derived.Test.YtalagblioepadaaGreatDoorRows
namespace Go.Proofs.YtalagblioepadaaGreatDoor
set_option linter.all false
open Proofs.Tryz List Go.RowKit
set_option maxRecDepth 100000
inductive El|mk
def az:El:=.mk
instance:CoeFun El λ_=>FuncId->a6 aw->ai->(Ending->ai->ak)->ak:=⟨λ_=>Calls prog⟩
def dn{p:ak}{fn:Func}{R:Ending->ai->ak}{a:Act}{w:ai}{v:aw}(b:p)(h:R (.returned v) w)(hd:a.defers=[]:=by rfl)(c:p->(results fn a.tmps).run prog w=.ok v w:=by intro h;simp[results,asAddr,loadVar,loadCells,Act.put,isAgg109,isAgg175,isAgg199,isAgg214,isAgg254,isAgg258,isAgg26,isAgg261,isAgg264,isAgg267,isAgg271,isAgg274,isAgg294,isAgg35,isAgg36,isAgg43,isAgg45,isAgg47,isAgg91,isAgg93,isAgg99,results10,results102,results136,results137,results138,results141,results146,results160,results193,results206,results207,results208,results211,results213,results218,results235,results237,results259,results261,results271,results275,results285,results309,results34,results354,results361,results362,results363,results364,results366,results37,results374,results38,results385,results40,results60,results65,results84,sizeOf109,sizeOf175,sizeOf199,sizeOf214,sizeOf254,sizeOf258,sizeOf26,sizeOf261,sizeOf264,sizeOf271,sizeOf274,sizeOf294,sizeOf35,sizeOf43,sizeOf45,sizeOf47,sizeOf91,sizeOf93,sizeOf99,h]<;>rfl):bodyPost prog fn R .ret a w:=bodyPost_ret (c b) hd h
def qX(a b:aa):aa:=(b-a+32768)%65536-32768
def Xd(a b:aa):-32768<=qX a b/\qX a b<=32767:=by unfold qX;omega
def We(a b:aa)(w:ai):az 334 #[bz a,bz b] w λe w'=>e=.returned (I (qX a b))/\w=w':=by
 go_in
 go_wp2;go_ret;refine⟨qO ?_,rfl⟩;rw[YD,wrap_u16];unfold wrap64 qX;omega
def qR(a:aa)(w:ai):az 262 #[I a] w λe w'=>e=.returned (bz (a%65536))/\w=w':=by
 go_in
 go_wp2;go_ret;exact⟨qO (wrap_u16 _),rfl⟩
def ec(a s:aa):aa×aa:=
 if a<0\/1073741824<a then(0,1)else
 let f:=a+qX (a%65536) s
 if f<0\/1073741824<f then(0,6)else(f,0)
def B9(a b:aa)(w:ai):az 307 #[I a,bz b] w λe w'=>e=aV #[I (ec a b).1,I (ec a b).2]/\w=w':=by
 have ax:=Xd (a%65536) b
 go_in
 go_wp2_with (first|(go_at_call 262;refine(qR _ _).mono ?_;rintro e w' ⟨rfl,rfl⟩)|(go_at_call 334;refine(We _ _ _).mono ?_;rintro e w' ⟨rfl,rfl⟩))
 all_goals
  go_ret2;refine⟨I4 (Cz ?_) (Cz ?_),rfl⟩<;>(unfold ec;simp only[];(repeat' split)<;>first|rfl|omega)
def mw{p:ak}(h:p:=by simp[Value.oneCell']):p:=h
def mx{p:ak}(h:p:=by simp at h;omega):p:=h
def uP{p:ak}(h:p:=by simpa using m):p:=h
def wZ{p:ak}(h:p:=by simpa using d):p:=h
end Go.Proofs.YtalagblioepadaaGreatDoor
