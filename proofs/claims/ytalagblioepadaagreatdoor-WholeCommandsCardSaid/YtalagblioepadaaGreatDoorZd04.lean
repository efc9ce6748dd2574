/- The proof, part 4. -/
import Derived.Test.YtalagblioepadaaGreatDoorZd01
import Derived.Test.YtalagblioepadaaGreatDoorRows
namespace Go.Proofs.YtalagblioepadaaGreatDoor
set_option linter.all false
open Proofs.Tryz List Go.RowKit
set_option maxRecDepth 100000
inductive Fk|mk
def aA:Fk:=.mk
instance:CoeFun Fk λ_=>FuncId->a7 ay->aj->(Ending->aj->al)->al:=⟨λ_=>Calls prog⟩
def dx{p:al}{fn:Func}{R:Ending->aj->al}{a:Act}{w:aj}{v:ay}(b:p)(h:R (.returned v) w)(hd:a.defers=[]:=by rfl)(c:p->(results fn a.tmps).run prog w=.ok v w:=by intro h;simp[results,asAddr,loadVar,loadCells,Act.put,isAgg109,isAgg175,isAgg199,isAgg214,isAgg254,isAgg258,isAgg26,isAgg261,isAgg264,isAgg267,isAgg271,isAgg274,isAgg294,isAgg35,isAgg36,isAgg43,isAgg45,isAgg47,isAgg91,isAgg93,isAgg99,results10,results102,results136,results137,results138,results141,results146,results160,results193,results206,results207,results208,results211,results213,results218,results235,results237,results259,results261,results271,results275,results285,results309,results34,results354,results361,results362,results363,results364,results366,results37,results374,results38,results385,results40,results60,results65,results84,sizeOf109,sizeOf175,sizeOf199,sizeOf214,sizeOf254,sizeOf258,sizeOf26,sizeOf261,sizeOf264,sizeOf271,sizeOf274,sizeOf294,sizeOf35,sizeOf43,sizeOf45,sizeOf47,sizeOf91,sizeOf93,sizeOf99,h]<;>rfl):bodyPost prog fn R .ret a w:=bodyPost_ret (c b) hd h
def rG(a b:aa):aa:=(b-a+32768)%65536-32768
def Yz(a b:aa):-32768<=rG a b/\rG a b<=32767:=by unfold rG;omega
def XA(a b:aa)(w:aj):aA 334 #[bC a,bC b] w λe w'=>e=.returned (I (rG a b))/\w=w':=by
 go_in
 go_wp2;go_ret;refine⟨rq ?_,rfl⟩;rw[Z0,wrap_u16];unfold wrap64 rG;omega
def ry(a:aa)(w:aj):aA 262 #[I a] w λe w'=>e=.returned (bC (a%65536))/\w=w':=by
 go_in
 go_wp2;go_ret;exact⟨rq (wrap_u16 _),rfl⟩
def en(a s:aa):aa×aa:=
 if a<0\/1073741824<a then(0,1)else
 let f:=a+rG (a%65536) s
 if f<0\/1073741824<f then(0,6)else(f,0)
def C2(a b:aa)(w:aj):aA 307 #[I a,bC b] w λe w'=>e=aY #[I (en a b).1,I (en a b).2]/\w=w':=by
 have aw:=Yz (a%65536) b
 go_in
 go_wp2_with (first|(go_at_call 262;refine(ry _ _).mono ?_;rintro e w' ⟨rfl,rfl⟩)|(go_at_call 334;refine(XA _ _ _).mono ?_;rintro e w' ⟨rfl,rfl⟩))
 all_goals
  go_ret2;refine⟨J8 (Dw ?_) (Dw ?_),rfl⟩<;>(unfold en;simp only[];(repeat' split)<;>first|rfl|omega)
def mZ{p:al}(h:p:=by simp[Value.oneCell']):p:=h
def m_{p:al}(h:p:=by simp at h;omega):p:=h
def vt{p:al}(h:p:=by simpa using m):p:=h
def xB{p:al}(h:p:=by simpa using d):p:=h
end Go.Proofs.YtalagblioepadaaGreatDoor
