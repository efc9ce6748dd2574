/- The proof, part 4. -/
import Derived.Test.YtalagblioepadaaGreatDoorZc01
import Derived.Test.YtalagblioepadaaGreatDoorRows
namespace Go.Proofs.YtalagblioepadaaGreatDoor
set_option linter.all false
open Proofs.Tryz List Go.RowKit
set_option maxRecDepth 100000
inductive EN|mk
def aA:EN:=.mk
instance:CoeFun EN λ_=>FuncId->a6 ax->ai->(Ending->ai->ak)->ak:=⟨λ_=>Calls prog⟩
def dq{p:ak}{fn:Func}{R:Ending->ai->ak}{a:Act}{w:ai}{v:ax}(b:p)(h:R (.returned v) w)(hd:a.defers=[]:=by rfl)(c:p->(results fn a.tmps).run prog w=.ok v w:=by intro h;simp[results,asAddr,loadVar,loadCells,Act.put,isAgg109,isAgg175,isAgg199,isAgg214,isAgg254,isAgg258,isAgg26,isAgg261,isAgg264,isAgg267,isAgg271,isAgg274,isAgg294,isAgg35,isAgg36,isAgg43,isAgg45,isAgg47,isAgg91,isAgg93,isAgg99,results10,results102,results136,results137,results138,results141,results146,results160,results193,results206,results207,results208,results211,results213,results218,results235,results237,results259,results261,results271,results275,results285,results309,results34,results354,results361,results362,results363,results364,results366,results37,results374,results38,results385,results40,results60,results65,results84,sizeOf109,sizeOf175,sizeOf199,sizeOf214,sizeOf254,sizeOf258,sizeOf26,sizeOf261,sizeOf264,sizeOf271,sizeOf274,sizeOf294,sizeOf35,sizeOf43,sizeOf45,sizeOf47,sizeOf91,sizeOf93,sizeOf99,h]<;>rfl):bodyPost prog fn R .ret a w:=bodyPost_ret (c b) hd h
def ri(a b:aa):aa:=(b-a+32768)%65536-32768
def XQ(a b:aa):-32768<=ri a b/\ri a b<=32767:=by unfold ri;omega
def WR(a b:aa)(w:ai):aA 334 #[bx a,bx b] w λe w'=>e=.returned (I (ri a b))/\w=w':=by
 go_in
 go_wp2;go_ret;refine⟨q6 ?_,rfl⟩;rw[Zf,wrap_u16];unfold wrap64 ri;omega
def q9(a:aa)(w:ai):aA 262 #[I a] w λe w'=>e=.returned (bx (a%65536))/\w=w':=by
 go_in
 go_wp2;go_ret;exact⟨q6 (wrap_u16 _),rfl⟩
def ec(a s:aa):aa×aa:=
 if a<0\/1073741824<a then(0,1)else
 let f:=a+ri (a%65536) s
 if f<0\/1073741824<f then(0,6)else(f,0)
def Cv(a b:aa)(w:ai):aA 307 #[I a,bx b] w λe w'=>e=aV #[I (ec a b).1,I (ec a b).2]/\w=w':=by
 have av:=XQ (a%65536) b
 go_in
 go_wp2_with (first|(go_at_call 262;refine(q9 _ _).mono ?_;rintro e w' ⟨rfl,rfl⟩)|(go_at_call 334;refine(WR _ _ _).mono ?_;rintro e w' ⟨rfl,rfl⟩))
 all_goals
  go_ret2;refine⟨Ju (C1 ?_) (C1 ?_),rfl⟩<;>(unfold ec;simp only[];(repeat' split)<;>first|rfl|omega)
def mJ{p:ak}(h:p:=by simp[Value.oneCell']):p:=h
def mK{p:ak}(h:p:=by simp at h;omega):p:=h
def vc{p:ak}(h:p:=by simpa using m):p:=h
def xh{p:ak}(h:p:=by simpa using d):p:=h
end Go.Proofs.YtalagblioepadaaGreatDoor
