/- The proof, part 6. -/
import Derived.Test.YtalagblioepadaaGreatDoorZe01
import Derived.Test.YtalagblioepadaaGreatDoorRows
namespace Go.Proofs.YtalagblioepadaaGreatDoor
set_option linter.all false
open Proofs.Tryz List Go.RowKit
set_option maxRecDepth 100000
inductive Jx|mk
def aB:Jx:=.mk
instance:CoeFun Jx λ_=>FuncId->a6 ay->aj->(Ending->aj->ae)->ae:=⟨λ_=>Calls prog⟩
def dj{p:ae}{fn:Func}{R:Ending->aj->ae}{a:Act}{w:aj}{v:ay}(b:p)(h:R (.returned v) w)(hd:a.defers=[]:=by rfl)(c:p->(results fn a.tmps).run prog w=.ok v w:=by intro h;simp[results,asAddr,loadVar,loadCells,Act.put,isAgg109,isAgg175,isAgg199,isAgg214,isAgg254,isAgg258,isAgg26,isAgg261,isAgg264,isAgg267,isAgg271,isAgg274,isAgg294,isAgg35,isAgg36,isAgg43,isAgg45,isAgg47,isAgg91,isAgg93,isAgg99,results10,results102,results136,results137,results138,results141,results146,results160,results193,results206,results207,results208,results211,results213,results218,results235,results237,results259,results261,results271,results275,results285,results309,results34,results354,results361,results362,results363,results364,results366,results37,results374,results38,results385,results40,results60,results65,results84,sizeOf109,sizeOf175,sizeOf199,sizeOf214,sizeOf254,sizeOf258,sizeOf26,sizeOf261,sizeOf264,sizeOf271,sizeOf274,sizeOf294,sizeOf35,sizeOf43,sizeOf45,sizeOf47,sizeOf91,sizeOf93,sizeOf99,h]<;>rfl):bodyPost prog fn R .ret a w:=bodyPost_ret (c b) hd h
def s6(a b:U):U:=(b-a+32768)%65536-32768
def ahJ(a b:U):-32768<=s6 a b/\s6 a b<=32767:=by unfold s6;omega
def agJ(a b:U)(w:aj):aB 334 #[c7 a,c7 b] w λe w'=>e=aa (s6 a b)/\w=w':=by
 go_in
 go_wp2;go_ret;refine⟨uj ?_,rfl⟩;rw[ajf,wrap_u16];unfold wrap64 s6;omega
def uv(a:U)(w:aj):aB 262 #[aa a] w λe w'=>e=c7 (a%65536)/\w=w':=by
 go_in
 go_wp2;go_ret;exact⟨uj (wrap_u16 _),rfl⟩
def e8(a s:U):U×U:=
 if a<0\/1073741824<a then(0,1)else
 let f:=a+s6 (a%65536) s
 if f<0\/1073741824<f then(0,6)else(f,0)
def Gi(a b:U)(w:aj):aB 307 #[aa a,c7 b] w λe w'=>e=aV #[aa (e8 a b).1,aa (e8 a b).2]/\w=w':=by
 have aA:=ahJ (a%65536) b
 go_in
 go_wp2_with (first|(go_at_call 262;refine(uv _ _).mono ?_;rintro e w' ⟨rfl,rfl⟩)|(go_at_call 334;refine(agJ _ _ _).mono ?_;rintro e w' ⟨rfl,rfl⟩))
 all_goals
  go_ret2;refine⟨Oc (GQ ?_) (GQ ?_),rfl⟩<;>(unfold e8;simp only[];(repeat' split)<;>first|rfl|omega)
variable{ww:Prop}
def vg(h:ww:=by simpa using a):=h
end Go.Proofs.YtalagblioepadaaGreatDoor
