/- The proof, part 3. -/
import Derived.Test.YtalagblioepadaaGreatDoorRows
import Derived.Test.YtalagblioepadaaGreatDoorZa02
namespace Go.Proofs.YtalagblioepadaaGreatDoor
section
open Go.RowKit
def stp (a b:Int):Int:=(b-a+32768)%65536-32768
theorem stp_in (a b:Int):-32768≤stp a b∧stp a b≤32767:=by unfold stp;omega
theorem serial_Steps (a b:Int) (w:World) :
  Calls Tryz.prog 334 #[.int .u16 a,.int .u16 b] w fun e w'=>e=.returned (.int .i64 (stp a b))∧w=w':=by
 go_enter Tryz.func334,Tryz.ntmps334
 go_wp2
 go_ret
 refine ⟨ret_int ?_,rfl⟩
 rw[wrap_i16,wrap_u16]
 unfold wrap64 stp
 omega
theorem serial_Of (a:Int) (w:World) :
  Calls Tryz.prog 262 #[.int .i64 a] w fun e w'=>e=.returned (.int .u16 (a%65536))∧w=w':=by
 go_enter Tryz.func262,Tryz.ntmps262
 go_wp2
 go_ret
 exact ⟨ret_int (wrap_u16 _),rfl⟩
def frm (near s:Int):Int×Int:=
 if near<0∨1073741824<near then (0,1) else
 let f:=near+stp (near%65536) s
 if f<0∨1073741824<f then (0,6) else (f,0)
theorem serial_Frame (a b:Int) (w:World) :
  Calls Tryz.prog 307 #[.int .i64 a,.int .u16 b] w fun e w'=>e=.returned (.tuple #[.int .i64 (frm a b).1,.int .i64 (frm a b).2])∧w=w':=by
 have hs:=stp_in (a%65536) b
 go_enter Tryz.func307,Tryz.ntmps307
 go_wp2_with (first|(go_at_call 262;refine (serial_Of _ _).mono ?_;rintro e w' ⟨rfl,rfl⟩)|(go_at_call 334;refine (serial_Steps _ _ _).mono ?_;rintro e w' ⟨rfl,rfl⟩))
 all_goals
  go_ret2
  refine ⟨ret_two (val_int ?_) (val_int ?_),rfl⟩<;>(unfold frm;simp only[];(repeat' split)<;>first|rfl|omega)
end
end Go.Proofs.YtalagblioepadaaGreatDoor
