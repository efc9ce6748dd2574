/- The proof, part 1. -/
import Derived.WalkLawsBesides
import Derived.WalkSpells
import Derived.ProofKit
import Derived.OpenShut
import Derived.ShutString
import Derived.BigQuiet
import Derived.RangeFuncRecord
namespace Go.Proofs.YtalagblioepadaaGreatDoor
open List Go.RowKit
set_option maxRecDepth 100000
set_option linter.all false
inductive Bc|mk
def J:Bc:=.mk
instance:CoeSort Bc Type:=⟨λ_=>Nat⟩
instance:Coe Bc Type:=⟨λ_=>Nat⟩
inductive Bb|mk
def aa:Bb:=.mk
instance:CoeSort Bb Type:=⟨λ_=>Int⟩
instance:Coe Bb Type:=⟨λ_=>Int⟩
inductive Bf|mk
def aj:Bf:=.mk
instance:CoeSort Bf Type:=⟨λ_=>World⟩
instance:Coe Bf Type:=⟨λ_=>World⟩
inductive Be|mk
def ay:Be:=.mk
instance:CoeSort Be Type:=⟨λ_=>Value⟩
instance:Coe Be Type:=⟨λ_=>Value⟩
inductive Bd|mk
def aT:Bd:=.mk
instance:CoeSort Bd Type:=⟨λ_=>UInt8⟩
instance:Coe Bd Type:=⟨λ_=>UInt8⟩
inductive G0|mk
def al:G0:=.mk
instance:CoeSort G0 Type:=⟨λ_=>Prop⟩
inductive Ba|mk
def a1:Ba:=.mk
instance:CoeSort Ba Type:=⟨λ_=>Bool⟩
instance:Coe Ba Type:=⟨λ_=>Bool⟩
inductive Bg|mk
def ch:Bg:=.mk
instance:CoeSort Bg Type:=⟨λ_=>ByteArray⟩
instance:Coe Bg Type:=⟨λ_=>ByteArray⟩
inductive GY|mk
def ah:GY:=.mk
instance:CoeFun GY λ_=>Type->Type:=⟨λ_=>List⟩
inductive GZ|mk
def b_:GZ:=.mk
instance:CoeFun GZ λ_=>Type->Type:=⟨λ_=>Option⟩
inductive GX|mk
def a7:GX:=.mk
instance:CoeFun GX λ_=>Type->Type:=⟨λ_=>Array⟩
def b7:=@RowKit.Below.refl
def c5:=@congrArg
def df:=@Nat.le_refl
def ep:=@Bool.and_eq_true
def eB:=@append_nil
def eG:=@IntWalk.i64_in
def eJ:=@mem_append
def e9:=@mem_map
def fg:=@length_nil
def ff:=@mem_cons
def fw:=@all_eq_true
def fx:=@mem_filter
def fH:=@World.size_alloc
def gg:=@length_drop
def gh:=@decide_eq_true_eq
def gA:=@getElem?_eq_getElem
def gB:=@length_take
def gC:=@mem_singleton
def gD:=@Nat.le_of_eq
def gE:=@Ne.symm
def gU:=@callsIn_wide
def hh:=@size_toArray
def hi:=@Option.some.inj
def hE:=@Result.andThen_ok
def hF:=@drop_zero
def hG:=@length_map
def hI:=@Option.some.injEq
def hW:=@Sem.run_bind
def hX:=@drop_succ_cons
def hY:=@take_succ_cons
def hZ:=@Nat.add_assoc
def ib:=@Option.getD_some
def iD:=@Sem.run_pure
def iE:=@take_zero
def jc:=@flatMap_cons
def jd:=@length_singleton
def jv:=@Array.getElem?_eq_some_iff
def jw:=@Int.le_refl
def jx:=@map_append
def jy:=@Nat.mod_eq_of_lt
def jz:=@getElem!_pos
def jM:=@Eq.symm
def jN:=@cell_of_one
def jO:=@getElem?_append_left
def jP:=@length_eq_zero_iff
def jQ:=@map_cons
def jR:=@Prod.mk.injEq
def j':=@getElem?_cons_succ
def ka:=@getElem?_toArray
def kb:=@pairwise_cons
def kc:=@Nat.succ_mul
def kx:=@mem_cons_of_mem
def kV:=@cons_append
def kW:=@getElem?_cons_zero
def kX:=@mem_of_getElem?
def kY:=@take_succ_eq_append_getElem
def kZ:=@Nat.not_lt_zero
def lD:=@Bool.not_eq_true'
def lE:=@mem_ready
def lF:=@getElem?_append_right
def lG:=@map_nil
def mg:=@Array.getElem?_eq_none
def mh:=@Array.getElem?_toList
def mi:=@RowKit.Below.setCell
def mj:=@Int.eq_ofNat_of_zero_le
def ml:=@length_filter_le
def mm:=@reverse_cons
def mn:=@reverse_reverse
def mo:=@take_append_drop
def mq:=@Nat.lt_of_lt_of_le
def mU:=@World.block_lt_of_cell?
def mV:=@drop_drop
def mW:=@filter_eq_self
def mX:=@foldl_append
def mY:=@getElem_mem
def nO:=@free_of_one
def nP:=@info_parts
def nQ:=@wpList_plain
def nR:=@length_cons
def nS:=@mem_cons_self
def nT:=@nil_append
def nU:=@take_length
def nV:=@take_of_length_le
def nW:=@Nat.lt_irrefl
def nX:=@Nat.pow_succ
def nY:=@beq_iff_eq
def oQ:=@cell_one_new
def oR:=@wpIn_wide
def oS:=@Int.tmod_eq_emod_of_nonneg
def oT:=@filter_cons_of_neg
def oU:=@foldl_cons
def oV:=@getD_eq_getElem?_getD
def oW:=@perm_append_comm_assoc
def oX:=@Nat.le_trans
def oY:=@Nat.min_eq_left
def oZ:=@Nat.mul_comm
def o0:=@Option.isSome_none
def pP:=@Array.ext_getElem?
def pQ:=@Array.getElem?_push
def pG:=@Array.length_toList
def pH:=@drop_eq_getElem_cons
def pI:=@mem_range
def pJ:=@pairwise_append
def pK:=@Nat.div_add_mod
def pL:=@Option.getD_none
def pM:=@Option.isSome_some
def pN:=@Option.map_some
def pO:=@decide_eq_false_iff_not
def qD:=@bodyPost_end
def qE:=@wpList_append_own
def qF:=@getElem?_set_ne
def qG:=@length_append
def qH:=@length_pos_iff
def qI:=@length_set
def qJ:=@perm_middle
def qK:=@range_succ
def qL:=@Nat.add_comm
def qM:=@Prod.ext
def rM:=@run_underlying
def rN:=@Int.toNat_natCast
def rO:=@filter_append
def rP:=@filter_cons_of_pos
def rQ:=@filter_map
def rR:=@flatMap_append
def rS:=@foldl_nil
def rT:=@set_cons_zero
def rU:=@take_left'
def rV:=@Nat.add_zero
def rW:=@Nat.eq_zero_or_pos
def rX:=@Nat.pow_le_pow_right
def rY:=@Nat.zero_add
def rZ:=@of_decide_eq_true
def s4:=@Array.getElem?_eq_getElem
def s5:=@Array.replicate_succ
def s6:=@Array.replicate_zero
def s7:=@Bool.true_and
def s8:=@append_toArray
def s9:=@getElem?_eq_none
def s_:=@mem_iff_getElem
def ta:=@pairwise_iff_getElem
def tb:=@push_toArray
def tc:=@setIfInBounds_toArray
def td:=@Nat.mul_le_mul_right
def uW:=@Bool.or_eq_true
def uX:=@Act.put_comm
def uY:=@ready_mono
def uZ:=@eq_nil_of_length_eq_zero
def u_:=@getElem?_set_self
def u':=@getElem?_take
def va:=@length_replicate
def vb:=@not_mem_nil
def vc:=@pairwise_map
def vd:=@Nat.le_succ
def ve:=@Nat.zero_le
def vf:=@not_not_intro
def w1:=@Array.getElem?_setIfInBounds_ne
def w2:=@Bool.eq_iff_iff
def w3:=@Bool.false_eq_true
def w4:=@Bool.false_or
def w5:=@Bool.or_false
def w6:=@ByteArray.toList_eq
def w7:=@Obj.cells.injEq
def w8:=@World.cell?_setCell_same
def w9:=@run_append_own_at
def w_:=@run_loadCells_list
def xa:=@drop_left'
def xb:=@filter_congr
def xc:=@filter_sublist
def xd:=@find?_eq_none
def xe:=@getElem?_drop
def xf:=@getElem_cons_succ
def xg:=@getElem_of_mem
def xh:=@getElem_set_ne
def xi:=@map_singleton
def xj:=@mem_flatMap
def xk:=@mem_or_eq_of_mem_set
def xl:=@prefix_refl
def xm:=@set_cons_succ
def xn:=@Nat.zero_mul
def zN:=@Array.getElem?_setIfInBounds_self_of_lt
def zO:=@Bool.true_or
def zP:=@DataW.held.injEq
def zQ:=@IntKind.wrap_u64
def zR:=@RowKit.Below.heap_alloc
def zS:=@WideAt.sameKey_self
def zT:=@World.ownsRow_nil
def zU:=@execOp_put
def zV:=@results_tmp
def zW:=@Int.le_trans
def zX:=@Perm.refl
def zY:=@any_eq_false
def zZ:=@any_eq_true
def z1:=@append_assoc
def z6:=@List.cons.injEq
def z7:=@countP_cons
def z8:=@filter_nil
def z_:=@foldl_toArray
def z':=@getElem_set_self
def Aa:=@mem_append_left
def Ab:=@mem_of_find?_eq_some
def Ac:=@mem_of_mem_drop
def Ad:=@mem_of_mem_take
def Ae:=@take_append_of_le_length
def Af:=@take_left
def Ag:=@zip_cons_cons
def Ah:=@zip_nil_right
def Ai:=@zip_toArray
def Aj:=@Nat.mul_le_mul_left
def Ak:=@Nat.mul_one
def Al:=@Nat.sub_self
def Am:=@UInt8.toNat_inj
def An:=@bne_iff_ne
def DQ:=@Array.getElem?_modify
def DR:=@Array.toList_inj
def DS:=@Bool.and_false
def DT:=@Bool.false_and
def DU:=@Bool.not_eq_true
def DV:=@IntKind.wrap_i64
def DW:=@Region.free_spec
def DX:=@Region.noSelect_spec
def DY:=@RowKit.Below.heap_setCell
def DZ:=@WideAt.sameKey_eq
def D0:=@World.cell?_setCell_other
def D1:=@World.drewN_drewN
def D2:=@getD_set_ne
def D3:=@grownCap_ge
def D4:=@run_convert_bytes_back
def D5:=@run_equalIn_agg
def D6:=@run_storeCells_at
def D7:=@wpIn_region_lit
def D8:=@wpListIn_nil
def D9:=@wpListIn_plain
def D_:=@wp_region_any
def D':=@Int.emod_nonneg
def Ea:=@Int.lt_irrefl
def Eb:=@Int.mul_nonneg
def Ec:=@Int.mul_sub
def Ed:=@drop_append_of_le_length
def Ee:=@drop_eq_nil_of_le
def Ef:=@drop_of_length_le
def Eg:=@filter_eq_nil_iff
def Eh:=@getElem?_replicate
def Ei:=@getElem_cons_zero
def Ej:=@getElem_toArray
def Ek:=@mem_append_right
def El:=@pairwise_singleton
def Em:=@perm_append_singleton
def En:=@replicate_succ'
def Eo:=@Nat.add_mul
def Ep:=@Nat.add_sub_cancel
def Er:=@Nat.add_sub_cancel_left
def Es:=@Nat.div_le_self
def Et:=@Nat.lt_or_ge
def Eu:=@Nat.min_eq_right
def Ev:=@Option.isSome_iff_exists
def Ew:=@Option.map_map
def Ex:=@Option.toList_none
def Ey:=@of_decide_eq_false
def L5:=@Array.any_eq_true'
def L6:=@Array.extract_size
def L7:=@Array.getElem_modify_self
def L8:=@Array.setIfInBounds_comm
def L9:=@Array.toArray_toList
def L_:=@BitVec.toNat_ofInt
def L':=@BitVec.xor_allOnes
def Ma:=@ByteArray.data_append
def Mb:=@Decidable.byContradiction
def Mc:=@Lib.wpList_append_own_string
def Md:=@World.cell?_of_block
def Me:=@World.frozen?_setCell
def Mf:=@toList_madeCells_one
def Mg:=@Int.emod_lt_of_pos
def Mh:=@Int.mul_nonneg_of_nonpos_of_nonpos
def Mi:=@Int.sub_eq_add_neg
def Mj:=@Nat.add_mul_mod_self_left
def Mk:=@Nat.div_lt_of_lt_mul
def Ml:=@Nat.xor_lt_two_pow
def Mm:=@UInt8.toNat_ofNat'
def n2{p:al}(h:p:=by simp):p:=h
def iO{p:al}(h:p:=by omega):p:=h
def ic{p:al}(h:p:=by simpa using h):p:=h
def ag{p:al}(h:p):Hid p:=h
def _root_.Go.RowKit.Hid.o{p:Prop}(h:Hid p):p:=h
def De:ay->J|.string t=>t.size|_=>0
def YK(s:ch)(k:J)(h:k<s.size):s.data.toList.take (k+1)=s.data.toList.take k++[s[k]]:=by
 rw[kY ic];rfl
def extract_data(s:ch)(a b:J):(s.extract a b).data.toList=(s.data.toList.drop a).take (b-a):=by
 rw[ByteArray.data_extract];simp[extract_eq_take_drop]
def vV(s:ch)(a:J):(s.extract a s.size).data.toList=s.data.toList.drop a:=by
 rw[extract_data,nV];simp
def wrap_u16(n:aa):IntKind.u16.wrap n=n%65536:=by simp[IntKind.wrap,IntKind.bits,IntKind.signed]
def wrap_u8(n:aa):IntKind.u8.wrap n=n%256:=by simp[IntKind.wrap,IntKind.bits,IntKind.signed]
def wrap_u32(n:aa):IntKind.u32.wrap n=n%4294967296:=by simp[IntKind.wrap,IntKind.bits,IntKind.signed]
def wrap_u64(n:aa):IntKind.u64.wrap n=n%18446744073709551616:=by simp[IntKind.wrap,IntKind.bits,IntKind.signed]
def Z0(n:aa):IntKind.i16.wrap n=(n+32768)%65536-32768:=by
 simp only[IntKind.wrap,IntKind.bits,IntKind.signed];simp;split<;>omega
def rq{k:IntKind}{a b:aa}(h:a=b):Ending.returned (.int k a)=.returned (.int k b):=by rw[h]
def lu{a b:a1}(h:a=b):Ending.returned (.bool a)=.returned (.bool b):=by rw[h]
def J8{a b a' c:ay}(h:a=a')(d:b=c):Ending.returned (.tuple #[a,b])=.returned (.tuple #[a',c]):=by rw[h,d]
def Dw{k:IntKind}{a b:aa}(h:a=b):Value.int k a=.int k b:=by rw[h]
def ij(b o i:J):(⟨b,o,none⟩:Addr).add i=⟨b,o+i,none⟩:=by unfold Addr.add;split<;>simp_all
theorem YZ(a m:aa):(0<=a->a.tmod m=a%m)/\(a<0->a.tmod m=-((-a)%m)):=
 ⟨λh=>oS h,λh=>by rw[<-oS (a:=-a) iO,Int.neg_tmod,Int.neg_neg]⟩
structure k0(w:aj) where
 to:aj
 below:Below w.heap.size w to
instance (w:aj):Nonempty (k0 w):=⟨⟨w,b7 _ _⟩⟩
theorem pF{P:Program}{id:J}{Q:Exit->Act->aj->al}{a:Act}{w:aj}{l:ah Oper}(hm:P.follows .mixedOrders=true)(b:Region.lexB .any l.toArray=true)(h:wpQuiet P l.toArray (λw'=>∃ x:k0 w,w'=x.to) (λa'=>∀ w',(∃ x:k0 w,w'=x.to)->Q .normal a' w') l a):(Code.region id l.toArray true).wp P Q a w:=
 wp_region_quiet (C:=λw'=>∃ x:k0 w,w'=x.to) hm b ⟨⟨{w with drawn:=w.drawn+1},(b7 _ w).drew⟩,rfl⟩ ic
theorem Calls.kB{P:Program}{f:FuncId}{args:a7 ay}{w:aj}{x:k0 w}{v:ay}(h:Calls P f args x.to λe w'=>e=.returned v/\Below x.to.heap.size x.to w'):Calls P f args x.to λe a=>e=.returned v/\∃ y:k0 w,a=y.to:=
 h.mono λ_ w' ⟨b,ak⟩=>⟨b,⟨w',x.below.trans (ak.mono x.below.size)⟩,rfl⟩
theorem Calls.jU{P:Program}{f:FuncId}{args:a7 ay}{w:aj}{x:k0 w}{v:ay}(h:Calls P f args x.to λe w'=>e=.returned v/\x.to=w'):Calls P f args x.to λe a=>e=.returned v/\∃ y:k0 w,a=y.to:=
 h.mono λ_ _ ⟨b,ak⟩=>⟨b,x,ak.symm⟩
section
structure Keeps(S:J->al)(w w':aj):al where
 os:w'.os=w.os
 tape:w'.tape=w.tape
 output:w'.output=w.output
 size:w.heap.size<=w'.heap.size
 block:∀ k,k<w.heap.size->¬ S k->w'.heap[k]?=w.heap[k]?
namespace Keeps
variable{S T:J->al}{w w' a b c:aj}
def refl(S:J->al)(w:aj):Keeps S w w:=⟨rfl,rfl,rfl,df _,λ_ _ _=>rfl⟩
theorem trans(h:Keeps S a b)(k:Keeps S b c):Keeps S a c:=
 ⟨k.os.trans h.os,k.tape.trans h.tape,k.output.trans h.output,oX h.size k.size,λi ax aw=>(k.block i (mq ax h.size) aw).trans (h.block i ax aw)⟩
theorem mono(h:Keeps S a b)(aw:∀ k,k<a.heap.size->S k->T k):Keeps T a b:=
 ⟨h.os,h.tape,h.output,h.size,λk hk aK=>h.block k hk (λs=>aK (aw k hk s))⟩
theorem alloc(h:Keeps S a b)(o:Obj):Keeps S a (b.alloc o):=
 h.trans ⟨rfl,rfl,rfl,n2,λk hk _=>zR _ _ _ hk⟩
theorem setCell(h:Keeps S a b){p:Addr}(au:S p.block)(u:ay):Keeps S a (b.setCell p u):=
 h.trans ⟨rfl,rfl,rfl,by simp[World.setCell],λk _ aw=>DY _ _ _ _ (λe=>aw (e▸au))⟩
theorem oH(h:Keeps S a b){p:Addr}(au:a.heap.size<=p.block)(u:ay):Keeps S a (b.setCell p u):=
 ⟨h.os,h.tape,h.output,by simp only[World.setCell,Array.size_modify];exact h.size,λk hk aw=>(DY _ _ _ _ iO).trans (h.block k hk aw)⟩
theorem drew(h:Keeps S a b):Keeps S a b.drew:=⟨h.os,h.tape,h.output,h.size,h.block⟩
theorem drewN(h:Keeps S a b)(n:J):Keeps S a (b.drewN n):=h.trans ⟨rfl,rfl,rfl,df _,λ_ _ _=>rfl⟩
theorem putObj(h:Keeps S a b){l:J}(c:S l)(o:Obj):Keeps S a (b.putObj l o):=
 h.trans ⟨rfl,rfl,rfl,n2,λ_ _ aw=>World.putObj_heap_other (λe=>aw (e▸c))⟩
theorem bJ{B:J}(h:Below B a b)(d:∀ k,k<a.heap.size->B<=k->S k):Keeps S a b:=
 ⟨h.os,h.tape,h.output,h.size,λk hk aw=>h.block k (Nat.lt_of_not_le λc=>aw (d k hk c))⟩
theorem below{B:J}(h:Keeps S a b)(c:B<=a.heap.size)(aw:∀ k,k<B->¬ S k):Below B a b:=
 ⟨h.os,h.tape,h.output,h.size,λk hk=>h.block k (mq hk c) (aw k hk)⟩
theorem fT(h:Keeps S a b)(k:Below b.heap.size b c):Keeps S a c:=
 h.trans (bJ k λ_ hk d=>absurd hk (Nat.not_lt.2 d))
theorem grown(h:Keeps S a b){row:b_ J}(aZ:b.grownBy c row)(d:∀ k,row=some k->S k\/a.heap.size<=k):Keeps S a c:=
 ⟨aZ.os.trans h.os,aZ.tape.trans h.tape,aZ.output.trans h.output,oX h.size aZ.size,λk hk aw=>by
  refine(aZ.block k (mq hk h.size) (λe=>?_)).trans (h.block k hk aw);rcases d k e.symm with c|c
  .exact aw c
  .omega⟩
theorem heap(h:Keeps S a b){k:J}{o:Obj}(c:a.heap[k]?=some o)(aw:¬ S k):b.heap[k]?=some o:=
 (h.block k (jv.1 c).1 aw).trans c
theorem cell(h:Keeps S a b){p:Addr}{v:ay}(an:a.cell? p=some v)(aw:¬ S p.block):b.cell? p=some v:=
 (Md (h.block p.block (mU a p an) aw)).trans an
theorem frozen(h:Keeps S a b){p:Addr}(au:p.block<a.heap.size)(aw:¬ S p.block):b.frozen? p=a.frozen? p:=
 World.frozen?_of_block (h.block p.block au aw)
end Keeps
def q2{w:aj}{p:Addr}{v:ay}(h:w.cell? p=some v)(o:Obj):(w.alloc o).cell? p=some v:=((Keeps.refl (λ_=>False) w).alloc o).cell h id
theorem RJ{w:aj}{p:Addr}{v:ay}(h:w.cell? p=some v){b:a1}(a:w.frozen? p=b)(o:Obj):(w.alloc o).frozen? p=b:=
 (((Keeps.refl (λ_=>False) w).alloc o).frozen (mU w p h) id).trans a
def oc(w:aj)(v:ay)(t:TypeId):(w.alloc (.cells #[v] t)).cell? ⟨w.heap.size,0,none⟩=some v:=by go_simp
def RI(w:aj)(v:ay)(t:TypeId):(w.alloc (.cells #[v] t)).frozen? ⟨w.heap.size,0,none⟩=false:=by go_simp
end
inductive Fo|mk
def I:Fo:=.mk
instance:CoeFun Fo λ_=>Int->ay:=⟨λ_=>.int .i64⟩
inductive Fp|mk
def ai:Fp:=.mk
instance:CoeFun Fp λ_=>Int->ay:=⟨λ_=>.int .i32⟩
inductive Fv|mk
def aR:Fv:=.mk
instance:CoeFun Fv λ_=>Int->ay:=⟨λ_=>.int .u32⟩
inductive Fw|mk
def bC:Fw:=.mk
instance:CoeFun Fw λ_=>Int->ay:=⟨λ_=>.int .u16⟩
inductive Fx|mk
def aH:Fx:=.mk
instance:CoeFun Fx λ_=>Int->ay:=⟨λ_=>.int .u8⟩
inductive Fm|mk
def aL:Fm:=.mk
instance:CoeFun Fm λ_=>Array ay->ay:=⟨λ_=>.agg⟩
inductive Fu|mk
def aY:Fu:=.mk
instance:CoeFun Fu λ_=>Array ay->ay:=⟨λ_=>.tuple⟩
inductive Ft|mk
def aq:Ft:=.mk
instance:CoeFun Ft λ_=>Option Addr->J->J->ay:=⟨λ_=>.slice⟩
inductive Fq|mk
def af:Fq:=.mk
instance:CoeFun Fq λ_=>Array ay->TypeId->(_:J×J:=(0,0))->Obj:=⟨λ_=>@Obj.cells⟩
inductive Fj|mk
def ae:Fj:=.mk
instance:CoeFun Fj λ_=>Nat->J->b_ J->Addr:=⟨λ_=>Addr.mk⟩
inductive Fs|mk
def ad:Fs:=.mk
instance:Coe Fs (b_ J):=⟨λ_=>none⟩
inductive FE|mk
def cj:FE:=.mk
instance:Coe FE (a7 ay):=⟨λ_=>#[.slice none 0 0,.slice none 0 0,.bool false]⟩
inductive FA|mk
def z9:FA:=.mk
instance:Coe FA (a7 ay):=⟨λ_=>#[.int .i64 0,.int .i64 0,.int .i64 0,.int .i64 0,.int .i64 0,.int .i64 0,.int .i64 0,.int .i64 0,.int .i64 0]⟩
inductive Fz|mk
def z4:Fz:=.mk
instance:Coe Fz (a7 ay):=⟨λ_=>#[.int .i64 0,.int .i64 0,.int .i64 0,.int .i64 0]⟩
inductive FF|mk
def oP:FF:=.mk
instance:Coe FF (a7 ay):=⟨λ_=>#[.int .i64 0,.int .i64 0,.int .i64 0,.int .i64 0,.int .i64 0,.int .i64 0,.int .i64 0,.int .i64 0,.int .i64 0,.int .i64 0,.int .i64 0,.int .i64 0]⟩
inductive FB|mk
def nN:FB:=.mk
instance:Coe FB (a7 ay):=⟨λ_=>#[.int .i64 0,.int .i64 0,.int .i64 0,.int .i64 0,.int .i64 0,.int .i64 0,.int .i64 0,.int .i64 0,.int .i64 0,.int .i64 0,.int .i64 0,.bool false]⟩
inductive FC|mk
def c_:FC:=.mk
instance:Coe FC (a7 ay):=⟨λ_=>#[.int .i32 0,.int .i32 0]⟩
inductive FD|mk
def eT:FD:=.mk
instance:Coe FD (a7 ay):=⟨λ_=>#[.int .i32 0,.int .i32 0,.int .i32 0,.int .i32 0]⟩
instance:Coe World Nat:=⟨λw=>w.heap.size⟩
inductive Fl|mk
def aG:Fl:=.mk
instance:Coe Fl (J->al):=⟨λ_ _=>False⟩
instance:Coe Nat Value:=⟨λb=>.pointer (some ⟨b,0,none⟩)⟩
instance:Coe Bool Value:=⟨.bool⟩
instance:Coe Value Ending:=⟨.returned⟩
def aB{c:al}{h:Decidable c}(g:¬c){α:Sort _}{t e:α}:(if c then t else e)=e:=if_neg g
def aE{c:al}{h:Decidable c}(g:c){α:Sort _}{t e:α}:(if c then t else e)=t:=if_pos g
def bD{a b:al}(x:a)(y:b):a/\b:=⟨x,y⟩
def di{p:al}[Decidable p](h:¬p):decide p=false:=decide_eq_false h
def ei{p:al}[Decidable p](h:p):decide p=true:=decide_eq_true h
def c1{P:Program}{fn:Func}{R:Ending->aj->al}{a:Act}{w:aj}{v:ay}(c:(results fn a.tmps).run P w=.ok v w)(hd:a.defers=[])(b:R (.returned v) w):bodyPost P fn R .ret a w:=bodyPost_ret c hd b
def hD{α:Type _}{i:J}{a:α}{l:List α}:l[i]?=some a↔∃ h:i<l.length,l[i]=a:=List.getElem?_eq_some_iff
def eA{α:Type _}[BEq α][LawfulBEq α]{a b:α}:(a == b)=false↔a≠b:=beq_eq_false_iff_ne
def cx{α:Type _}{a b:List α}:(a++b).length=a.length+b.length:=qG
def dy{α:Type _}{a:α}{b:List α}:(a :: b).length=b.length+1:=nR
def dL{α:Type _}(a b c:List α):a++b++c=a++(b++c):=z1 a b c
def ca{n m k:J}(a:n<=m)(b:m<=k):n<=k:=oX a b
def de(n:J):0<=n:=ve n
def gP(n:J):0+n=n:=rY n
def e8(x:J){y:J}(h:0<y):x%y<y:=Nat.mod_lt x h
def U{p:al}(h:p:=by omega):p:=h
def a8{p:al}(h:p:=by intros;omega):p:=h
def aM{p:al}(h:p:=by simp):p:=h
def b1{p:al}(h:p:=by simp;omega):p:=h
def bt{p:al}(h:p:=by decide):p:=h
def aI{p:al}(h:p:=by kernel_rfl):p:=h
def bx{n:J}:n<=n:=df n
def bb(w:aj):Keeps aG w w:=.refl _ w
def c8:(∀ {α:Type} (l:List α) (i:J) (a:α),l.toArray.setIfInBounds i a=(l.set i a).toArray)/\(∀ {α:Type} {x:α} {xs:List α} {i:J} {a:α},(x :: xs).set (i+1) a=x :: xs.set i a)/\∀ {α:Type} {x:α} {xs:List α} {a:α},(x :: xs).set 0 a=a :: xs:=⟨tc,xm,rT⟩
def hr:(∀ {α:Type} {xs:List α} {i:J},xs.toArray[i]?=xs[i]?)/\(∀ {α:Type} {a:α} {l:List α},(a :: l)[0]?=some a)/\(∀ {α:Type} {a:α} {l:List α} {i:J},(a :: l)[i+1]?=l[i]?)/\∀ {α:Type} {a b:α},(some a).getD b=a:=⟨ka,kW,j',ib⟩
variable{w:aj}{b k:J}{bV:a7 ay}{t:TypeId}{v:ay}
def bf(h:w.heap[b]?=some (af bV t (0,0)))(aU:bV[k]?=some v):w.cell? (ae b k ad)=some v:=by
 unfold World.cell?;rw[h];exact aU
def fO(h:w.heap[b]?=some (af bV t (0,0)))(k:J):w.frozen? (ae b k ad)=false:=by
 unfold World.frozen?;rw[h];simp
def Pk(i j:J){x y:ay}(h:w.heap[b]?=some (.cells bV t (0,0)))(e:bV[i]?=some x/\bV[j]?=some y):w.cell? ⟨b,i,none⟩=some x/\w.cell? ⟨b,j,none⟩=some y:=⟨bf h e.1,bf h e.2⟩
def Ps(h:w.heap[b]?=some (.cells bV t (0,0)))(i j:J):w.frozen? ⟨b,i,none⟩=false/\w.frozen? ⟨b,j,none⟩=false:=⟨fO h i,fO h j⟩
def Gd(d a c:J){f g i:ay}(h:w.heap[b]?=some (.cells bV t (0,0)))(e:bV[d]?=some f/\bV[a]?=some g/\bV[c]?=some i):w.cell? ⟨b,d,none⟩=some f/\w.cell? ⟨b,a,none⟩=some g/\w.cell? ⟨b,c,none⟩=some i:=⟨bf h e.1,Pk a c h e.2⟩
def Pt(h:w.heap[b]?=some (.cells bV t (0,0)))(a c d:J):w.frozen? ⟨b,a,none⟩=false/\w.frozen? ⟨b,c,none⟩=false/\w.frozen? ⟨b,d,none⟩=false:=⟨fO h a,Ps h c d⟩
def Ge(f a c d:J){g i j k:ay}(h:w.heap[b]?=some (.cells bV t (0,0)))(e:bV[f]?=some g/\bV[a]?=some i/\bV[c]?=some j/\bV[d]?=some k):w.cell? ⟨b,f,none⟩=some g/\w.cell? ⟨b,a,none⟩=some i/\w.cell? ⟨b,c,none⟩=some j/\w.cell? ⟨b,d,none⟩=some k:=⟨bf h e.1,Gd a c d h e.2⟩
def Pu(h:w.heap[b]?=some (.cells bV t (0,0)))(a c d e:J):w.frozen? ⟨b,a,none⟩=false/\w.frozen? ⟨b,c,none⟩=false/\w.frozen? ⟨b,d,none⟩=false/\w.frozen? ⟨b,e,none⟩=false:=⟨fO h a,Pt h c d e⟩
def Pl(g a c d f:J){i j k l m:ay}(h:w.heap[b]?=some (.cells bV t (0,0)))(e:bV[g]?=some i/\bV[a]?=some j/\bV[c]?=some k/\bV[d]?=some l/\bV[f]?=some m):w.cell? ⟨b,g,none⟩=some i/\w.cell? ⟨b,a,none⟩=some j/\w.cell? ⟨b,c,none⟩=some k/\w.cell? ⟨b,d,none⟩=some l/\w.cell? ⟨b,f,none⟩=some m:=⟨bf h e.1,Ge a c d f h e.2⟩
def Pv(h:w.heap[b]?=some (.cells bV t (0,0)))(a c d e f:J):w.frozen? ⟨b,a,none⟩=false/\w.frozen? ⟨b,c,none⟩=false/\w.frozen? ⟨b,d,none⟩=false/\w.frozen? ⟨b,e,none⟩=false/\w.frozen? ⟨b,f,none⟩=false:=⟨fO h a,Pu h c d e f⟩
def Pm(i a c d f g:J){j k l m n o:ay}(h:w.heap[b]?=some (.cells bV t (0,0)))(e:bV[i]?=some j/\bV[a]?=some k/\bV[c]?=some l/\bV[d]?=some m/\bV[f]?=some n/\bV[g]?=some o):w.cell? ⟨b,i,none⟩=some j/\w.cell? ⟨b,a,none⟩=some k/\w.cell? ⟨b,c,none⟩=some l/\w.cell? ⟨b,d,none⟩=some m/\w.cell? ⟨b,f,none⟩=some n/\w.cell? ⟨b,g,none⟩=some o:=⟨bf h e.1,Pl a c d f g h e.2⟩
def Pw(h:w.heap[b]?=some (.cells bV t (0,0)))(a c d e f g:J):w.frozen? ⟨b,a,none⟩=false/\w.frozen? ⟨b,c,none⟩=false/\w.frozen? ⟨b,d,none⟩=false/\w.frozen? ⟨b,e,none⟩=false/\w.frozen? ⟨b,f,none⟩=false/\w.frozen? ⟨b,g,none⟩=false:=⟨fO h a,Pv h c d e f g⟩
def Pn(j a c d f g i:J){k l m n o p q:ay}(h:w.heap[b]?=some (.cells bV t (0,0)))(e:bV[j]?=some k/\bV[a]?=some l/\bV[c]?=some m/\bV[d]?=some n/\bV[f]?=some o/\bV[g]?=some p/\bV[i]?=some q):w.cell? ⟨b,j,none⟩=some k/\w.cell? ⟨b,a,none⟩=some l/\w.cell? ⟨b,c,none⟩=some m/\w.cell? ⟨b,d,none⟩=some n/\w.cell? ⟨b,f,none⟩=some o/\w.cell? ⟨b,g,none⟩=some p/\w.cell? ⟨b,i,none⟩=some q:=⟨bf h e.1,Pm a c d f g i h e.2⟩
def Px(h:w.heap[b]?=some (.cells bV t (0,0)))(a c d e f g i:J):w.frozen? ⟨b,a,none⟩=false/\w.frozen? ⟨b,c,none⟩=false/\w.frozen? ⟨b,d,none⟩=false/\w.frozen? ⟨b,e,none⟩=false/\w.frozen? ⟨b,f,none⟩=false/\w.frozen? ⟨b,g,none⟩=false/\w.frozen? ⟨b,i,none⟩=false:=⟨fO h a,Pw h c d e f g i⟩
def aad(k a c d f g i j:J){l m n o p q r s:ay}(h:w.heap[b]?=some (.cells bV t (0,0)))(e:bV[k]?=some l/\bV[a]?=some m/\bV[c]?=some n/\bV[d]?=some o/\bV[f]?=some p/\bV[g]?=some q/\bV[i]?=some r/\bV[j]?=some s):w.cell? ⟨b,k,none⟩=some l/\w.cell? ⟨b,a,none⟩=some m/\w.cell? ⟨b,c,none⟩=some n/\w.cell? ⟨b,d,none⟩=some o/\w.cell? ⟨b,f,none⟩=some p/\w.cell? ⟨b,g,none⟩=some q/\w.cell? ⟨b,i,none⟩=some r/\w.cell? ⟨b,j,none⟩=some s:=⟨bf h e.1,Pn a c d f g i j h e.2⟩
def aae(h:w.heap[b]?=some (.cells bV t (0,0)))(a c d e f g i j:J):w.frozen? ⟨b,a,none⟩=false/\w.frozen? ⟨b,c,none⟩=false/\w.frozen? ⟨b,d,none⟩=false/\w.frozen? ⟨b,e,none⟩=false/\w.frozen? ⟨b,f,none⟩=false/\w.frozen? ⟨b,g,none⟩=false/\w.frozen? ⟨b,i,none⟩=false/\w.frozen? ⟨b,j,none⟩=false:=⟨fO h a,Px h c d e f g i j⟩
def bT{o:Obj}(h:w.heap[b]?=some o):b<w.heap.size:=(jv.1 h).1
def b3(h:w.heap[b]?=some (af bV t (0,0)))(k:J)(u:ay):(w.setCell (ae b k ad) u).heap[b]?=some (af (bV.setIfInBounds k u) t (0,0)):=by
 have a:=bT h;have c:w.heap[b]=af bV t (0,0):=by simpa[s4 a]using h
 show(w.heap.modify b _)[b]?=_;rw[s4 (by simpa using a),L7,c];rfl
def e0{o:Obj}{p:Addr}(h:w.heap[b]?=some o)(hne:b≠p.block)(u:ay):(w.setCell p u).heap[b]?=some o:=(DY _ _ _ _ hne).trans h
def cw{o:Obj}(h:w.heap[b]?=some o)(x:Obj):(w.alloc x).heap[b]?=some o:=(zR _ _ _ (bT h)).trans h
def aX(w:aj)(o:Obj):(w.alloc o).heap[w.heap.size]?=some o:=World.alloc_heap_new w o
def lj{S:J->al}{w w':aj}(h:Keeps aG w w'):Keeps S w w':=h.mono λ_ _ x=>x.elim
def mB{S:J->al}{w w':aj}(h:Keeps S w w'):Keeps S w.drew w':=⟨h.os,h.tape,h.output,h.size,h.block⟩
def aO{w:aj}{b:J}{bV us:a7 ay}{t:TypeId}(h:w.heap[b]?=some (af bV t (0,0)))(e:bV=us:=by first|exact(rfl:_=#[_])|exact(rfl:_=#[_,_])|exact(rfl:_=#[_,_,_])|exact(rfl:_=#[_,_,_,_])|exact(rfl:_=#[_,_,_,_,_])|exact(rfl:_=#[_,_,_,_,_,_])|exact(rfl:_=#[_,_,_,_,_,_,_])|exact(rfl:_=#[_,_,_,_,_,_,_,_])|exact(rfl:_=#[_,_,_,_,_,_,_,_,_])|exact(rfl:_=#[_,_,_,_,_,_,_,_,_,_])|exact(rfl:_=#[_,_,_,_,_,_,_,_,_,_,_])|exact(rfl:_=#[_,_,_,_,_,_,_,_,_,_,_,_])|exact(rfl:_=#[_,_,_,_,_,_,_,_,_,_,_,_,_])|exact(rfl:_=#[_,_,_,_,_,_,_,_,_,_,_,_,_,_])|exact(rfl:_=#[_,_,_,_,_,_,_,_,_,_,_,_,_,_,_])|exact(rfl:_=#[_,_,_,_,_,_,_,_,_,_,_,_,_,_,_,_])):∀ k,w.cell? (ae b k ad)=us[k]?:=λk=>by
 unfold World.cell?;rw[h,e];rfl
def bP{w:aj}{b:J}{bV:a7 ay}{t:TypeId}(h:w.heap[b]?=some (af bV t (0,0))):∀ k,w.frozen? (ae b k ad)=false:=fO h
section
variable{P:Program}{w W:aj}{f:FuncId}{r7:a7 ay}{aab tv:Ending->aj->al}{R:aj->al}{v:Ending}{G:al}
def bE(c:Calls P f r7 w λe w'=>e=v/\W=w')(k:tv v W):Calls P f r7 w tv:=c.mono λ_ _ ⟨a,b⟩=>a▸b▸k
def Ez(c:Calls P f r7 w λe w'=>e=v/\w'=W)(k:tv v W):Calls P f r7 w tv:=c.mono λ_ _ ⟨a,b⟩=>a▸b▸k
def aW(c:Calls P f r7 w λe w'=>e=v/\R w')(k:∀ w',R w'->tv v w'):Calls P f r7 w tv:=c.mono λ_ w' ⟨a,b⟩=>a▸k w' b
end
def cT{α:Sort _}(x:α):∃ o,o=x:=⟨_,rfl⟩
def bW{p q:al}(a:p)(b:q):Hid (p/\q):=⟨a,b⟩
def h0{F:aj->al}:∃ G:aj->al,∀ W,G W↔F W:=⟨_,λ_=>Iff.rfl⟩
section
structure az where
 S:J->al
 P:aj->al
 lt:∀ {w b},P w->S b->b<w.heap.size
 frame:∀ {w w':aj} {T:J->al},P w->Keeps T w w'->(∀ b,S b->¬ T b)->P w'
def az.bd(b:J)(o:a7 ay×TypeId):az where
 S j:=j=b
 P w:=w.heap[b]?=some (af o.1 o.2 (0,0))
 lt h e:=by subst e;exact(jv.1 h).1
 frame h hk aw:=hk.heap h (aw b rfl)
def az.none:az:=⟨λ_=>False,λ_=>True,λ_ h=>h.elim,λ_ _ _=>trivial⟩
def r3(r s:az):al:=∀ b,r.S b->¬ s.S b
def r3.symm{r s:az}(h:r3 r s):r3 s r:=λb h1 h2=>h b h2 h1
structure Sep(w:aj)(L:ah az):al where
 all:∀ r∈L,r.P w
 apart:L.Pairwise r3
namespace Sep
variable{w w':aj}{L:ah az}
def at'(h:Sep w L)(i:J){r:az}(ax:L[i]?=some r):r.P w:=h.all r (kX ax)
theorem lt(h:Sep w L){r:az}(a:r∈L){b:J}(ak:r.S b):b<w.heap.size:=r.lt (h.all r a) ak
def p1(h:Sep w L){i j:J}{r s:az}(ax:L[i]?=some r)(c:L[j]?=some s)(b:i≠j):r3 r s:=by
 obtain⟨h1,rfl⟩:=hD.1 ax;obtain⟨h2,rfl⟩:=hD.1 c;have au:=ta.1 h.apart;rcases Nat.lt_or_gt_of_ne b with a|a
 .exact au i j h1 h2 a
 exact(au j i h2 h1 a).symm
theorem keeps{T:J->al}(h:Sep w L)(hk:Keeps T w w')(c:∀ r∈L,∀ b,r.S b->¬ T b):Sep w' L:=
 ⟨λr a=>r.frame (h.all r a) hk (c r a),h.apart⟩
def keep(h:Sep w L)(hk:Keeps aG w w'):Sep w' L:=h.keeps hk (λ_ _ _ _=>id)
def below(h:Sep w L)(ak:Below w w w'):Sep w' L:=h.keep (Keeps.bJ ak λk h1 h2=>U)
def drew(h:Sep w L)(n:J):Sep (w.drewN n) L:=h.keep ((Keeps.refl _ w).drewN n)
theorem alloc(h:Sep w L)(o:Obj):Sep (w.alloc o) L:=h.keep ((Keeps.refl _ w).alloc o)
theorem set{T:J->al}(h:Sep w L)(i:J){r r':az}(ax:L[i]?=some r)(hk:Keeps T w w')(g:∀ b,b<w.heap.size->T b->r.S b)(f:r'.P w')(ar:∀ b,r'.S b->r.S b\/w.heap.size<=b):Sep w' (L.set i r'):=by
 have⟨l,m⟩:=hD.1 ax;have key:∀ j s,j≠i->L[j]?=some s->s.P w'/\r3 r' s:=by
  intro j s c aw;have hm:=kX aw;have bh:=h.p1 ax aw (gE c);refine⟨s.frame (h.all s hm) hk λb ak aK=>bh b (g b (h.lt hm ak) aK) ak,λb ak d=>?_⟩;rcases ar b ak with h1|h1
  .exact bh b h1 d
  have:=h.lt hm d;omega
 refine⟨λs aw=>?_,?_⟩
 .have⟨j,c⟩:=getElem?_of_mem aw;by_cases e:j=i
  .subst e;rw[u_ l]at c;cases c;exact f
  rw[qF (gE e)]at c;exact(key j s e c).1
 rw[ta];intro a b bh ak k;rw[qI]at bh ak;by_cases ec:a=i
 .subst ec;rw[z',xh U];exact(key b _ U (gA (by simpa using ak))).2
 rw[xh (gE ec)];by_cases kF:b=i
 .subst kF;rw[z'];exact(key a _ ec (gA (by simpa using bh))).2.symm
 rw[xh (gE kF)];exact ta.1 h.apart a b bh ak k
theorem cons{T:J->al}(h:Sep w L){r:az}(hk:Keeps T w w')(c:∀ s∈L,∀ b,s.S b->¬ T b)(a:r.P w')(ar:∀ b,r.S b->w.heap.size<=b):Sep w' (r :: L):=
 ⟨λs aw=>by
  rcases ff.1 aw with rfl|aw
  .exact a
  .exact s.frame (h.all s aw) hk (c s aw),kb.2 ⟨λs aw b h1 h2=>by have:=ar b h1;have:=h.lt aw h2;omega,h.apart⟩⟩
theorem nil(w:aj):Sep w []:=⟨λ_ h=>by simp at h,.nil⟩
def tail{r:az}(h:Sep w (r :: L)):Sep w L:=⟨λs aw=>h.all s (by simp[aw]),(kb.1 h.apart).2⟩
end Sep
end
def JF{f s t:J}(a:f<s)(aK:t<s):(f+t)%s=if f+t<s then f+t else f+t-s:=by
 by_cases h:f+t<s
 .rw[aE h,jy h]
 rw[aB h,Nat.mod_eq_sub_mod U,jy U]
def y2{f s t u:J}(a:f<s)(aK:t<s)(b:u<s)(h:(f+t)%s=(f+u)%s):t=u:=by
 rw[JF a aK,JF a b]at h;split at h<;>split at h<;>omega
def Vm(f s t:J):((f+1)%s+t)%s=(f+(t+1))%s:=by
 rw[Nat.mod_add_mod]
 congr 1
 omega
def Holds{α:Type}(A:List α)(f s:J)(L:List α):al:=∀ t,t<L.length->A[(f+t)%s]?=L[t]?
section
variable{α:Type}{A L:List α}{f s:J}
def Holds.push(h:Holds A f s L)(b:f<s)(d:A.length=s)(c:L.length<s)(v:α):Holds (A.set ((f+L.length)%s) v) f s (L++[v]):=by
 intro t aK;simp only[cx,dy,fg]at aK;have hk:(f+L.length)%s<s:=e8 _ U;by_cases e:t=L.length
 .subst e;rw[u_ U];simp
 rw[qF (λa=>e (y2 b U c a.symm)),h t U,jO U]
def Holds.pop(h:Holds A f s L)(a:f<s)(b:L.length<=s)(av:0<L.length)(v:α):Holds (A.set f v) ((f+1)%s) s L.tail:=by
 intro t aK;simp only[length_tail]at aK;rw[Vm];rw[qF (λe=>absurd (y2 (t:=0) (u:=t+1) a U U ((jy a).trans e)) U),h (t+1) U];simp
def r6(A:List α)(f s:J)(L:List α)(i j:J):al:=∀ t,t<L.length->A[(f+t)%s]?=if i<=t/\t<j then L[t+1]? else L[t]?
def Holds.shift(h:Holds A f s L)(i:J):r6 A f s L i i:=by
 intro t aK;rw[aB U];exact h t aK
def r6.next{i j:J}(h:r6 A f s L i j)(b:f<s)(g:A.length=s)(m:L.length<=s)(k:i<=j)(l:j+1<L.length)(y:α)(d:A[(f+(j+1))%s]?=some y):r6 (A.set ((f+j)%s) y) f s L i (j+1):=by
 intro t aK;have hk:(f+j)%s<s:=e8 _ U;by_cases e:t=j
 .subst e;rw[u_ U,aE U,<-d,h (t+1) U,aB U]
 rw[qF (λa=>e (y2 b U U a.symm)),h t aK];by_cases c:i<=t/\t<j
 .rw[aE c,aE U]
 rw[aB c,aB U]
def r6.done{i:J}(h:r6 A f s L i (L.length-1))(a:f<s)(b:L.length<=s)(ax:i<L.length)(z:α):Holds (A.set ((f+(L.length-1))%s) z) f s (L.eraseIdx i):=by
 intro t aK;rw[length_eraseIdx_of_lt ax]at aK;rw[qF (λe=>absurd (y2 a U U e) U),h t U,getElem?_eraseIdx];by_cases c:t<i
 .rw[aE c,aB U]
 rw[aB c,aE U]
end
section
variable{α:Type}
def dM:ah (J×α)->J->Option α
 | [],_=>none
 | (g,y) :: r,f=>if g=f then some y else dM r f
def pS(L:ah (J×α)):al:=L.Pairwise λp q=>p.1<q.1
def fa:ah (J×α)->J->α->ah (J×α)
 | [],f,x=>[(f,x)]
 | (g,y) :: r,f,x=>if f<=g then(f,x) :: ((g,y) :: r).filter (λp=>p.1 != f)else(g,y) :: fa r f x
def yO(L:ah (J×α))(p:J->a1)(f:J):dM (L.filter λq=>p q.1) f=if p f then dM L f else none:=by
 induction L with
 | nil=>simp[dM]
 | cons c r a=>
  have⟨g,y⟩:=c;by_cases au:p g
  .rw[rP (by simpa using au)];simp only[dM];by_cases e:g=f
   .subst e;simp[au]
   rw[aB e,aB e,a]
  rw[oT (by simpa using au),a];simp only[dM];by_cases e:g=f
  .subst e;simp[au]
  rw[aB e]
def I9(L:ah (J×α))(f:J)(x:α)(a:J):dM (fa L f x) a=if a=f then some x else dM L a:=by
 induction L with
 | nil=>
  simp only[fa,dM];by_cases e:f=a
  .subst e;simp
  rw[aB e,aB (gE e)]
 | cons c r b=>
  have⟨g,y⟩:=c;simp only[fa];split
  .rename_i h;have h1:=yO ((g,y) :: r) (λn=>n != f) a;simp only[dM]at h1⊢;by_cases e:f=a
   .subst e;simp
   rw[aB e,aB (gE e),h1,aE (by simpa using Ne.symm e)]
  rename_i h;simp only[dM];by_cases e:g=a
  .rw[aE e,aE e,aB U]
  rw[aB e,aB e,b]
def Ch{L:ah (J×α)}{f:J}{x:α}{p:J×α}(h:p∈fa L f x):p=(f,x)\/p∈L:=by
 induction L with
 | nil=>exact .inl (by simpa[fa]using h)
 | cons c r a=>
  have⟨g,y⟩:=c;simp only[fa]at h;split at h
  .rcases ff.1 h with h|h
   .exact .inl h
   exact .inr (fx.1 h).1
  rcases ff.1 h with h|h
  .exact .inr (by rw[h];simp)
  rcases a h with h|h
  .exact .inl h
  exact .inr (by simp[h])
def F_{L:ah (J×α)}(h:pS L)(f:J)(x:α):pS (fa L f x):=by
 induction L with
 | nil=>simp[fa,pS]
 | cons c r d=>
  have⟨g,y⟩:=c;have an:=kb.1 h;simp only[fa];split
  .rename_i b;refine kb.2 ⟨λp au=>?_,h.filter _⟩;have⟨h1,h2⟩:=fx.1 au;have a:p.1≠f:=by simpa using h2
   rcases ff.1 h1 with h1|h1
   .rw[h1]at a⊢;simp at a⊢;omega
   have:=an.1 p h1;simp at this⊢;omega
  rename_i b;refine kb.2 ⟨λp au=>?_,d an.2⟩;rcases Ch au with h1|h1
  .rw[h1];simp;omega
  exact an.1 p h1
def F9{L:ah (J×α)}(h:pS L)(p:J×α->a1):pS (L.filter p):=h.filter _
def ui{L:ah (J×α)}{f:J}{x:α}(h:dM L f=some x):(f,x)∈L:=by
 induction L with
 | nil=>cases h
 | cons c r a=>
  have⟨g,y⟩:=c;simp only[dM]at h;split at h
  .rename_i e;subst e;cases h;simp
  simp[a h]
def Cg{L:ah (J×α)}(bh:pS L){f:J}{x:α}(h:(f,x)∈L):dM L f=some x:=by
 induction L with
 | nil=>cases h
 | cons c r a=>
  obtain⟨g,y⟩:=c;have an:=kb.1 bh;simp only[dM];rcases ff.1 h with h|h
  .cases h;rw[aE rfl]
  have:=an.1 _ h
  simp at this;rw[aB U];exact a an.2 h
def HE{L:ah (J×α)}(bh:pS L)(first size:J)(j:∀ p∈L,first<=p.1/\p.1<first+size):((range size).map (first+·)).filter (λf=>(dM L f).isSome)=L.map (·.1):=by
 have key:∀ (d c:ah J),d.Pairwise (·<·)->c.Pairwise (·<·)->(∀ n,n∈d↔n∈c)->d=c:=by
  intro d
  induction d with
  | nil=>
   intro c _ _ h;cases c with
   | nil=>rfl
   | cons b r=>have:=(h b).2 n2;cases this
  | cons a r l=>
   intro c h1 h2 h;cases c with
   | nil=>have:=(h a).1 n2;cases this
   | cons b s=>
    have b6:=kb.1 h1;have bw:=kb.1 h2;have i:a=b:=by
     rcases ff.1 ((h a).1 aM)with e|e
     .exact e
     rcases ff.1 ((h b).2 aM)with g|g
     .exact g.symm
     have:=b6.1 b g;have:=bw.1 a e;omega
    subst i;rw[l s b6.2 bw.2 (λn=>⟨λav=>by
     rcases ff.1 ((h n).1 (by simp[av]))with e|e
     .have:=b6.1 n av;omega
     .exact e,λav=>by
     rcases ff.1 ((h n).2 (by simp[av]))with e|e
     .have:=bw.1 n av;omega
     .exact e⟩)]
 refine key _ _ (Pairwise.filter _ ?_) ?_ λn=>?_
 .rw[vc];exact(pairwise_lt_range).imp a8
 .rw[vc];exact bh
 rw[fx,e9,e9];constructor
 .rintro⟨_,h⟩;obtain⟨x,k⟩:=Ev.1 h;exact⟨(n,x),ui k,rfl⟩
 rintro⟨⟨f,x⟩,au,rfl⟩;have h1:=j _ au;exact⟨⟨f-first,by simp;simp at h1;omega,by simp at h1⊢;omega⟩,by simp[Cg bh au]⟩
end
def AH{p:al}(h:p:=by simpa using h2):p:=h
def qQ{p:al}(h:p:=by simpa using av):p:=h
def tl{p:al}(h:p:=by simpa using a):p:=h
def n1{p:al}(h:p:=by cases h):p:=h
end Go.Proofs.YtalagblioepadaaGreatDoor
