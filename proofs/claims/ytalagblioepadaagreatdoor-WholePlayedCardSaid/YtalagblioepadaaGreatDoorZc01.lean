/- The proof, part 1. -/
import Derived.WalkLawsBesides
import Derived.WalkSpells
import Derived.ProofKit
import Derived.OpenShut
import Derived.ShutString
import Derived.BigQuiet
import Derived.RangeFuncRecord
namespace Go.Proofs.YtalagblioepadaaGreatDoor
open List Go.RowKit
set_option maxRecDepth 100000
set_option linter.all false
inductive AK|mk
def J:AK:=.mk
instance:CoeSort AK Type:=⟨λ_=>Nat⟩
instance:Coe AK Type:=⟨λ_=>Nat⟩
inductive AJ|mk
def aa:AJ:=.mk
instance:CoeSort AJ Type:=⟨λ_=>Int⟩
instance:Coe AJ Type:=⟨λ_=>Int⟩
inductive AN|mk
def ai:AN:=.mk
instance:CoeSort AN Type:=⟨λ_=>World⟩
instance:Coe AN Type:=⟨λ_=>World⟩
inductive AM|mk
def ax:AM:=.mk
instance:CoeSort AM Type:=⟨λ_=>Value⟩
instance:Coe AM Type:=⟨λ_=>Value⟩
inductive AL|mk
def aR:AL:=.mk
instance:CoeSort AL Type:=⟨λ_=>UInt8⟩
instance:Coe AL Type:=⟨λ_=>UInt8⟩
inductive Gl|mk
def ak:Gl:=.mk
instance:CoeSort Gl Type:=⟨λ_=>Prop⟩
inductive AI|mk
def aY:AI:=.mk
instance:CoeSort AI Type:=⟨λ_=>Bool⟩
instance:Coe AI Type:=⟨λ_=>Bool⟩
inductive AO|mk
def cc:AO:=.mk
instance:CoeSort AO Type:=⟨λ_=>ByteArray⟩
instance:Coe AO Type:=⟨λ_=>ByteArray⟩
inductive Gj|mk
def ah:Gj:=.mk
instance:CoeFun Gj λ_=>Type->Type:=⟨λ_=>List⟩
inductive Gk|mk
def b5:Gk:=.mk
instance:CoeFun Gk λ_=>Type->Type:=⟨λ_=>Option⟩
inductive Gi|mk
def a6:Gi:=.mk
instance:CoeFun Gi λ_=>Type->Type:=⟨λ_=>Array⟩
def b3:=@RowKit.Below.refl
def cV:=@congrArg
def c9:=@Nat.le_refl
def d':=@Bool.and_eq_true
def ev:=@IntWalk.i64_in
def eR:=@mem_filter
def e4:=@append_nil
def e5:=@mem_append
def e6:=@mem_cons
def e3:=@mem_map
def e_:=@length_nil
def fg:=@all_eq_true
def fK:=@World.size_alloc
def fL:=@mem_singleton
def fZ:=@decide_eq_true_eq
def gl:=@getElem?_eq_getElem
def gm:=@length_drop
def gn:=@length_take
def gD:=@Nat.le_of_eq
def gK:=@callsIn_wide
def gV:=@length_map
def gW:=@size_toArray
def hq:=@Result.andThen_ok
def hr:=@Option.some.injEq
def hG:=@Sem.run_bind
def hI:=@drop_zero
def hU:=@drop_succ_cons
def hV:=@take_succ_cons
def hW:=@Ne.symm
def hX:=@Option.getD_some
def ig:=@Sem.run_pure
def ih:=@Nat.add_assoc
def ij:=@Option.some.inj
def iy:=@take_zero
def iS:=@flatMap_cons
def iT:=@length_singleton
def jg:=@pairwise_cons
def jh:=@Nat.mod_eq_of_lt
def ji:=@getElem!_pos
def jv:=@cell_of_one
def jw:=@Int.le_refl
def jx:=@length_eq_zero_iff
def jy:=@map_append
def jz:=@map_cons
def jA:=@Prod.mk.injEq
def jT:=@Eq.symm
def jU:=@getElem?_append_left
def jV:=@getElem?_cons_succ
def jW:=@getElem?_toArray
def jX:=@Nat.succ_mul
def kf:=@Array.getElem?_eq_some_iff
def kg:=@mem_cons_of_mem
def kF:=@cons_append
def kG:=@getElem?_cons_zero
def kH:=@mem_of_getElem?
def kI:=@reverse_reverse
def ll:=@Bool.not_eq_true'
def ln:=@mem_ready
def lo:=@map_nil
def lp:=@Nat.not_lt_zero
def l0:=@Array.getElem?_eq_none
def l1:=@RowKit.Below.setCell
def l2:=@Int.eq_ofNat_of_zero_le
def l3:=@getElem?_append_right
def l4:=@reverse_cons
def l5:=@take_append_drop
def l6:=@take_succ_eq_append_getElem
def l7:=@Nat.lt_of_lt_of_le
def mE:=@World.block_lt_of_cell?
def mF:=@drop_drop
def mG:=@length_cons
def mH:=@length_filter_le
def mI:=@mem_cons_self
def nw:=@Array.getElem?_toList
def nx:=@free_of_one
def ny:=@info_parts
def nz:=@wpList_plain
def nA:=@filter_eq_self
def nB:=@foldl_append
def nC:=@getElem_mem
def nD:=@nil_append
def nE:=@take_length
def nF:=@take_of_length_le
def nG:=@Nat.pow_succ
def nH:=@beq_iff_eq
def oy:=@cell_one_new
def oz:=@wpIn_wide
def oA:=@Int.tmod_eq_emod_of_nonneg
def oB:=@filter_cons_of_neg
def oC:=@foldl_cons
def oD:=@getD_eq_getElem?_getD
def oE:=@perm_append_comm_assoc
def oF:=@Nat.lt_irrefl
def oG:=@Nat.min_eq_left
def oH:=@Nat.mul_comm
def oI:=@Option.isSome_none
def py:=@Array.ext_getElem?
def pz:=@Array.getElem?_push
def pA:=@Array.length_toList
def pn:=@length_append
def po:=@mem_range
def pq:=@pairwise_append
def pr:=@Nat.div_add_mod
def pt:=@Option.getD_none
def pv:=@Option.isSome_some
def pw:=@Option.map_some
def px:=@decide_eq_false_iff_not
def qk:=@bodyPost_end
def ql:=@wpList_append_own
def qm:=@drop_eq_getElem_cons
def qn:=@getElem?_set_ne
def qo:=@length_pos_iff
def qp:=@length_set
def qq:=@perm_middle
def qs:=@range_succ
def qt:=@Nat.add_comm
def qu:=@Nat.zero_add
def qv:=@Prod.ext
def rp:=@run_underlying
def rq:=@Int.toNat_natCast
def rr:=@filter_append
def ru:=@filter_cons_of_pos
def rv:=@filter_map
def ry:=@flatMap_append
def rz:=@foldl_nil
def rA:=@set_cons_zero
def rB:=@take_left'
def rC:=@Nat.add_zero
def rD:=@Nat.eq_zero_or_pos
def rE:=@Nat.le_trans
def rF:=@Nat.pow_le_pow_right
def rG:=@of_decide_eq_true
def sI:=@Array.getElem?_eq_getElem
def sJ:=@Array.replicate_succ
def sK:=@Array.replicate_zero
def sL:=@Bool.true_and
def sM:=@append_toArray
def sN:=@getElem?_eq_none
def sO:=@mem_append_left
def sP:=@mem_append_right
def sQ:=@mem_iff_getElem
def sR:=@pairwise_iff_getElem
def sS:=@pairwise_map
def sT:=@push_toArray
def sU:=@setIfInBounds_toArray
def sV:=@Nat.mul_le_mul_right
def uH:=@Bool.or_eq_true
def uI:=@Act.put_comm
def uJ:=@ready_mono
def uK:=@eq_nil_of_length_eq_zero
def uL:=@getElem?_set_self
def uM:=@getElem?_take
def uN:=@length_replicate
def uO:=@mem_flatMap
def uP:=@not_mem_nil
def uQ:=@Nat.le_succ
def uR:=@not_not_intro
def wM:=@Array.getElem?_setIfInBounds_ne
def wN:=@Bool.false_eq_true
def wO:=@Bool.false_or
def wP:=@Bool.or_false
def wQ:=@ByteArray.toList_eq
def wR:=@Obj.cells.injEq
def wS:=@World.cell?_setCell_same
def wT:=@run_append_own_at
def wU:=@run_loadCells_list
def wV:=@any_eq_true
def wW:=@drop_left'
def wX:=@filter_congr
def wY:=@getElem?_drop
def wZ:=@getElem_cons_succ
def w0:=@getElem_of_mem
def w1:=@getElem_set_ne
def w2:=@map_singleton
def w3:=@mem_or_eq_of_mem_set
def w4:=@prefix_refl
def w5:=@set_cons_succ
def w6:=@Nat.zero_mul
def zq:=@Array.getElem?_setIfInBounds_self_of_lt
def zr:=@Bool.eq_iff_iff
def zs:=@Bool.true_or
def zt:=@DataW.held.injEq
def zu:=@IntKind.wrap_u64
def zv:=@RowKit.Below.heap_alloc
def zw:=@WideAt.sameKey_self
def zx:=@World.ownsRow_nil
def zy:=@execOp_put
def zz:=@results_tmp
def zA:=@Int.le_trans
def zB:=@Perm.refl
def zC:=@any_eq_false
def zD:=@List.cons.injEq
def zE:=@countP_cons
def zF:=@filter_nil
def zG:=@find?_eq_none
def zH:=@foldl_toArray
def zI:=@getElem_set_self
def zJ:=@mem_of_find?_eq_some
def zK:=@mem_of_mem_drop
def zL:=@mem_of_mem_take
def zM:=@take_append_of_le_length
def zN:=@take_left
def zO:=@zip_cons_cons
def zP:=@zip_nil_right
def zQ:=@zip_toArray
def zR:=@Nat.mul_le_mul_left
def zS:=@Nat.mul_one
def zT:=@UInt8.toNat_inj
def Dk:=@Array.getElem?_modify
def Dl:=@Array.toList_inj
def Dm:=@Bool.and_false
def Dn:=@Bool.false_and
def Dp:=@Bool.not_eq_true
def Dq:=@IntKind.wrap_i64
def Dr:=@Region.free_spec
def Ds:=@Region.noSelect_spec
def Dt:=@RowKit.Below.heap_setCell
def Du:=@WideAt.sameKey_eq
def Dv:=@World.cell?_setCell_other
def Dw:=@World.drewN_drewN
def Dx:=@getD_set_ne
def Dy:=@grownCap_ge
def Dz:=@run_convert_bytes_back
def DA:=@run_equalIn_agg
def DB:=@run_storeCells_at
def DC:=@wpIn_region_lit
def DD:=@wpListIn_nil
def DE:=@wpListIn_plain
def DF:=@wp_region_any
def DG:=@Int.emod_nonneg
def DH:=@Int.mul_nonneg
def DI:=@Int.mul_sub
def DJ:=@drop_append_of_le_length
def DK:=@drop_eq_nil_of_le
def DL:=@drop_of_length_le
def DM:=@filter_sublist
def DN:=@getElem?_replicate
def DO:=@getElem_cons_zero
def DP:=@getElem_toArray
def DQ:=@pairwise_singleton
def DR:=@replicate_succ'
def DS:=@Nat.add_mul
def DT:=@Nat.add_sub_cancel
def DU:=@Nat.add_sub_cancel_left
def DV:=@Nat.div_le_self
def DW:=@Nat.lt_or_ge
def DX:=@Nat.min_eq_right
def DY:=@Nat.sub_self
def DZ:=@Option.isSome_iff_exists
def D0:=@Option.map_map
def D1:=@bne_iff_ne
def D2:=@of_decide_eq_false
def Lq:=@Array.any_eq_true'
def Lr:=@Array.extract_size
def Ls:=@Array.getElem_modify_self
def Lt:=@Array.setIfInBounds_comm
def Lu:=@Array.toArray_toList
def Lv:=@BitVec.toNat_ofInt
def Lw:=@BitVec.xor_allOnes
def Lx:=@ByteArray.data_append
def Ly:=@Decidable.byContradiction
def LA:=@Lib.wpList_append_own_string
def LB:=@World.cell?_of_block
def LC:=@World.frozen?_setCell
def LD:=@toList_madeCells_one
def LF:=@Int.emod_lt_of_pos
def LG:=@Int.mul_nonneg_of_nonpos_of_nonpos
def LH:=@Int.sub_eq_add_neg
def LI:=@Nat.add_mul_mod_self_left
def LJ:=@Nat.div_lt_of_lt_mul
def LK:=@Nat.xor_lt_two_pow
def LL:=@UInt8.toNat_ofNat'
def kh{p:ak}(h:p:=by omega):p:=h
def ik{p:ak}(h:p:=by simpa using h):p:=h
def af{p:ak}(h:p):Hid p:=h
def _root_.Go.RowKit.Hid.o{p:Prop}(h:Hid p):p:=h
def CJ:ax->J|.string t=>t.size|_=>0
def X0(s:cc)(k:J)(h:k<s.size):s.data.toList.take (k+1)=s.data.toList.take k++[s[k]]:=by
 rw[l6 ik];rfl
def extract_data(s:cc)(a b:J):(s.extract a b).data.toList=(s.data.toList.drop a).take (b-a):=by
 rw[ByteArray.data_extract];simp[extract_eq_take_drop]
def vH(s:cc)(a:J):(s.extract a s.size).data.toList=s.data.toList.drop a:=by
 rw[extract_data,nF];simp
def wrap_u16(n:aa):IntKind.u16.wrap n=n%65536:=by simp[IntKind.wrap,IntKind.bits,IntKind.signed]
def wrap_u8(n:aa):IntKind.u8.wrap n=n%256:=by simp[IntKind.wrap,IntKind.bits,IntKind.signed]
def wrap_u32(n:aa):IntKind.u32.wrap n=n%4294967296:=by simp[IntKind.wrap,IntKind.bits,IntKind.signed]
def wrap_u64(n:aa):IntKind.u64.wrap n=n%18446744073709551616:=by simp[IntKind.wrap,IntKind.bits,IntKind.signed]
def Zf(n:aa):IntKind.i16.wrap n=(n+32768)%65536-32768:=by
 simp only[IntKind.wrap,IntKind.bits,IntKind.signed];simp;split<;>omega
def q6{k:IntKind}{a b:aa}(h:a=b):Ending.returned (.int k a)=.returned (.int k b):=by rw[h]
def k_{a b:aY}(h:a=b):Ending.returned (.bool a)=.returned (.bool b):=by rw[h]
def Ju{a b a' c:ax}(h:a=a')(d:b=c):Ending.returned (.tuple #[a,b])=.returned (.tuple #[a',c]):=by rw[h,d]
def C1{k:IntKind}{a b:aa}(h:a=b):Value.int k a=.int k b:=by rw[h]
def h3(b o i:J):(⟨b,o,none⟩:Addr).add i=⟨b,o+i,none⟩:=by unfold Addr.add;split<;>simp_all
theorem Yf(a m:aa):(0<=a->a.tmod m=a%m)/\(a<0->a.tmod m=-((-a)%m)):=
 ⟨λh=>oA h,λh=>by rw[<-oA (a:=-a) kh,Int.neg_tmod,Int.neg_neg]⟩
structure kJ(w:ai) where
 to:ai
 below:Below w.heap.size w to
instance (w:ai):Nonempty (kJ w):=⟨⟨w,b3 _ _⟩⟩
theorem pk{P:Program}{id:J}{Q:Exit->Act->ai->ak}{a:Act}{w:ai}{l:ah Oper}(hm:P.follows .mixedOrders=true)(b:Region.lexB .any l.toArray=true)(h:wpQuiet P l.toArray (λw'=>∃ x:kJ w,w'=x.to) (λa'=>∀ w',(∃ x:kJ w,w'=x.to)->Q .normal a' w') l a):(Code.region id l.toArray true).wp P Q a w:=
 wp_region_quiet (C:=λw'=>∃ x:kJ w,w'=x.to) hm b ⟨⟨{w with drawn:=w.drawn+1},(b3 _ w).drew⟩,rfl⟩ ik
theorem Calls.kl{P:Program}{f:FuncId}{args:a6 ax}{w:ai}{x:kJ w}{v:ax}(h:Calls P f args x.to λe w'=>e=.returned v/\Below x.to.heap.size x.to w'):Calls P f args x.to λe a=>e=.returned v/\∃ y:kJ w,a=y.to:=
 h.mono λ_ w' ⟨b,aj⟩=>⟨b,⟨w',x.below.trans (aj.mono x.below.size)⟩,rfl⟩
theorem Calls.jF{P:Program}{f:FuncId}{args:a6 ax}{w:ai}{x:kJ w}{v:ax}(h:Calls P f args x.to λe w'=>e=.returned v/\x.to=w'):Calls P f args x.to λe a=>e=.returned v/\∃ y:kJ w,a=y.to:=
 h.mono λ_ _ ⟨b,aj⟩=>⟨b,x,aj.symm⟩
section
structure Keeps(S:J->ak)(w w':ai):ak where
 os:w'.os=w.os
 tape:w'.tape=w.tape
 output:w'.output=w.output
 size:w.heap.size<=w'.heap.size
 block:∀ k,k<w.heap.size->¬ S k->w'.heap[k]?=w.heap[k]?
namespace Keeps
variable{S T:J->ak}{w w' a b c:ai}
def refl(S:J->ak)(w:ai):Keeps S w w:=⟨rfl,rfl,rfl,c9 _,λ_ _ _=>rfl⟩
theorem trans(h:Keeps S a b)(k:Keeps S b c):Keeps S a c:=
 ⟨k.os.trans h.os,k.tape.trans h.tape,k.output.trans h.output,rE h.size k.size,λi aw av=>(k.block i (l7 aw h.size) av).trans (h.block i aw av)⟩
theorem mono(h:Keeps S a b)(av:∀ k,k<a.heap.size->S k->T k):Keeps T a b:=
 ⟨h.os,h.tape,h.output,h.size,λk hk aO=>h.block k hk (λs=>aO (av k hk s))⟩
theorem alloc(h:Keeps S a b)(o:Obj):Keeps S a (b.alloc o):=
 h.trans ⟨rfl,rfl,rfl,by simp,λk hk _=>zv _ _ _ hk⟩
theorem setCell(h:Keeps S a b){p:Addr}(au:S p.block)(u:ax):Keeps S a (b.setCell p u):=
 h.trans ⟨rfl,rfl,rfl,by simp[World.setCell],λk _ av=>Dt _ _ _ _ (λe=>av (e▸au))⟩
theorem oi(h:Keeps S a b){p:Addr}(au:a.heap.size<=p.block)(u:ax):Keeps S a (b.setCell p u):=
 ⟨h.os,h.tape,h.output,by simp only[World.setCell,Array.size_modify];exact h.size,λk hk av=>(Dt _ _ _ _ kh).trans (h.block k hk av)⟩
theorem drew(h:Keeps S a b):Keeps S a b.drew:=⟨h.os,h.tape,h.output,h.size,h.block⟩
theorem drewN(h:Keeps S a b)(n:J):Keeps S a (b.drewN n):=h.trans ⟨rfl,rfl,rfl,c9 _,λ_ _ _=>rfl⟩
theorem putObj(h:Keeps S a b){l:J}(c:S l)(o:Obj):Keeps S a (b.putObj l o):=
 h.trans ⟨rfl,rfl,rfl,by simp,λ_ _ av=>World.putObj_heap_other (λe=>av (e▸c))⟩
theorem bD{B:J}(h:Below B a b)(d:∀ k,k<a.heap.size->B<=k->S k):Keeps S a b:=
 ⟨h.os,h.tape,h.output,h.size,λk hk av=>h.block k (Nat.lt_of_not_le λc=>av (d k hk c))⟩
theorem below{B:J}(h:Keeps S a b)(c:B<=a.heap.size)(av:∀ k,k<B->¬ S k):Below B a b:=
 ⟨h.os,h.tape,h.output,h.size,λk hk=>h.block k (l7 hk c) (av k hk)⟩
theorem fI(h:Keeps S a b)(k:Below b.heap.size b c):Keeps S a c:=
 h.trans (bD k λ_ hk d=>absurd hk (Nat.not_lt.2 d))
theorem grown(h:Keeps S a b){row:b5 J}(aZ:b.grownBy c row)(d:∀ k,row=some k->S k\/a.heap.size<=k):Keeps S a c:=
 ⟨aZ.os.trans h.os,aZ.tape.trans h.tape,aZ.output.trans h.output,rE h.size aZ.size,λk hk av=>by
  refine(aZ.block k (l7 hk h.size) (λe=>?_)).trans (h.block k hk av);rcases d k e.symm with c|c
  .exact av c
  .omega⟩
theorem heap(h:Keeps S a b){k:J}{o:Obj}(c:a.heap[k]?=some o)(av:¬ S k):b.heap[k]?=some o:=
 (h.block k (kf.1 c).1 av).trans c
theorem cell(h:Keeps S a b){p:Addr}{v:ax}(al:a.cell? p=some v)(av:¬ S p.block):b.cell? p=some v:=
 (LB (h.block p.block (mE a p al) av)).trans al
theorem frozen(h:Keeps S a b){p:Addr}(au:p.block<a.heap.size)(av:¬ S p.block):b.frozen? p=a.frozen? p:=
 World.frozen?_of_block (h.block p.block au av)
end Keeps
def qK{w:ai}{p:Addr}{v:ax}(h:w.cell? p=some v)(o:Obj):(w.alloc o).cell? p=some v:=((Keeps.refl (λ_=>False) w).alloc o).cell h id
theorem QZ{w:ai}{p:Addr}{v:ax}(h:w.cell? p=some v){b:aY}(a:w.frozen? p=b)(o:Obj):(w.alloc o).frozen? p=b:=
 (((Keeps.refl (λ_=>False) w).alloc o).frozen (mE w p h) id).trans a
def nS(w:ai)(v:ax)(t:TypeId):(w.alloc (.cells #[v] t)).cell? ⟨w.heap.size,0,none⟩=some v:=by go_simp
def QY(w:ai)(v:ax)(t:TypeId):(w.alloc (.cells #[v] t)).frozen? ⟨w.heap.size,0,none⟩=false:=by go_simp
end
inductive ER|mk
def I:ER:=.mk
instance:CoeFun ER λ_=>Int->ax:=⟨λ_=>.int .i64⟩
inductive ES|mk
def ag:ES:=.mk
instance:CoeFun ES λ_=>Int->ax:=⟨λ_=>.int .i32⟩
inductive EX|mk
def aP:EX:=.mk
instance:CoeFun EX λ_=>Int->ax:=⟨λ_=>.int .u32⟩
inductive EY|mk
def bx:EY:=.mk
instance:CoeFun EY λ_=>Int->ax:=⟨λ_=>.int .u16⟩
inductive EZ|mk
def aF:EZ:=.mk
instance:CoeFun EZ λ_=>Int->ax:=⟨λ_=>.int .u8⟩
inductive EP|mk
def aQ:EP:=.mk
instance:CoeFun EP λ_=>Array ax->ax:=⟨λ_=>.agg⟩
inductive EW|mk
def aV:EW:=.mk
instance:CoeFun EW λ_=>Array ax->ax:=⟨λ_=>.tuple⟩
inductive EV|mk
def aq:EV:=.mk
instance:CoeFun EV λ_=>Option Addr->J->J->ax:=⟨λ_=>.slice⟩
inductive ET|mk
def ae:ET:=.mk
instance:CoeFun ET λ_=>Array ax->TypeId->(_:J×J:=(0,0))->Obj:=⟨λ_=>@Obj.cells⟩
inductive EM|mk
def ad:EM:=.mk
instance:CoeFun EM λ_=>Nat->J->b5 J->Addr:=⟨λ_=>Addr.mk⟩
inductive EU|mk
def ab:EU:=.mk
instance:Coe EU (b5 J):=⟨λ_=>none⟩
inductive E6|mk
def cd:E6:=.mk
instance:Coe E6 (a6 ax):=⟨λ_=>#[.slice none 0 0,.slice none 0 0,.bool false]⟩
inductive E2|mk
def z9:E2:=.mk
instance:Coe E2 (a6 ax):=⟨λ_=>#[.int .i64 0,.int .i64 0,.int .i64 0,.int .i64 0,.int .i64 0,.int .i64 0,.int .i64 0,.int .i64 0,.int .i64 0]⟩
inductive E1|mk
def z4:E1:=.mk
instance:Coe E1 (a6 ax):=⟨λ_=>#[.int .i64 0,.int .i64 0,.int .i64 0,.int .i64 0]⟩
inductive E7|mk
def ox:E7:=.mk
instance:Coe E7 (a6 ax):=⟨λ_=>#[.int .i64 0,.int .i64 0,.int .i64 0,.int .i64 0,.int .i64 0,.int .i64 0,.int .i64 0,.int .i64 0,.int .i64 0,.int .i64 0,.int .i64 0,.int .i64 0]⟩
inductive E3|mk
def nv:E3:=.mk
instance:Coe E3 (a6 ax):=⟨λ_=>#[.int .i64 0,.int .i64 0,.int .i64 0,.int .i64 0,.int .i64 0,.int .i64 0,.int .i64 0,.int .i64 0,.int .i64 0,.int .i64 0,.int .i64 0,.bool false]⟩
inductive E4|mk
def c2:E4:=.mk
instance:Coe E4 (a6 ax):=⟨λ_=>#[.int .i32 0,.int .i32 0]⟩
inductive E5|mk
def eJ:E5:=.mk
instance:Coe E5 (a6 ax):=⟨λ_=>#[.int .i32 0,.int .i32 0,.int .i32 0,.int .i32 0]⟩
instance:Coe World Nat:=⟨λw=>w.heap.size⟩
inductive EO|mk
def aI:EO:=.mk
instance:Coe EO (J->ak):=⟨λ_ _=>False⟩
instance:Coe Nat Value:=⟨λb=>.pointer (some ⟨b,0,none⟩)⟩
instance:Coe Bool Value:=⟨.bool⟩
instance:Coe Value Ending:=⟨.returned⟩
def az{c:ak}{h:Decidable c}(g:¬c){α:Sort _}{t e:α}:(if c then t else e)=e:=if_neg g
def aD{c:ak}{h:Decidable c}(g:c){α:Sort _}{t e:α}:(if c then t else e)=t:=if_pos g
def bB{a b:ak}(x:a)(y:b):a/\b:=⟨x,y⟩
def dd{p:ak}[Decidable p](h:¬p):decide p=false:=decide_eq_false h
def ee{p:ak}[Decidable p](h:p):decide p=true:=decide_eq_true h
def cU{P:Program}{fn:Func}{R:Ending->ai->ak}{a:Act}{w:ai}{v:ax}(c:(results fn a.tmps).run P w=.ok v w)(hd:a.defers=[])(b:R (.returned v) w):bodyPost P fn R .ret a w:=bodyPost_ret c hd b
def hp{α:Type _}{i:J}{a:α}{l:List α}:l[i]?=some a↔∃ h:i<l.length,l[i]=a:=List.getElem?_eq_some_iff
def eu{α:Type _}[BEq α][LawfulBEq α]{a b:α}:(a == b)=false↔a≠b:=beq_eq_false_iff_ne
def cx{α:Type _}{a b:List α}:(a++b).length=a.length+b.length:=pn
def ds{α:Type _}{a:α}{b:List α}:(a :: b).length=b.length+1:=mG
def dD{α:Type _}(a b c:List α):a++b++c=a++(b++c):=append_assoc a b c
def b7{n m k:J}(a:n<=m)(b:m<=k):n<=k:=rE a b
def c'(n:J):0<=n:=Nat.zero_le n
def gC(n:J):0+n=n:=qu n
def e2(x:J){y:J}(h:0<y):x%y<y:=Nat.mod_lt x h
def U{p:ak}(h:p:=by omega):p:=h
def a7{p:ak}(h:p:=by intros;omega):p:=h
def aK{p:ak}(h:p:=by simp):p:=h
def bT{p:ak}(h:p:=by simp;omega):p:=h
def bq{p:ak}(h:p:=by decide):p:=h
def aH{p:ak}(h:p:=by kernel_rfl):p:=h
def bs{n:J}:n<=n:=c9 n
def ba(w:ai):Keeps aI w w:=.refl _ w
def c7:(∀ {α:Type} (l:List α) (i:J) (a:α),l.toArray.setIfInBounds i a=(l.set i a).toArray)/\(∀ {α:Type} {x:α} {xs:List α} {i:J} {a:α},(x :: xs).set (i+1) a=x :: xs.set i a)/\∀ {α:Type} {x:α} {xs:List α} {a:α},(x :: xs).set 0 a=a :: xs:=⟨sU,w5,rA⟩
def hf:(∀ {α:Type} {xs:List α} {i:J},xs.toArray[i]?=xs[i]?)/\(∀ {α:Type} {a:α} {l:List α},(a :: l)[0]?=some a)/\(∀ {α:Type} {a:α} {l:List α} {i:J},(a :: l)[i+1]?=l[i]?)/\∀ {α:Type} {a b:α},(some a).getD b=a:=⟨jW,kG,jV,hX⟩
variable{w:ai}{b k:J}{bQ:a6 ax}{t:TypeId}{v:ax}
def bb(h:w.heap[b]?=some (ae bQ t (0,0)))(aW:bQ[k]?=some v):w.cell? (ad b k ab)=some v:=by
 unfold World.cell?;rw[h];exact aW
def fx(h:w.heap[b]?=some (ae bQ t (0,0)))(k:J):w.frozen? (ad b k ab)=false:=by
 unfold World.frozen?;rw[h];simp
def OA(i j:J){x y:ax}(h:w.heap[b]?=some (.cells bQ t (0,0)))(e:bQ[i]?=some x/\bQ[j]?=some y):w.cell? ⟨b,i,none⟩=some x/\w.cell? ⟨b,j,none⟩=some y:=⟨bb h e.1,bb h e.2⟩
def OF(h:w.heap[b]?=some (.cells bQ t (0,0)))(i j:J):w.frozen? ⟨b,i,none⟩=false/\w.frozen? ⟨b,j,none⟩=false:=⟨fx h i,fx h j⟩
def FF(d a c:J){f g i:ax}(h:w.heap[b]?=some (.cells bQ t (0,0)))(e:bQ[d]?=some f/\bQ[a]?=some g/\bQ[c]?=some i):w.cell? ⟨b,d,none⟩=some f/\w.cell? ⟨b,a,none⟩=some g/\w.cell? ⟨b,c,none⟩=some i:=⟨bb h e.1,OA a c h e.2⟩
def OG(h:w.heap[b]?=some (.cells bQ t (0,0)))(a c d:J):w.frozen? ⟨b,a,none⟩=false/\w.frozen? ⟨b,c,none⟩=false/\w.frozen? ⟨b,d,none⟩=false:=⟨fx h a,OF h c d⟩
def FG(f a c d:J){g i j k:ax}(h:w.heap[b]?=some (.cells bQ t (0,0)))(e:bQ[f]?=some g/\bQ[a]?=some i/\bQ[c]?=some j/\bQ[d]?=some k):w.cell? ⟨b,f,none⟩=some g/\w.cell? ⟨b,a,none⟩=some i/\w.cell? ⟨b,c,none⟩=some j/\w.cell? ⟨b,d,none⟩=some k:=⟨bb h e.1,FF a c d h e.2⟩
def OH(h:w.heap[b]?=some (.cells bQ t (0,0)))(a c d e:J):w.frozen? ⟨b,a,none⟩=false/\w.frozen? ⟨b,c,none⟩=false/\w.frozen? ⟨b,d,none⟩=false/\w.frozen? ⟨b,e,none⟩=false:=⟨fx h a,OG h c d e⟩
def OB(g a c d f:J){i j k l m:ax}(h:w.heap[b]?=some (.cells bQ t (0,0)))(e:bQ[g]?=some i/\bQ[a]?=some j/\bQ[c]?=some k/\bQ[d]?=some l/\bQ[f]?=some m):w.cell? ⟨b,g,none⟩=some i/\w.cell? ⟨b,a,none⟩=some j/\w.cell? ⟨b,c,none⟩=some k/\w.cell? ⟨b,d,none⟩=some l/\w.cell? ⟨b,f,none⟩=some m:=⟨bb h e.1,FG a c d f h e.2⟩
def OI(h:w.heap[b]?=some (.cells bQ t (0,0)))(a c d e f:J):w.frozen? ⟨b,a,none⟩=false/\w.frozen? ⟨b,c,none⟩=false/\w.frozen? ⟨b,d,none⟩=false/\w.frozen? ⟨b,e,none⟩=false/\w.frozen? ⟨b,f,none⟩=false:=⟨fx h a,OH h c d e f⟩
def OC(i a c d f g:J){j k l m n o:ax}(h:w.heap[b]?=some (.cells bQ t (0,0)))(e:bQ[i]?=some j/\bQ[a]?=some k/\bQ[c]?=some l/\bQ[d]?=some m/\bQ[f]?=some n/\bQ[g]?=some o):w.cell? ⟨b,i,none⟩=some j/\w.cell? ⟨b,a,none⟩=some k/\w.cell? ⟨b,c,none⟩=some l/\w.cell? ⟨b,d,none⟩=some m/\w.cell? ⟨b,f,none⟩=some n/\w.cell? ⟨b,g,none⟩=some o:=⟨bb h e.1,OB a c d f g h e.2⟩
def OJ(h:w.heap[b]?=some (.cells bQ t (0,0)))(a c d e f g:J):w.frozen? ⟨b,a,none⟩=false/\w.frozen? ⟨b,c,none⟩=false/\w.frozen? ⟨b,d,none⟩=false/\w.frozen? ⟨b,e,none⟩=false/\w.frozen? ⟨b,f,none⟩=false/\w.frozen? ⟨b,g,none⟩=false:=⟨fx h a,OI h c d e f g⟩
def OD(j a c d f g i:J){k l m n o p q:ax}(h:w.heap[b]?=some (.cells bQ t (0,0)))(e:bQ[j]?=some k/\bQ[a]?=some l/\bQ[c]?=some m/\bQ[d]?=some n/\bQ[f]?=some o/\bQ[g]?=some p/\bQ[i]?=some q):w.cell? ⟨b,j,none⟩=some k/\w.cell? ⟨b,a,none⟩=some l/\w.cell? ⟨b,c,none⟩=some m/\w.cell? ⟨b,d,none⟩=some n/\w.cell? ⟨b,f,none⟩=some o/\w.cell? ⟨b,g,none⟩=some p/\w.cell? ⟨b,i,none⟩=some q:=⟨bb h e.1,OC a c d f g i h e.2⟩
def OK(h:w.heap[b]?=some (.cells bQ t (0,0)))(a c d e f g i:J):w.frozen? ⟨b,a,none⟩=false/\w.frozen? ⟨b,c,none⟩=false/\w.frozen? ⟨b,d,none⟩=false/\w.frozen? ⟨b,e,none⟩=false/\w.frozen? ⟨b,f,none⟩=false/\w.frozen? ⟨b,g,none⟩=false/\w.frozen? ⟨b,i,none⟩=false:=⟨fx h a,OJ h c d e f g i⟩
def Zu(k a c d f g i j:J){l m n o p q r s:ax}(h:w.heap[b]?=some (.cells bQ t (0,0)))(e:bQ[k]?=some l/\bQ[a]?=some m/\bQ[c]?=some n/\bQ[d]?=some o/\bQ[f]?=some p/\bQ[g]?=some q/\bQ[i]?=some r/\bQ[j]?=some s):w.cell? ⟨b,k,none⟩=some l/\w.cell? ⟨b,a,none⟩=some m/\w.cell? ⟨b,c,none⟩=some n/\w.cell? ⟨b,d,none⟩=some o/\w.cell? ⟨b,f,none⟩=some p/\w.cell? ⟨b,g,none⟩=some q/\w.cell? ⟨b,i,none⟩=some r/\w.cell? ⟨b,j,none⟩=some s:=⟨bb h e.1,OD a c d f g i j h e.2⟩
def Zv(h:w.heap[b]?=some (.cells bQ t (0,0)))(a c d e f g i j:J):w.frozen? ⟨b,a,none⟩=false/\w.frozen? ⟨b,c,none⟩=false/\w.frozen? ⟨b,d,none⟩=false/\w.frozen? ⟨b,e,none⟩=false/\w.frozen? ⟨b,f,none⟩=false/\w.frozen? ⟨b,g,none⟩=false/\w.frozen? ⟨b,i,none⟩=false/\w.frozen? ⟨b,j,none⟩=false:=⟨fx h a,OK h c d e f g i j⟩
def bP{o:Obj}(h:w.heap[b]?=some o):b<w.heap.size:=(kf.1 h).1
def bV(h:w.heap[b]?=some (ae bQ t (0,0)))(k:J)(u:ax):(w.setCell (ad b k ab) u).heap[b]?=some (ae (bQ.setIfInBounds k u) t (0,0)):=by
 have a:=bP h;have c:w.heap[b]=ae bQ t (0,0):=by simpa[sI a]using h
 show(w.heap.modify b _)[b]?=_;rw[sI (by simpa using a),Ls,c];rfl
def eU{o:Obj}{p:Addr}(h:w.heap[b]?=some o)(hne:b≠p.block)(u:ax):(w.setCell p u).heap[b]?=some o:=(Dt _ _ _ _ hne).trans h
def cm{o:Obj}(h:w.heap[b]?=some o)(x:Obj):(w.alloc x).heap[b]?=some o:=(zv _ _ _ (bP h)).trans h
def aX(w:ai)(o:Obj):(w.alloc o).heap[w.heap.size]?=some o:=World.alloc_heap_new w o
def k2{S:J->ak}{w w':ai}(h:Keeps aI w w'):Keeps S w w':=h.mono λ_ _ x=>x.elim
def mi{S:J->ak}{w w':ai}(h:Keeps S w w'):Keeps S w.drew w':=⟨h.os,h.tape,h.output,h.size,h.block⟩
def aS{w:ai}{b:J}{bQ us:a6 ax}{t:TypeId}(h:w.heap[b]?=some (ae bQ t (0,0)))(e:bQ=us:=by first|exact(rfl:_=#[_])|exact(rfl:_=#[_,_])|exact(rfl:_=#[_,_,_])|exact(rfl:_=#[_,_,_,_])|exact(rfl:_=#[_,_,_,_,_])|exact(rfl:_=#[_,_,_,_,_,_])|exact(rfl:_=#[_,_,_,_,_,_,_])|exact(rfl:_=#[_,_,_,_,_,_,_,_])|exact(rfl:_=#[_,_,_,_,_,_,_,_,_])|exact(rfl:_=#[_,_,_,_,_,_,_,_,_,_])|exact(rfl:_=#[_,_,_,_,_,_,_,_,_,_,_])|exact(rfl:_=#[_,_,_,_,_,_,_,_,_,_,_,_])|exact(rfl:_=#[_,_,_,_,_,_,_,_,_,_,_,_,_])|exact(rfl:_=#[_,_,_,_,_,_,_,_,_,_,_,_,_,_])|exact(rfl:_=#[_,_,_,_,_,_,_,_,_,_,_,_,_,_,_])|exact(rfl:_=#[_,_,_,_,_,_,_,_,_,_,_,_,_,_,_,_])):∀ k,w.cell? (ad b k ab)=us[k]?:=λk=>by
 unfold World.cell?;rw[h,e];rfl
def bI{w:ai}{b:J}{bQ:a6 ax}{t:TypeId}(h:w.heap[b]?=some (ae bQ t (0,0))):∀ k,w.frozen? (ad b k ab)=false:=fx h
section
structure ay where
 S:J->ak
 P:ai->ak
 lt:∀ {w b},P w->S b->b<w.heap.size
 frame:∀ {w w':ai} {T:J->ak},P w->Keeps T w w'->(∀ b,S b->¬ T b)->P w'
def ay.bc(b:J)(o:a6 ax×TypeId):ay where
 S j:=j=b
 P w:=w.heap[b]?=some (ae o.1 o.2 (0,0))
 lt h e:=by subst e;exact(kf.1 h).1
 frame h hk av:=hk.heap h (av b rfl)
def ay.none:ay:=⟨λ_=>False,λ_=>True,λ_ h=>h.elim,λ_ _ _=>trivial⟩
def rK(r s:ay):ak:=∀ b,r.S b->¬ s.S b
def rK.symm{r s:ay}(h:rK r s):rK s r:=λb h1 h2=>h b h2 h1
structure Sep(w:ai)(L:ah ay):ak where
 all:∀ r∈L,r.P w
 apart:L.Pairwise rK
namespace Sep
variable{w w':ai}{L:ah ay}
def at'(h:Sep w L)(i:J){r:ay}(aw:L[i]?=some r):r.P w:=h.all r (kH aw)
theorem lt(h:Sep w L){r:ay}(a:r∈L){b:J}(aj:r.S b):b<w.heap.size:=r.lt (h.all r a) aj
def rO(h:Sep w L){i j:J}{r s:ay}(aw:L[i]?=some r)(c:L[j]?=some s)(b:i≠j):rK r s:=by
 obtain⟨h1,rfl⟩:=hp.1 aw;obtain⟨h2,rfl⟩:=hp.1 c;have au:=sR.1 h.apart;rcases Nat.lt_or_gt_of_ne b with a|a
 .exact au i j h1 h2 a
 exact(au j i h2 h1 a).symm
theorem keeps{T:J->ak}(h:Sep w L)(hk:Keeps T w w')(c:∀ r∈L,∀ b,r.S b->¬ T b):Sep w' L:=
 ⟨λr a=>r.frame (h.all r a) hk (c r a),h.apart⟩
def keep(h:Sep w L)(hk:Keeps aI w w'):Sep w' L:=h.keeps hk (λ_ _ _ _=>id)
def below(h:Sep w L)(aj:Below w w w'):Sep w' L:=h.keep (Keeps.bD aj λk h1 h2=>U)
def drew(h:Sep w L)(n:J):Sep (w.drewN n) L:=h.keep ((Keeps.refl _ w).drewN n)
theorem alloc(h:Sep w L)(o:Obj):Sep (w.alloc o) L:=h.keep ((Keeps.refl _ w).alloc o)
theorem set{T:J->ak}(h:Sep w L)(i:J){r r':ay}(aw:L[i]?=some r)(hk:Keeps T w w')(g:∀ b,b<w.heap.size->T b->r.S b)(f:r'.P w')(an:∀ b,r'.S b->r.S b\/w.heap.size<=b):Sep w' (L.set i r'):=by
 have⟨l,m⟩:=hp.1 aw;have key:∀ j s,j≠i->L[j]?=some s->s.P w'/\rK r' s:=by
  intro j s c av;have hm:=kH av;have bd:=h.rO aw av (hW c);refine⟨s.frame (h.all s hm) hk λb aj aO=>bd b (g b (h.lt hm aj) aO) aj,λb aj d=>?_⟩;rcases an b aj with h1|h1
  .exact bd b h1 d
  have:=h.lt hm d;omega
 refine⟨λs av=>?_,?_⟩
 .have⟨j,c⟩:=getElem?_of_mem av;by_cases e:j=i
  .subst e;rw[uL l]at c;cases c;exact f
  rw[qn (hW e)]at c;exact(key j s e c).1
 rw[sR];intro a b bd aj k;rw[qp]at bd aj;by_cases dS:a=i
 .subst dS;rw[zI,w1 U];exact(key b _ U (gl (by simpa using aj))).2
 rw[w1 (hW dS)];by_cases kn:b=i
 .subst kn;rw[zI];exact(key a _ dS (gl (by simpa using bd))).2.symm
 rw[w1 (hW kn)];exact sR.1 h.apart a b bd aj k
theorem cons{T:J->ak}(h:Sep w L){r:ay}(hk:Keeps T w w')(c:∀ s∈L,∀ b,s.S b->¬ T b)(a:r.P w')(an:∀ b,r.S b->w.heap.size<=b):Sep w' (r :: L):=
 ⟨λs av=>by
  rcases e6.1 av with rfl|av
  .exact a
  .exact s.frame (h.all s av) hk (c s av),jg.2 ⟨λs av b h1 h2=>by have:=an b h1;have:=h.lt av h2;omega,h.apart⟩⟩
theorem nil(w:ai):Sep w []:=⟨λ_ h=>by simp at h,.nil⟩
def tail{r:ay}(h:Sep w (r :: L)):Sep w L:=⟨λs av=>h.all s (by simp[av]),(jg.1 h.apart).2⟩
end Sep
end
section
variable{P:Program}{w W:ai}{f:FuncId}{rP:a6 ax}{Zr tg:Ending->ai->ak}{R:ai->ak}{v:Ending}{G:ak}
def bA(c:Calls P f rP w λe w'=>e=v/\W=w')(k:tg v W):Calls P f rP w tg:=c.mono λ_ _ ⟨a,b⟩=>a▸b▸k
def D3(c:Calls P f rP w λe w'=>e=v/\w'=W)(k:tg v W):Calls P f rP w tg:=c.mono λ_ _ ⟨a,b⟩=>a▸b▸k
def aU(c:Calls P f rP w λe w'=>e=v/\R w')(k:∀ w',R w'->tg v w'):Calls P f rP w tg:=c.mono λ_ w' ⟨a,b⟩=>a▸k w' b
end
def cO{α:Sort _}(x:α):∃ o,o=x:=⟨_,rfl⟩
def b6{p q:ak}(a:p)(b:q):Hid (p/\q):=⟨a,b⟩
def hJ{F:ai->ak}:∃ G:ai->ak,∀ W,G W↔F W:=⟨_,λ_=>Iff.rfl⟩
def I2{f s t:J}(a:f<s)(aO:t<s):(f+t)%s=if f+t<s then f+t else f+t-s:=by
 by_cases h:f+t<s
 .rw[aD h,jh h]
 rw[az h,Nat.mod_eq_sub_mod U,jh U]
def yK{f s t u:J}(a:f<s)(aO:t<s)(b:u<s)(h:(f+t)%s=(f+u)%s):t=u:=by
 rw[I2 a aO,I2 a b]at h;split at h<;>split at h<;>omega
def UI(f s t:J):((f+1)%s+t)%s=(f+(t+1))%s:=by
 rw[Nat.mod_add_mod]
 congr 1
 omega
def Holds{α:Type}(A:List α)(f s:J)(L:List α):ak:=∀ t,t<L.length->A[(f+t)%s]?=L[t]?
section
variable{α:Type}{A L:List α}{f s:J}
def Holds.push(h:Holds A f s L)(b:f<s)(d:A.length=s)(c:L.length<s)(v:α):Holds (A.set ((f+L.length)%s) v) f s (L++[v]):=by
 intro t aO;simp only[cx,ds,e_]at aO;have hk:(f+L.length)%s<s:=e2 _ U;by_cases e:t=L.length
 .subst e;rw[uL U];simp
 rw[qn (λa=>e (yK b U c a.symm)),h t U,jU U]
def Holds.pop(h:Holds A f s L)(a:f<s)(b:L.length<=s)(ar:0<L.length)(v:α):Holds (A.set f v) ((f+1)%s) s L.tail:=by
 intro t aO;simp only[length_tail]at aO;rw[UI];rw[qn (λe=>absurd (yK (t:=0) (u:=t+1) a U U ((jh a).trans e)) U),h (t+1) U];simp
def rN(A:List α)(f s:J)(L:List α)(i j:J):ak:=∀ t,t<L.length->A[(f+t)%s]?=if i<=t/\t<j then L[t+1]? else L[t]?
def Holds.shift(h:Holds A f s L)(i:J):rN A f s L i i:=by
 intro t aO;rw[az U];exact h t aO
def rN.next{i j:J}(h:rN A f s L i j)(b:f<s)(g:A.length=s)(m:L.length<=s)(k:i<=j)(l:j+1<L.length)(y:α)(d:A[(f+(j+1))%s]?=some y):rN (A.set ((f+j)%s) y) f s L i (j+1):=by
 intro t aO;have hk:(f+j)%s<s:=e2 _ U;by_cases e:t=j
 .subst e;rw[uL U,aD U,<-d,h (t+1) U,az U]
 rw[qn (λa=>e (yK b U U a.symm)),h t aO];by_cases c:i<=t/\t<j
 .rw[aD c,aD U]
 rw[az c,az U]
def rN.done{i:J}(h:rN A f s L i (L.length-1))(a:f<s)(b:L.length<=s)(aw:i<L.length)(z:α):Holds (A.set ((f+(L.length-1))%s) z) f s (L.eraseIdx i):=by
 intro t aO;rw[length_eraseIdx_of_lt aw]at aO;rw[qn (λe=>absurd (yK a U U e) U),h t U,getElem?_eraseIdx];by_cases c:t<i
 .rw[aD c,az U]
 rw[az c,aD U]
end
section
variable{α:Type}
def dE:ah (J×α)->J->Option α
 | [],_=>none
 | (g,y) :: r,f=>if g=f then some y else dE r f
def pC(L:ah (J×α)):ak:=L.Pairwise λp q=>p.1<q.1
def e7:ah (J×α)->J->α->ah (J×α)
 | [],f,x=>[(f,x)]
 | (g,y) :: r,f,x=>if f<=g then(f,x) :: ((g,y) :: r).filter (λp=>p.1 != f)else(g,y) :: e7 r f x
def yx(L:ah (J×α))(p:J->aY)(f:J):dE (L.filter λq=>p q.1) f=if p f then dE L f else none:=by
 induction L with
 | nil=>simp[dE]
 | cons c r a=>
  have⟨g,y⟩:=c;by_cases au:p g
  .rw[ru (by simpa using au)];simp only[dE];by_cases e:g=f
   .subst e;simp[au]
   rw[az e,az e,a]
  rw[oB (by simpa using au),a];simp only[dE];by_cases e:g=f
  .subst e;simp[au]
  rw[az e]
def Iu(L:ah (J×α))(f:J)(x:α)(a:J):dE (e7 L f x) a=if a=f then some x else dE L a:=by
 induction L with
 | nil=>
  simp only[e7,dE];by_cases e:f=a
  .subst e;simp
  rw[az e,az (hW e)]
 | cons c r b=>
  have⟨g,y⟩:=c;simp only[e7];split
  .rename_i h;have h1:=yx ((g,y) :: r) (λn=>n != f) a;simp only[dE]at h1⊢;by_cases e:f=a
   .subst e;simp
   rw[az e,az (hW e),h1,aD (by simpa using Ne.symm e)]
  rename_i h;simp only[dE];by_cases e:g=a
  .rw[aD e,aD e,az U]
  rw[az e,az e,b]
def BN{L:ah (J×α)}{f:J}{x:α}{p:J×α}(h:p∈e7 L f x):p=(f,x)\/p∈L:=by
 induction L with
 | nil=>exact .inl (by simpa[e7]using h)
 | cons c r a=>
  have⟨g,y⟩:=c;simp only[e7]at h;split at h
  .rcases e6.1 h with h|h
   .exact .inl h
   exact .inr (eR.1 h).1
  rcases e6.1 h with h|h
  .exact .inr (by rw[h];simp)
  rcases a h with h|h
  .exact .inl h
  exact .inr (by simp[h])
def FA{L:ah (J×α)}(h:pC L)(f:J)(x:α):pC (e7 L f x):=by
 induction L with
 | nil=>simp[e7,pC]
 | cons c r d=>
  have⟨g,y⟩:=c;have al:=jg.1 h;simp only[e7];split
  .rename_i b;refine jg.2 ⟨λp au=>?_,h.filter _⟩;have⟨h1,h2⟩:=eR.1 au;have a:p.1≠f:=by simpa using h2
   rcases e6.1 h1 with h1|h1
   .rw[h1]at a⊢;simp at a⊢;omega
   have:=al.1 p h1;simp at this⊢;omega
  rename_i b;refine jg.2 ⟨λp au=>?_,d al.2⟩;rcases BN au with h1|h1
  .rw[h1];simp;omega
  exact al.1 p h1
def Fz{L:ah (J×α)}(h:pC L)(p:J×α->aY):pC (L.filter p):=h.filter _
def tV{L:ah (J×α)}{f:J}{x:α}(h:dE L f=some x):(f,x)∈L:=by
 induction L with
 | nil=>cases h
 | cons c r a=>
  have⟨g,y⟩:=c;simp only[dE]at h;split at h
  .rename_i e;subst e;cases h;simp
  simp[a h]
def BM{L:ah (J×α)}(bd:pC L){f:J}{x:α}(h:(f,x)∈L):dE L f=some x:=by
 induction L with
 | nil=>cases h
 | cons c r a=>
  obtain⟨g,y⟩:=c;have al:=jg.1 bd;simp only[dE];rcases e6.1 h with h|h
  .cases h;rw[aD rfl]
  have:=al.1 _ h
  simp at this;rw[az U];exact a al.2 h
def G1{L:ah (J×α)}(bd:pC L)(first size:J)(j:∀ p∈L,first<=p.1/\p.1<first+size):((range size).map (first+·)).filter (λf=>(dE L f).isSome)=L.map (·.1):=by
 have key:∀ (d c:ah J),d.Pairwise (·<·)->c.Pairwise (·<·)->(∀ n,n∈d↔n∈c)->d=c:=by
  intro d
  induction d with
  | nil=>
   intro c _ _ h;cases c with
   | nil=>rfl
   | cons b r=>have:=(h b).2 (by simp);cases this
  | cons a r l=>
   intro c h1 h2 h;cases c with
   | nil=>have:=(h a).1 (by simp);cases this
   | cons b s=>
    have bY:=jg.1 h1;have bo:=jg.1 h2;have i:a=b:=by
     rcases e6.1 ((h a).1 aK)with e|e
     .exact e
     rcases e6.1 ((h b).2 aK)with g|g
     .exact g.symm
     have:=bY.1 b g;have:=bo.1 a e;omega
    subst i;rw[l s bY.2 bo.2 (λn=>⟨λar=>by
     rcases e6.1 ((h n).1 (by simp[ar]))with e|e
     .have:=bY.1 n ar;omega
     .exact e,λar=>by
     rcases e6.1 ((h n).2 (by simp[ar]))with e|e
     .have:=bo.1 n ar;omega
     .exact e⟩)]
 refine key _ _ (Pairwise.filter _ ?_) ?_ λn=>?_
 .rw[sS];exact(pairwise_lt_range).imp a7
 .rw[sS];exact bd
 rw[eR,e3,e3];constructor
 .rintro⟨_,h⟩;obtain⟨x,k⟩:=DZ.1 h;exact⟨(n,x),tV k,rfl⟩
 rintro⟨⟨f,x⟩,au,rfl⟩;have h1:=j _ au;exact⟨⟨f-first,by simp;simp at h1;omega,by simp at h1⊢;omega⟩,by simp[BM bd au]⟩
end
def qz{p:ak}(h:p:=by simpa using ar):p:=h
def s5{p:ak}(h:p:=by simpa using a):p:=h
def nK{p:ak}(h:p:=by cases h):p:=h
end Go.Proofs.YtalagblioepadaaGreatDoor
