/- The proof, part 1. -/
import Derived.WalkLawsBesides
import Derived.WalkSpells
import Derived.ProofKit
import Derived.OpenShut
import Derived.ShutString
import Derived.BigQuiet
import Derived.RangeFuncRecord
namespace Go.Proofs.YtalagblioepadaaGreatDoor
open List Go.RowKit
set_option maxRecDepth 100000
set_option linter.all false
inductive An|mk
def J:An:=.mk
instance:CoeSort An Type:=⟨λ_=>Nat⟩
instance:Coe An Type:=⟨λ_=>Nat⟩
inductive Am|mk
def aa:Am:=.mk
instance:CoeSort Am Type:=⟨λ_=>Int⟩
instance:Coe Am Type:=⟨λ_=>Int⟩
inductive Aq|mk
def ai:Aq:=.mk
instance:CoeSort Aq Type:=⟨λ_=>World⟩
instance:Coe Aq Type:=⟨λ_=>World⟩
inductive Ap|mk
def aw:Ap:=.mk
instance:CoeSort Ap Type:=⟨λ_=>Value⟩
instance:Coe Ap Type:=⟨λ_=>Value⟩
inductive Ao|mk
def aQ:Ao:=.mk
instance:CoeSort Ao Type:=⟨λ_=>UInt8⟩
instance:Coe Ao Type:=⟨λ_=>UInt8⟩
inductive FR|mk
def ak:FR:=.mk
instance:CoeSort FR Type:=⟨λ_=>Prop⟩
inductive Al|mk
def aY:Al:=.mk
instance:CoeSort Al Type:=⟨λ_=>Bool⟩
instance:Coe Al Type:=⟨λ_=>Bool⟩
inductive Ar|mk
def cc:Ar:=.mk
instance:CoeSort Ar Type:=⟨λ_=>ByteArray⟩
instance:Coe Ar Type:=⟨λ_=>ByteArray⟩
inductive FP|mk
def ah:FP:=.mk
instance:CoeFun FP λ_=>Type->Type:=⟨λ_=>List⟩
inductive FQ|mk
def b4:FQ:=.mk
instance:CoeFun FQ λ_=>Type->Type:=⟨λ_=>Option⟩
inductive FO|mk
def a6:FO:=.mk
instance:CoeFun FO λ_=>Type->Type:=⟨λ_=>Array⟩
def bY:=@RowKit.Below.refl
def cV:=@congrArg
def c9:=@Nat.le_refl
def ee:=@Bool.and_eq_true
def et:=@IntWalk.i64_in
def eX:=@append_nil
def e2:=@length_nil
def e3:=@mem_cons
def ff:=@all_eq_true
def ft:=@mem_append
def fu:=@mem_map
def fF:=@World.size_alloc
def fR:=@mem_filter
def gb:=@getElem?_eq_getElem
def gd:=@length_drop
def gg:=@decide_eq_true_eq
def gw:=@length_take
def gD:=@callsIn_wide
def gE:=@Nat.le_of_eq
def gR:=@size_toArray
def hg:=@Result.andThen_ok
def hh:=@length_map
def hi:=@Option.some.injEq
def hz:=@Sem.run_bind
def hA:=@drop_zero
def hG:=@drop_succ_cons
def hI:=@take_succ_cons
def hJ:=@Ne.symm
def hK:=@Option.getD_some
def h5:=@Sem.run_pure
def h6:=@mem_singleton
def h7:=@Option.some.inj
def il:=@take_zero
def iL:=@flatMap_cons
def iM:=@length_singleton
def iN:=@Nat.add_assoc
def ja:=@Nat.mod_eq_of_lt
def jb:=@getElem!_pos
def jl:=@cell_of_one
def jm:=@Int.le_refl
def jn:=@length_eq_zero_iff
def jo:=@map_cons
def jq:=@Prod.mk.injEq
def jK:=@Eq.symm
def jL:=@getElem?_append_left
def jM:=@getElem?_cons_succ
def jN:=@getElem?_toArray
def jO:=@map_append
def jP:=@pairwise_cons
def jQ:=@Nat.succ_mul
def j8:=@Array.getElem?_eq_some_iff
def ku:=@cons_append
def kv:=@getElem?_cons_zero
def kx:=@mem_cons_of_mem
def ky:=@mem_of_getElem?
def k5:=@mem_ready
def k6:=@map_nil
def k7:=@Nat.not_lt_zero
def lO:=@Array.getElem?_eq_none
def lP:=@RowKit.Below.setCell
def lQ:=@Int.eq_ofNat_of_zero_le
def lR:=@take_append_drop
def lS:=@take_succ_eq_append_getElem
def lT:=@Nat.lt_of_lt_of_le
def mq:=@World.block_lt_of_cell?
def mr:=@drop_drop
def mu:=@getElem?_append_right
def mv:=@length_filter_le
def nc:=@Array.getElem?_toList
def nd:=@Bool.not_eq_true'
def nf:=@free_of_one
def ng:=@info_parts
def nh:=@wpList_plain
def ni:=@filter_eq_self
def nj:=@foldl_append
def nk:=@take_length
def nm:=@take_of_length_le
def nn:=@Nat.pow_succ
def np:=@beq_iff_eq
def oa:=@cell_one_new
def ob:=@wpIn_wide
def oc:=@filter_cons_of_neg
def od:=@foldl_cons
def oe:=@getD_eq_getElem?_getD
def og:=@getElem_mem
def oh:=@mem_cons_self
def oi:=@nil_append
def oj:=@perm_append_comm_assoc
def om:=@reverse_cons
def oo:=@reverse_reverse
def oq:=@Nat.min_eq_left
def ot:=@Nat.mul_comm
def ou:=@Option.isSome_none
def pc:=@Array.ext_getElem?
def pd:=@Array.getElem?_push
def pe:=@Array.length_toList
def pf:=@Int.tmod_eq_emod_of_nonneg
def pg:=@length_cons
def ph:=@mem_range
def o_:=@Nat.div_add_mod
def o':=@Option.getD_none
def pa:=@Option.isSome_some
def pb:=@Option.map_some
def p7:=@bodyPost_end
def p8:=@wpList_append_own
def p9:=@drop_eq_getElem_cons
def p_:=@getElem?_set_ne
def p':=@length_pos_iff
def qa:=@length_set
def qb:=@perm_middle
def qc:=@Nat.add_comm
def qd:=@Nat.lt_irrefl
def qe:=@Prod.ext
def q3:=@run_underlying
def q4:=@Int.toNat_natCast
def q5:=@filter_append
def q6:=@filter_cons_of_pos
def q7:=@filter_map
def q8:=@flatMap_append
def q9:=@foldl_nil
def q_:=@pairwise_append
def q':=@range_succ
def ra:=@set_cons_zero
def rb:=@take_left'
def re:=@Nat.add_zero
def rf:=@Nat.eq_zero_or_pos
def rh:=@Nat.pow_le_pow_right
def ri:=@of_decide_eq_true
def sw:=@Array.getElem?_eq_getElem
def sx:=@Array.replicate_succ
def sy:=@Array.replicate_zero
def sz:=@Bool.true_and
def sA:=@append_toArray
def sB:=@getElem?_eq_none
def sC:=@length_append
def sD:=@mem_iff_getElem
def sE:=@pairwise_iff_getElem
def sF:=@push_toArray
def sG:=@setIfInBounds_toArray
def sH:=@Nat.mul_le_mul_right
def sI:=@Nat.zero_add
def sJ:=@decide_eq_false_iff_not
def uq:=@Bool.or_eq_true
def ur:=@Act.put_comm
def uu:=@ready_mono
def uv:=@eq_nil_of_length_eq_zero
def uw:=@getElem?_set_self
def ux:=@getElem?_take
def uy:=@length_replicate
def uz:=@not_mem_nil
def uA:=@pairwise_map
def uB:=@Nat.le_succ
def uC:=@not_not_intro
def wo:=@Array.getElem?_setIfInBounds_ne
def wq:=@Bool.false_eq_true
def wu:=@Bool.false_or
def wv:=@Bool.or_false
def wx:=@ByteArray.toList_eq
def wy:=@Obj.cells.injEq
def wz:=@World.cell?_setCell_same
def wA:=@run_append_own_at
def wB:=@run_loadCells_list
def wC:=@drop_left'
def wD:=@filter_congr
def wE:=@getElem?_drop
def wF:=@getElem_cons_succ
def wG:=@getElem_of_mem
def wH:=@getElem_set_ne
def wI:=@mem_flatMap
def wJ:=@mem_or_eq_of_mem_set
def wK:=@prefix_refl
def wL:=@set_cons_succ
def wM:=@Nat.zero_mul
def y4:=@Array.getElem?_setIfInBounds_self_of_lt
def y5:=@Bool.eq_iff_iff
def y6:=@Bool.true_or
def y7:=@DataW.held.injEq
def y8:=@IntKind.wrap_u64
def y9:=@RowKit.Below.heap_alloc
def y_:=@WideAt.sameKey_self
def y':=@World.ownsRow_nil
def za:=@execOp_put
def zb:=@results_tmp
def zc:=@Int.le_trans
def ze:=@Perm.refl
def zf:=@any_eq_false
def zg:=@any_eq_true
def zh:=@List.cons.injEq
def zi:=@countP_cons
def zj:=@filter_nil
def zk:=@find?_eq_none
def zl:=@foldl_toArray
def zm:=@getElem_set_self
def zn:=@map_singleton
def zo:=@mem_of_find?_eq_some
def zq:=@mem_of_mem_drop
def zr:=@mem_of_mem_take
def zs:=@take_append_of_le_length
def zt:=@take_left
def zu:=@zip_cons_cons
def zv:=@zip_nil_right
def zw:=@zip_toArray
def zx:=@Nat.mul_le_mul_left
def zy:=@Nat.mul_one
def zz:=@UInt8.toNat_inj
def CV:=@Array.getElem?_modify
def CX:=@Array.toList_inj
def CY:=@Bool.and_false
def CZ:=@Bool.false_and
def C0:=@Bool.not_eq_true
def C1:=@IntKind.wrap_i64
def C2:=@Region.free_spec
def C3:=@Region.noSelect_spec
def C4:=@RowKit.Below.heap_setCell
def C5:=@WideAt.sameKey_eq
def C6:=@World.cell?_setCell_other
def C7:=@World.drewN_drewN
def C8:=@getD_set_ne
def C9:=@grownCap_ge
def C_:=@run_convert_bytes_back
def C':=@run_equalIn_agg
def Da:=@run_storeCells_at
def Db:=@wpIn_region_lit
def Dc:=@wpListIn_nil
def Dd:=@wpListIn_plain
def De:=@wp_region_any
def Df:=@Int.emod_nonneg
def Dg:=@Int.mul_nonneg
def Dh:=@Int.mul_sub
def Di:=@drop_append_of_le_length
def Dj:=@drop_eq_nil_of_le
def Dk:=@drop_of_length_le
def Dl:=@filter_sublist
def Dm:=@getElem?_replicate
def Dn:=@getElem_cons_zero
def Dp:=@getElem_toArray
def Dq:=@pairwise_singleton
def Dr:=@replicate_succ'
def Ds:=@Nat.add_mul
def Dt:=@Nat.add_sub_cancel
def Du:=@Nat.div_le_self
def Dv:=@Nat.le_trans
def Dw:=@Nat.lt_or_ge
def Dx:=@Nat.min_eq_right
def Dy:=@Nat.sub_self
def Dz:=@Option.isSome_iff_exists
def DA:=@Option.map_map
def DB:=@bne_iff_ne
def DC:=@of_decide_eq_false
def KW:=@Array.any_eq_true'
def KX:=@Array.extract_size
def KY:=@Array.getElem_modify_self
def KZ:=@Array.setIfInBounds_comm
def K0:=@Array.toArray_toList
def K1:=@BitVec.toNat_ofInt
def K2:=@BitVec.xor_allOnes
def K3:=@ByteArray.data_append
def K4:=@Decidable.byContradiction
def K5:=@Lib.wpList_append_own_string
def K6:=@World.cell?_of_block
def K7:=@World.frozen?_setCell
def K8:=@toList_madeCells_one
def K9:=@Int.emod_lt_of_pos
def K_:=@Int.mul_nonneg_of_nonpos_of_nonpos
def K':=@Int.sub_eq_add_neg
def La:=@Nat.add_mul_mod_self_left
def Lb:=@Nat.add_sub_cancel_left
def Lc:=@Nat.div_lt_of_lt_mul
def Ld:=@Nat.xor_lt_two_pow
def Le:=@UInt8.toNat_ofNat'
def lU{p:ak}(h:p:=by omega):p:=h
def h8{p:ak}(h:p:=by simpa using h):p:=h
def af{p:ak}(h:p):Hid p:=h
def _root_.Go.RowKit.Hid.o{p:Prop}(h:Hid p):p:=h
def Ck:aw->J|.string t=>t.size|_=>0
def Xn(s:cc)(k:J)(h:k<s.size):s.data.toList.take (k+1)=s.data.toList.take k++[s[k]]:=by
 rw[lS h8];rfl
def extract_data(s:cc)(a b:J):(s.extract a b).data.toList=(s.data.toList.drop a).take (b-a):=by
 rw[ByteArray.data_extract];simp[extract_eq_take_drop]
def vs(s:cc)(a:J):(s.extract a s.size).data.toList=s.data.toList.drop a:=by
 rw[extract_data,nm];simp
def wrap_u16(n:aa):IntKind.u16.wrap n=n%65536:=by simp[IntKind.wrap,IntKind.bits,IntKind.signed]
def wrap_u8(n:aa):IntKind.u8.wrap n=n%256:=by simp[IntKind.wrap,IntKind.bits,IntKind.signed]
def wrap_u32(n:aa):IntKind.u32.wrap n=n%4294967296:=by simp[IntKind.wrap,IntKind.bits,IntKind.signed]
def wrap_u64(n:aa):IntKind.u64.wrap n=n%18446744073709551616:=by simp[IntKind.wrap,IntKind.bits,IntKind.signed]
def YD(n:aa):IntKind.i16.wrap n=(n+32768)%65536-32768:=by
 simp only[IntKind.wrap,IntKind.bits,IntKind.signed];simp;split<;>omega
def qO{k:IntKind}{a b:aa}(h:a=b):Ending.returned (.int k a)=.returned (.int k b):=by rw[h]
def kY{a b:aY}(h:a=b):Ending.returned (.bool a)=.returned (.bool b):=by rw[h]
def I4{a b a' c:aw}(h:a=a')(d:b=c):Ending.returned (.tuple #[a,b])=.returned (.tuple #[a',c]):=by rw[h,d]
def Cz{k:IntKind}{a b:aa}(h:a=b):Value.int k a=.int k b:=by rw[h]
def hN(b o i:J):(⟨b,o,none⟩:Addr).add i=⟨b,o+i,none⟩:=by unfold Addr.add;split<;>simp_all
theorem XD(a m:aa):(0<=a->a.tmod m=a%m)/\(a<0->a.tmod m=-((-a)%m)):=
 ⟨λh=>pf h,λh=>by rw[<-pf (a:=-a) lU,Int.neg_tmod,Int.neg_neg]⟩
structure kz(w:ai) where
 to:ai
 below:Below w.heap.size w to
instance (w:ai):Nonempty (kz w):=⟨⟨w,bY _ _⟩⟩
theorem o9{P:Program}{id:J}{Q:Exit->Act->ai->ak}{a:Act}{w:ai}{l:ah Oper}(hm:P.follows .mixedOrders=true)(b:Region.lexB .any l.toArray=true)(h:wpQuiet P l.toArray (λw'=>∃ x:kz w,w'=x.to) (λa'=>∀ w',(∃ x:kz w,w'=x.to)->Q .normal a' w') l a):(Code.region id l.toArray true).wp P Q a w:=
 wp_region_quiet (C:=λw'=>∃ x:kz w,w'=x.to) hm b ⟨⟨{w with drawn:=w.drawn+1},(bY _ w).drew⟩,rfl⟩ h8
theorem Calls.ka{P:Program}{f:FuncId}{args:a6 aw}{w:ai}{x:kz w}{v:aw}(h:Calls P f args x.to λe w'=>e=.returned v/\Below x.to.heap.size x.to w'):Calls P f args x.to λe a=>e=.returned v/\∃ y:kz w,a=y.to:=
 h.mono λ_ w' ⟨b,aj⟩=>⟨b,⟨w',x.below.trans (aj.mono x.below.size)⟩,rfl⟩
theorem Calls.jv{P:Program}{f:FuncId}{args:a6 aw}{w:ai}{x:kz w}{v:aw}(h:Calls P f args x.to λe w'=>e=.returned v/\x.to=w'):Calls P f args x.to λe a=>e=.returned v/\∃ y:kz w,a=y.to:=
 h.mono λ_ _ ⟨b,aj⟩=>⟨b,x,aj.symm⟩
section
structure Keeps(S:J->ak)(w w':ai):ak where
 os:w'.os=w.os
 tape:w'.tape=w.tape
 output:w'.output=w.output
 size:w.heap.size<=w'.heap.size
 block:∀ k,k<w.heap.size->¬ S k->w'.heap[k]?=w.heap[k]?
namespace Keeps
variable{S T:J->ak}{w w' a b c:ai}
def refl(S:J->ak)(w:ai):Keeps S w w:=⟨rfl,rfl,rfl,c9 _,λ_ _ _=>rfl⟩
theorem trans(h:Keeps S a b)(k:Keeps S b c):Keeps S a c:=
 ⟨k.os.trans h.os,k.tape.trans h.tape,k.output.trans h.output,Dv h.size k.size,λi av ax=>(k.block i (lT av h.size) ax).trans (h.block i av ax)⟩
theorem mono(h:Keeps S a b)(ax:∀ k,k<a.heap.size->S k->T k):Keeps T a b:=
 ⟨h.os,h.tape,h.output,h.size,λk hk aN=>h.block k hk (λs=>aN (ax k hk s))⟩
theorem alloc(h:Keeps S a b)(o:Obj):Keeps S a (b.alloc o):=
 h.trans ⟨rfl,rfl,rfl,by simp,λk hk _=>y9 _ _ _ hk⟩
theorem setCell(h:Keeps S a b){p:Addr}(ar:S p.block)(u:aw):Keeps S a (b.setCell p u):=
 h.trans ⟨rfl,rfl,rfl,by simp[World.setCell],λk _ ax=>C4 _ _ _ _ (λe=>ax (e▸ar))⟩
theorem nZ(h:Keeps S a b){p:Addr}(ar:a.heap.size<=p.block)(u:aw):Keeps S a (b.setCell p u):=
 ⟨h.os,h.tape,h.output,by simp only[World.setCell,Array.size_modify];exact h.size,λk hk ax=>(C4 _ _ _ _ lU).trans (h.block k hk ax)⟩
theorem drew(h:Keeps S a b):Keeps S a b.drew:=⟨h.os,h.tape,h.output,h.size,h.block⟩
theorem drewN(h:Keeps S a b)(n:J):Keeps S a (b.drewN n):=h.trans ⟨rfl,rfl,rfl,c9 _,λ_ _ _=>rfl⟩
theorem putObj(h:Keeps S a b){l:J}(c:S l)(o:Obj):Keeps S a (b.putObj l o):=
 h.trans ⟨rfl,rfl,rfl,by simp,λ_ _ ax=>World.putObj_heap_other (λe=>ax (e▸c))⟩
theorem bE{B:J}(h:Below B a b)(d:∀ k,k<a.heap.size->B<=k->S k):Keeps S a b:=
 ⟨h.os,h.tape,h.output,h.size,λk hk ax=>h.block k (Nat.lt_of_not_le λc=>ax (d k hk c))⟩
theorem below{B:J}(h:Keeps S a b)(c:B<=a.heap.size)(ax:∀ k,k<B->¬ S k):Below B a b:=
 ⟨h.os,h.tape,h.output,h.size,λk hk=>h.block k (lT hk c) (ax k hk)⟩
theorem fE(h:Keeps S a b)(k:Below b.heap.size b c):Keeps S a c:=
 h.trans (bE k λ_ hk d=>absurd hk (Nat.not_lt.2 d))
theorem grown(h:Keeps S a b){row:b4 J}(a1:b.grownBy c row)(d:∀ k,row=some k->S k\/a.heap.size<=k):Keeps S a c:=
 ⟨a1.os.trans h.os,a1.tape.trans h.tape,a1.output.trans h.output,Dv h.size a1.size,λk hk ax=>by
  refine(a1.block k (lT hk h.size) (λe=>?_)).trans (h.block k hk ax);rcases d k e.symm with c|c
  .exact ax c
  .omega⟩
theorem heap(h:Keeps S a b){k:J}{o:Obj}(c:a.heap[k]?=some o)(ax:¬ S k):b.heap[k]?=some o:=
 (h.block k (j8.1 c).1 ax).trans c
theorem cell(h:Keeps S a b){p:Addr}{v:aw}(aq:a.cell? p=some v)(ax:¬ S p.block):b.cell? p=some v:=
 (K6 (h.block p.block (mq a p aq) ax)).trans aq
theorem frozen(h:Keeps S a b){p:Addr}(ar:p.block<a.heap.size)(ax:¬ S p.block):b.frozen? p=a.frozen? p:=
 World.frozen?_of_block (h.block p.block ar ax)
end Keeps
def qt{w:ai}{p:Addr}{v:aw}(h:w.cell? p=some v)(o:Obj):(w.alloc o).cell? p=some v:=((Keeps.refl (λ_=>False) w).alloc o).cell h id
theorem Qo{w:ai}{p:Addr}{v:aw}(h:w.cell? p=some v){b:aY}(a:w.frozen? p=b)(o:Obj):(w.alloc o).frozen? p=b:=
 (((Keeps.refl (λ_=>False) w).alloc o).frozen (mq w p h) id).trans a
def nB(w:ai)(v:aw)(t:TypeId):(w.alloc (.cells #[v] t)).cell? ⟨w.heap.size,0,none⟩=some v:=by go_simp
def Qn(w:ai)(v:aw)(t:TypeId):(w.alloc (.cells #[v] t)).frozen? ⟨w.heap.size,0,none⟩=false:=by go_simp
end
inductive Eo|mk
def I:Eo:=.mk
instance:CoeFun Eo λ_=>Int->aw:=⟨λ_=>.int .i64⟩
inductive Ep|mk
def ag:Ep:=.mk
instance:CoeFun Ep λ_=>Int->aw:=⟨λ_=>.int .i32⟩
inductive Ev|mk
def aK:Ev:=.mk
instance:CoeFun Ev λ_=>Int->aw:=⟨λ_=>.int .u32⟩
inductive Ew|mk
def bz:Ew:=.mk
instance:CoeFun Ew λ_=>Int->aw:=⟨λ_=>.int .u16⟩
inductive Ex|mk
def aF:Ex:=.mk
instance:CoeFun Ex λ_=>Int->aw:=⟨λ_=>.int .u8⟩
inductive En|mk
def aM:En:=.mk
instance:CoeFun En λ_=>Array aw->aw:=⟨λ_=>.agg⟩
inductive Eu|mk
def aV:Eu:=.mk
instance:CoeFun Eu λ_=>Array aw->aw:=⟨λ_=>.tuple⟩
inductive Et|mk
def ao:Et:=.mk
instance:CoeFun Et λ_=>Option Addr->J->J->aw:=⟨λ_=>.slice⟩
inductive Er|mk
def ae:Er:=.mk
instance:CoeFun Er λ_=>Array aw->TypeId->(_:J×J:=(0,0))->Obj:=⟨λ_=>@Obj.cells⟩
inductive Ek|mk
def ad:Ek:=.mk
instance:CoeFun Ek λ_=>Nat->J->b4 J->Addr:=⟨λ_=>Addr.mk⟩
inductive Es|mk
def ab:Es:=.mk
instance:Coe Es (b4 J):=⟨λ_=>none⟩
inductive EE|mk
def cd:EE:=.mk
instance:Coe EE (a6 aw):=⟨λ_=>#[.slice none 0 0,.slice none 0 0,.bool false]⟩
inductive EA|mk
def z9:EA:=.mk
instance:Coe EA (a6 aw):=⟨λ_=>#[.int .i64 0,.int .i64 0,.int .i64 0,.int .i64 0,.int .i64 0,.int .i64 0,.int .i64 0,.int .i64 0,.int .i64 0]⟩
inductive Ez|mk
def z4:Ez:=.mk
instance:Coe Ez (a6 aw):=⟨λ_=>#[.int .i64 0,.int .i64 0,.int .i64 0,.int .i64 0]⟩
inductive EF|mk
def n':EF:=.mk
instance:Coe EF (a6 aw):=⟨λ_=>#[.int .i64 0,.int .i64 0,.int .i64 0,.int .i64 0,.int .i64 0,.int .i64 0,.int .i64 0,.int .i64 0,.int .i64 0,.int .i64 0,.int .i64 0,.int .i64 0]⟩
inductive EB|mk
def nb:EB:=.mk
instance:Coe EB (a6 aw):=⟨λ_=>#[.int .i64 0,.int .i64 0,.int .i64 0,.int .i64 0,.int .i64 0,.int .i64 0,.int .i64 0,.int .i64 0,.int .i64 0,.int .i64 0,.int .i64 0,.bool false]⟩
inductive EC|mk
def c0:EC:=.mk
instance:Coe EC (a6 aw):=⟨λ_=>#[.int .i32 0,.int .i32 0]⟩
inductive ED|mk
def eG:ED:=.mk
instance:Coe ED (a6 aw):=⟨λ_=>#[.int .i32 0,.int .i32 0,.int .i32 0,.int .i32 0]⟩
instance:Coe World Nat:=⟨λw=>w.heap.size⟩
inductive Em|mk
def aG:Em:=.mk
instance:Coe Em (J->ak):=⟨λ_ _=>False⟩
instance:Coe Nat Value:=⟨λb=>.pointer (some ⟨b,0,none⟩)⟩
instance:Coe Bool Value:=⟨.bool⟩
instance:Coe Value Ending:=⟨.returned⟩
def aA{c:ak}{h:Decidable c}(g:¬c){α:Sort _}{t e:α}:(if c then t else e)=e:=if_neg g
def aD{c:ak}{h:Decidable c}(g:c){α:Sort _}{t e:α}:(if c then t else e)=t:=if_pos g
def bD{a b:ak}(x:a)(y:b):a/\b:=⟨x,y⟩
def cZ{p:ak}[Decidable p](h:¬p):decide p=false:=decide_eq_false h
def ed{p:ak}[Decidable p](h:p):decide p=true:=decide_eq_true h
def cU{P:Program}{fn:Func}{R:Ending->ai->ak}{a:Act}{w:ai}{v:aw}(c:(results fn a.tmps).run P w=.ok v w)(hd:a.defers=[])(b:R (.returned v) w):bodyPost P fn R .ret a w:=bodyPost_ret c hd b
def hf{α:Type _}{i:J}{a:α}{l:List α}:l[i]?=some a↔∃ h:i<l.length,l[i]=a:=List.getElem?_eq_some_iff
def er{α:Type _}[BEq α][LawfulBEq α]{a b:α}:(a == b)=false↔a≠b:=beq_eq_false_iff_ne
def cx{α:Type _}{a b:List α}:(a++b).length=a.length+b.length:=sC
def dr{α:Type _}{a:α}{b:List α}:(a :: b).length=b.length+1:=pg
def dD{α:Type _}(a b c:List α):a++b++c=a++(b++c):=append_assoc a b c
def b7{n m k:J}(a:n<=m)(b:m<=k):n<=k:=Dv a b
def c'(n:J):0<=n:=Nat.zero_le n
def gv(n:J):0+n=n:=sI n
def eW(x:J){y:J}(h:0<y):x%y<y:=Nat.mod_lt x h
def U{p:ak}(h:p:=by omega):p:=h
def a7{p:ak}(h:p:=by intros;omega):p:=h
def aI{p:ak}(h:p:=by simp):p:=h
def bU{p:ak}(h:p:=by simp;omega):p:=h
def bq{p:ak}(h:p:=by decide):p:=h
def aH{p:ak}(h:p:=by kernel_rfl):p:=h
def bA{n:J}:n<=n:=c9 n
def a_(w:ai):Keeps aG w w:=.refl _ w
def c_:(∀ {α:Type} (l:List α) (i:J) (a:α),l.toArray.setIfInBounds i a=(l.set i a).toArray)/\(∀ {α:Type} {x:α} {xs:List α} {i:J} {a:α},(x :: xs).set (i+1) a=x :: xs.set i a)/\∀ {α:Type} {x:α} {xs:List α} {a:α},(x :: xs).set 0 a=a :: xs:=⟨sG,wL,ra⟩
def gY:(∀ {α:Type} {xs:List α} {i:J},xs.toArray[i]?=xs[i]?)/\(∀ {α:Type} {a:α} {l:List α},(a :: l)[0]?=some a)/\(∀ {α:Type} {a:α} {l:List α} {i:J},(a :: l)[i+1]?=l[i]?)/\∀ {α:Type} {a b:α},(some a).getD b=a:=⟨jN,kv,jM,hK⟩
variable{w:ai}{b k:J}{bQ:a6 aw}{t:TypeId}{v:aw}
def bb(h:w.heap[b]?=some (ae bQ t (0,0)))(aX:bQ[k]?=some v):w.cell? (ad b k ab)=some v:=by
 unfold World.cell?;rw[h];exact aX
def fJ(h:w.heap[b]?=some (ae bQ t (0,0)))(k:J):w.frozen? (ad b k ab)=false:=by
 unfold World.frozen?;rw[h];simp
def N0(i j:J){x y:aw}(h:w.heap[b]?=some (.cells bQ t (0,0)))(e:bQ[i]?=some x/\bQ[j]?=some y):w.cell? ⟨b,i,none⟩=some x/\w.cell? ⟨b,j,none⟩=some y:=⟨bb h e.1,bb h e.2⟩
def N5(h:w.heap[b]?=some (.cells bQ t (0,0)))(i j:J):w.frozen? ⟨b,i,none⟩=false/\w.frozen? ⟨b,j,none⟩=false:=⟨fJ h i,fJ h j⟩
def Fb(d a c:J){f g i:aw}(h:w.heap[b]?=some (.cells bQ t (0,0)))(e:bQ[d]?=some f/\bQ[a]?=some g/\bQ[c]?=some i):w.cell? ⟨b,d,none⟩=some f/\w.cell? ⟨b,a,none⟩=some g/\w.cell? ⟨b,c,none⟩=some i:=⟨bb h e.1,N0 a c h e.2⟩
def N6(h:w.heap[b]?=some (.cells bQ t (0,0)))(a c d:J):w.frozen? ⟨b,a,none⟩=false/\w.frozen? ⟨b,c,none⟩=false/\w.frozen? ⟨b,d,none⟩=false:=⟨fJ h a,N5 h c d⟩
def Fc(f a c d:J){g i j k:aw}(h:w.heap[b]?=some (.cells bQ t (0,0)))(e:bQ[f]?=some g/\bQ[a]?=some i/\bQ[c]?=some j/\bQ[d]?=some k):w.cell? ⟨b,f,none⟩=some g/\w.cell? ⟨b,a,none⟩=some i/\w.cell? ⟨b,c,none⟩=some j/\w.cell? ⟨b,d,none⟩=some k:=⟨bb h e.1,Fb a c d h e.2⟩
def N7(h:w.heap[b]?=some (.cells bQ t (0,0)))(a c d e:J):w.frozen? ⟨b,a,none⟩=false/\w.frozen? ⟨b,c,none⟩=false/\w.frozen? ⟨b,d,none⟩=false/\w.frozen? ⟨b,e,none⟩=false:=⟨fJ h a,N6 h c d e⟩
def N1(g a c d f:J){i j k l m:aw}(h:w.heap[b]?=some (.cells bQ t (0,0)))(e:bQ[g]?=some i/\bQ[a]?=some j/\bQ[c]?=some k/\bQ[d]?=some l/\bQ[f]?=some m):w.cell? ⟨b,g,none⟩=some i/\w.cell? ⟨b,a,none⟩=some j/\w.cell? ⟨b,c,none⟩=some k/\w.cell? ⟨b,d,none⟩=some l/\w.cell? ⟨b,f,none⟩=some m:=⟨bb h e.1,Fc a c d f h e.2⟩
def N8(h:w.heap[b]?=some (.cells bQ t (0,0)))(a c d e f:J):w.frozen? ⟨b,a,none⟩=false/\w.frozen? ⟨b,c,none⟩=false/\w.frozen? ⟨b,d,none⟩=false/\w.frozen? ⟨b,e,none⟩=false/\w.frozen? ⟨b,f,none⟩=false:=⟨fJ h a,N7 h c d e f⟩
def N2(i a c d f g:J){j k l m n o:aw}(h:w.heap[b]?=some (.cells bQ t (0,0)))(e:bQ[i]?=some j/\bQ[a]?=some k/\bQ[c]?=some l/\bQ[d]?=some m/\bQ[f]?=some n/\bQ[g]?=some o):w.cell? ⟨b,i,none⟩=some j/\w.cell? ⟨b,a,none⟩=some k/\w.cell? ⟨b,c,none⟩=some l/\w.cell? ⟨b,d,none⟩=some m/\w.cell? ⟨b,f,none⟩=some n/\w.cell? ⟨b,g,none⟩=some o:=⟨bb h e.1,N1 a c d f g h e.2⟩
def N9(h:w.heap[b]?=some (.cells bQ t (0,0)))(a c d e f g:J):w.frozen? ⟨b,a,none⟩=false/\w.frozen? ⟨b,c,none⟩=false/\w.frozen? ⟨b,d,none⟩=false/\w.frozen? ⟨b,e,none⟩=false/\w.frozen? ⟨b,f,none⟩=false/\w.frozen? ⟨b,g,none⟩=false:=⟨fJ h a,N8 h c d e f g⟩
def N3(j a c d f g i:J){k l m n o p q:aw}(h:w.heap[b]?=some (.cells bQ t (0,0)))(e:bQ[j]?=some k/\bQ[a]?=some l/\bQ[c]?=some m/\bQ[d]?=some n/\bQ[f]?=some o/\bQ[g]?=some p/\bQ[i]?=some q):w.cell? ⟨b,j,none⟩=some k/\w.cell? ⟨b,a,none⟩=some l/\w.cell? ⟨b,c,none⟩=some m/\w.cell? ⟨b,d,none⟩=some n/\w.cell? ⟨b,f,none⟩=some o/\w.cell? ⟨b,g,none⟩=some p/\w.cell? ⟨b,i,none⟩=some q:=⟨bb h e.1,N2 a c d f g i h e.2⟩
def N_(h:w.heap[b]?=some (.cells bQ t (0,0)))(a c d e f g i:J):w.frozen? ⟨b,a,none⟩=false/\w.frozen? ⟨b,c,none⟩=false/\w.frozen? ⟨b,d,none⟩=false/\w.frozen? ⟨b,e,none⟩=false/\w.frozen? ⟨b,f,none⟩=false/\w.frozen? ⟨b,g,none⟩=false/\w.frozen? ⟨b,i,none⟩=false:=⟨fJ h a,N9 h c d e f g i⟩
def YR(k a c d f g i j:J){l m n o p q r s:aw}(h:w.heap[b]?=some (.cells bQ t (0,0)))(e:bQ[k]?=some l/\bQ[a]?=some m/\bQ[c]?=some n/\bQ[d]?=some o/\bQ[f]?=some p/\bQ[g]?=some q/\bQ[i]?=some r/\bQ[j]?=some s):w.cell? ⟨b,k,none⟩=some l/\w.cell? ⟨b,a,none⟩=some m/\w.cell? ⟨b,c,none⟩=some n/\w.cell? ⟨b,d,none⟩=some o/\w.cell? ⟨b,f,none⟩=some p/\w.cell? ⟨b,g,none⟩=some q/\w.cell? ⟨b,i,none⟩=some r/\w.cell? ⟨b,j,none⟩=some s:=⟨bb h e.1,N3 a c d f g i j h e.2⟩
def YS(h:w.heap[b]?=some (.cells bQ t (0,0)))(a c d e f g i j:J):w.frozen? ⟨b,a,none⟩=false/\w.frozen? ⟨b,c,none⟩=false/\w.frozen? ⟨b,d,none⟩=false/\w.frozen? ⟨b,e,none⟩=false/\w.frozen? ⟨b,f,none⟩=false/\w.frozen? ⟨b,g,none⟩=false/\w.frozen? ⟨b,i,none⟩=false/\w.frozen? ⟨b,j,none⟩=false:=⟨fJ h a,N_ h c d e f g i j⟩
def bR{o:Obj}(h:w.heap[b]?=some o):b<w.heap.size:=(j8.1 h).1
def bW(h:w.heap[b]?=some (ae bQ t (0,0)))(k:J)(u:aw):(w.setCell (ad b k ab) u).heap[b]?=some (ae (bQ.setIfInBounds k u) t (0,0)):=by
 have a:=bR h;have c:w.heap[b]=ae bQ t (0,0):=by simpa[sw a]using h
 show(w.heap.modify b _)[b]?=_;rw[sw (by simpa using a),KY,c];rfl
def eO{o:Obj}{p:Addr}(h:w.heap[b]?=some o)(hne:b≠p.block)(u:aw):(w.setCell p u).heap[b]?=some o:=(C4 _ _ _ _ hne).trans h
def cm{o:Obj}(h:w.heap[b]?=some o)(x:Obj):(w.alloc x).heap[b]?=some o:=(y9 _ _ _ (bR h)).trans h
def aW(w:ai)(o:Obj):(w.alloc o).heap[w.heap.size]?=some o:=World.alloc_heap_new w o
def kQ{S:J->ak}{w w':ai}(h:Keeps aG w w'):Keeps S w w':=h.mono λ_ _ x=>x.elim
def l7{S:J->ak}{w w':ai}(h:Keeps S w w'):Keeps S w.drew w':=⟨h.os,h.tape,h.output,h.size,h.block⟩
def aP{w:ai}{b:J}{bQ us:a6 aw}{t:TypeId}(h:w.heap[b]?=some (ae bQ t (0,0)))(e:bQ=us:=by first|exact(rfl:_=#[_])|exact(rfl:_=#[_,_])|exact(rfl:_=#[_,_,_])|exact(rfl:_=#[_,_,_,_])|exact(rfl:_=#[_,_,_,_,_])|exact(rfl:_=#[_,_,_,_,_,_])|exact(rfl:_=#[_,_,_,_,_,_,_])|exact(rfl:_=#[_,_,_,_,_,_,_,_])|exact(rfl:_=#[_,_,_,_,_,_,_,_,_])|exact(rfl:_=#[_,_,_,_,_,_,_,_,_,_])|exact(rfl:_=#[_,_,_,_,_,_,_,_,_,_,_])|exact(rfl:_=#[_,_,_,_,_,_,_,_,_,_,_,_])|exact(rfl:_=#[_,_,_,_,_,_,_,_,_,_,_,_,_])|exact(rfl:_=#[_,_,_,_,_,_,_,_,_,_,_,_,_,_])|exact(rfl:_=#[_,_,_,_,_,_,_,_,_,_,_,_,_,_,_])|exact(rfl:_=#[_,_,_,_,_,_,_,_,_,_,_,_,_,_,_,_])):∀ k,w.cell? (ad b k ab)=us[k]?:=λk=>by
 unfold World.cell?;rw[h,e];rfl
def bJ{w:ai}{b:J}{bQ:a6 aw}{t:TypeId}(h:w.heap[b]?=some (ae bQ t (0,0))):∀ k,w.frozen? (ad b k ab)=false:=fJ h
section
structure ay where
 S:J->ak
 P:ai->ak
 lt:∀ {w b},P w->S b->b<w.heap.size
 frame:∀ {w w':ai} {T:J->ak},P w->Keeps T w w'->(∀ b,S b->¬ T b)->P w'
def ay.bc(b:J)(o:a6 aw×TypeId):ay where
 S j:=j=b
 P w:=w.heap[b]?=some (ae o.1 o.2 (0,0))
 lt h e:=by subst e;exact(j8.1 h).1
 frame h hk ax:=hk.heap h (ax b rfl)
def ay.none:ay:=⟨λ_=>False,λ_=>True,λ_ h=>h.elim,λ_ _ _=>trivial⟩
def rm(r s:ay):ak:=∀ b,r.S b->¬ s.S b
def rm.symm{r s:ay}(h:rm r s):rm s r:=λb h1 h2=>h b h2 h1
structure Sep(w:ai)(L:ah ay):ak where
 all:∀ r∈L,r.P w
 apart:L.Pairwise rm
namespace Sep
variable{w w':ai}{L:ah ay}
def at'(h:Sep w L)(i:J){r:ay}(av:L[i]?=some r):r.P w:=h.all r (ky av)
theorem lt(h:Sep w L){r:ay}(a:r∈L){b:J}(aj:r.S b):b<w.heap.size:=r.lt (h.all r a) aj
def ru(h:Sep w L){i j:J}{r s:ay}(av:L[i]?=some r)(c:L[j]?=some s)(b:i≠j):rm r s:=by
 obtain⟨h1,rfl⟩:=hf.1 av;obtain⟨h2,rfl⟩:=hf.1 c;have ar:=sE.1 h.apart;rcases Nat.lt_or_gt_of_ne b with a|a
 .exact ar i j h1 h2 a
 exact(ar j i h2 h1 a).symm
theorem keeps{T:J->ak}(h:Sep w L)(hk:Keeps T w w')(c:∀ r∈L,∀ b,r.S b->¬ T b):Sep w' L:=
 ⟨λr a=>r.frame (h.all r a) hk (c r a),h.apart⟩
def keep(h:Sep w L)(hk:Keeps aG w w'):Sep w' L:=h.keeps hk (λ_ _ _ _=>id)
def below(h:Sep w L)(aj:Below w w w'):Sep w' L:=h.keep (Keeps.bE aj λk h1 h2=>U)
def drew(h:Sep w L)(n:J):Sep (w.drewN n) L:=h.keep ((Keeps.refl _ w).drewN n)
theorem alloc(h:Sep w L)(o:Obj):Sep (w.alloc o) L:=h.keep ((Keeps.refl _ w).alloc o)
theorem set{T:J->ak}(h:Sep w L)(i:J){r r':ay}(av:L[i]?=some r)(hk:Keeps T w w')(g:∀ b,b<w.heap.size->T b->r.S b)(f:r'.P w')(al:∀ b,r'.S b->r.S b\/w.heap.size<=b):Sep w' (L.set i r'):=by
 have⟨l,m⟩:=hf.1 av;have key:∀ j s,j≠i->L[j]?=some s->s.P w'/\rm r' s:=by
  intro j s c ax;have hm:=ky ax;have bj:=h.ru av ax (hJ c);refine⟨s.frame (h.all s hm) hk λb aj aN=>bj b (g b (h.lt hm aj) aN) aj,λb aj d=>?_⟩;rcases al b aj with h1|h1
  .exact bj b h1 d
  have:=h.lt hm d;omega
 refine⟨λs ax=>?_,?_⟩
 .have⟨j,c⟩:=getElem?_of_mem ax;by_cases e:j=i
  .subst e;rw[uw l]at c;cases c;exact f
  rw[p_ (hJ e)]at c;exact(key j s e c).1
 rw[sE];intro a b bj aj k;rw[qa]at bj aj;by_cases dT:a=i
 .subst dT;rw[zm,wH U];exact(key b _ U (gb (by simpa using aj))).2
 rw[wH (hJ dT)];by_cases kd:b=i
 .subst kd;rw[zm];exact(key a _ dT (gb (by simpa using bj))).2.symm
 rw[wH (hJ kd)];exact sE.1 h.apart a b bj aj k
theorem cons{T:J->ak}(h:Sep w L){r:ay}(hk:Keeps T w w')(c:∀ s∈L,∀ b,s.S b->¬ T b)(a:r.P w')(al:∀ b,r.S b->w.heap.size<=b):Sep w' (r :: L):=
 ⟨λs ax=>by
  rcases e3.1 ax with rfl|ax
  .exact a
  .exact s.frame (h.all s ax) hk (c s ax),jP.2 ⟨λs ax b h1 h2=>by have:=al b h1;have:=h.lt ax h2;omega,h.apart⟩⟩
theorem nil(w:ai):Sep w []:=⟨λ_ h=>by simp at h,.nil⟩
def tail{r:ay}(h:Sep w (r :: L)):Sep w L:=⟨λs ax=>h.all s (by simp[ax]),(jP.1 h.apart).2⟩
end Sep
end
section
variable{P:Program}{w W:ai}{f:FuncId}{rv:a6 aw}{YP s3:Ending->ai->ak}{R:ai->ak}{v:Ending}{G:ak}
def br(c:Calls P f rv w λe w'=>e=v/\W=w')(k:s3 v W):Calls P f rv w s3:=c.mono λ_ _ ⟨a,b⟩=>a▸b▸k
def DD(c:Calls P f rv w λe w'=>e=v/\w'=W)(k:s3 v W):Calls P f rv w s3:=c.mono λ_ _ ⟨a,b⟩=>a▸b▸k
def aT(c:Calls P f rv w λe w'=>e=v/\R w')(k:∀ w',R w'->s3 v w'):Calls P f rv w s3:=c.mono λ_ w' ⟨a,b⟩=>a▸k w' b
end
def cQ{α:Sort _}(x:α):∃ o,o=x:=⟨_,rfl⟩
def b8{p q:ak}(a:p)(b:q):Hid (p/\q):=⟨a,b⟩
def hj{F:ai->ak}:∃ G:ai->ak,∀ W,G W↔F W:=⟨_,λ_=>Iff.rfl⟩
def IA{f s t:J}(a:f<s)(aN:t<s):(f+t)%s=if f+t<s then f+t else f+t-s:=by
 by_cases h:f+t<s
 .rw[aD h,ja h]
 rw[aA h,Nat.mod_eq_sub_mod U,ja U]
def yn{f s t u:J}(a:f<s)(aN:t<s)(b:u<s)(h:(f+t)%s=(f+u)%s):t=u:=by
 rw[IA a aN,IA a b]at h;split at h<;>split at h<;>omega
def T7(f s t:J):((f+1)%s+t)%s=(f+(t+1))%s:=by
 rw[Nat.mod_add_mod]
 congr 1
 omega
def Holds{α:Type}(A:List α)(f s:J)(L:List α):ak:=∀ t,t<L.length->A[(f+t)%s]?=L[t]?
section
variable{α:Type}{A L:List α}{f s:J}
def Holds.push(h:Holds A f s L)(b:f<s)(d:A.length=s)(c:L.length<s)(v:α):Holds (A.set ((f+L.length)%s) v) f s (L++[v]):=by
 intro t aN;simp only[cx,dr,e2]at aN;have hk:(f+L.length)%s<s:=eW _ U;by_cases e:t=L.length
 .subst e;rw[uw U];simp
 rw[p_ (λa=>e (yn b U c a.symm)),h t U,jL U]
def Holds.pop(h:Holds A f s L)(a:f<s)(b:L.length<=s)(au:0<L.length)(v:α):Holds (A.set f v) ((f+1)%s) s L.tail:=by
 intro t aN;simp only[length_tail]at aN;rw[T7];rw[p_ (λe=>absurd (yn (t:=0) (u:=t+1) a U U ((ja a).trans e)) U),h (t+1) U];simp
def rq(A:List α)(f s:J)(L:List α)(i j:J):ak:=∀ t,t<L.length->A[(f+t)%s]?=if i<=t/\t<j then L[t+1]? else L[t]?
def Holds.shift(h:Holds A f s L)(i:J):rq A f s L i i:=by
 intro t aN;rw[aA U];exact h t aN
def rq.next{i j:J}(h:rq A f s L i j)(b:f<s)(g:A.length=s)(m:L.length<=s)(k:i<=j)(l:j+1<L.length)(y:α)(d:A[(f+(j+1))%s]?=some y):rq (A.set ((f+j)%s) y) f s L i (j+1):=by
 intro t aN;have hk:(f+j)%s<s:=eW _ U;by_cases e:t=j
 .subst e;rw[uw U,aD U,<-d,h (t+1) U,aA U]
 rw[p_ (λa=>e (yn b U U a.symm)),h t aN];by_cases c:i<=t/\t<j
 .rw[aD c,aD U]
 rw[aA c,aA U]
def rq.done{i:J}(h:rq A f s L i (L.length-1))(a:f<s)(b:L.length<=s)(av:i<L.length)(z:α):Holds (A.set ((f+(L.length-1))%s) z) f s (L.eraseIdx i):=by
 intro t aN;rw[length_eraseIdx_of_lt av]at aN;rw[p_ (λe=>absurd (yn a U U e) U),h t U,getElem?_eraseIdx];by_cases c:t<i
 .rw[aD c,aA U]
 rw[aA c,aD U]
end
section
variable{α:Type}
def dB:ah (J×α)->J->Option α
 | [],_=>none
 | (g,y) :: r,f=>if g=f then some y else dB r f
def pk(L:ah (J×α)):ak:=L.Pairwise λp q=>p.1<q.1
def eY:ah (J×α)->J->α->ah (J×α)
 | [],f,x=>[(f,x)]
 | (g,y) :: r,f,x=>if f<=g then(f,x) :: ((g,y) :: r).filter (λp=>p.1 != f)else(g,y) :: eY r f x
def yb(L:ah (J×α))(p:J->aY)(f:J):dB (L.filter λq=>p q.1) f=if p f then dB L f else none:=by
 induction L with
 | nil=>simp[dB]
 | cons c r a=>
  have⟨g,y⟩:=c;by_cases ar:p g
  .rw[q6 (by simpa using ar)];simp only[dB];by_cases e:g=f
   .subst e;simp[ar]
   rw[aA e,aA e,a]
  rw[oc (by simpa using ar),a];simp only[dB];by_cases e:g=f
  .subst e;simp[ar]
  rw[aA e]
def H0(L:ah (J×α))(f:J)(x:α)(a:J):dB (eY L f x) a=if a=f then some x else dB L a:=by
 induction L with
 | nil=>
  simp only[eY,dB];by_cases e:f=a
  .subst e;simp
  rw[aA e,aA (hJ e)]
 | cons c r b=>
  have⟨g,y⟩:=c;simp only[eY];split
  .rename_i h;have h1:=yb ((g,y) :: r) (λn=>n != f) a;simp only[dB]at h1⊢;by_cases e:f=a
   .subst e;simp
   rw[aA e,aA (hJ e),h1,aD (by simpa using Ne.symm e)]
  rename_i h;simp only[dB];by_cases e:g=a
  .rw[aD e,aD e,aA U]
  rw[aA e,aA e,b]
def Bo{L:ah (J×α)}{f:J}{x:α}{p:J×α}(h:p∈eY L f x):p=(f,x)\/p∈L:=by
 induction L with
 | nil=>exact .inl (by simpa[eY]using h)
 | cons c r a=>
  have⟨g,y⟩:=c;simp only[eY]at h;split at h
  .rcases e3.1 h with h|h
   .exact .inl h
   exact .inr (fR.1 h).1
  rcases e3.1 h with h|h
  .exact .inr (by rw[h];simp)
  rcases a h with h|h
  .exact .inl h
  exact .inr (by simp[h])
def E8{L:ah (J×α)}(h:pk L)(f:J)(x:α):pk (eY L f x):=by
 induction L with
 | nil=>simp[eY,pk]
 | cons c r d=>
  have⟨g,y⟩:=c;have aq:=jP.1 h;simp only[eY];split
  .rename_i b;refine jP.2 ⟨λp ar=>?_,h.filter _⟩;have⟨h1,h2⟩:=fR.1 ar;have a:p.1≠f:=by simpa using h2
   rcases e3.1 h1 with h1|h1
   .rw[h1]at a⊢;simp at a⊢;omega
   have:=aq.1 p h1;simp at this⊢;omega
  rename_i b;refine jP.2 ⟨λp ar=>?_,d aq.2⟩;rcases Bo ar with h1|h1
  .rw[h1];simp;omega
  exact aq.1 p h1
def E7{L:ah (J×α)}(h:pk L)(p:J×α->aY):pk (L.filter p):=h.filter _
def tF{L:ah (J×α)}{f:J}{x:α}(h:dB L f=some x):(f,x)∈L:=by
 induction L with
 | nil=>cases h
 | cons c r a=>
  have⟨g,y⟩:=c;simp only[dB]at h;split at h
  .rename_i e;subst e;cases h;simp
  simp[a h]
def Bn{L:ah (J×α)}(bj:pk L){f:J}{x:α}(h:(f,x)∈L):dB L f=some x:=by
 induction L with
 | nil=>cases h
 | cons c r a=>
  obtain⟨g,y⟩:=c;have aq:=jP.1 bj;simp only[dB];rcases e3.1 h with h|h
  .cases h;rw[aD rfl]
  have:=aq.1 _ h
  simp at this;rw[aA U];exact a aq.2 h
def Gv{L:ah (J×α)}(bj:pk L)(first size:J)(j:∀ p∈L,first<=p.1/\p.1<first+size):((range size).map (first+·)).filter (λf=>(dB L f).isSome)=L.map (·.1):=by
 have key:∀ (d c:ah J),d.Pairwise (·<·)->c.Pairwise (·<·)->(∀ n,n∈d↔n∈c)->d=c:=by
  intro d
  induction d with
  | nil=>
   intro c _ _ h;cases c with
   | nil=>rfl
   | cons b r=>have:=(h b).2 (by simp);cases this
  | cons a r l=>
   intro c h1 h2 h;cases c with
   | nil=>have:=(h a).1 (by simp);cases this
   | cons b s=>
    have b0:=jP.1 h1;have bs:=jP.1 h2;have i:a=b:=by
     rcases e3.1 ((h a).1 aI)with e|e
     .exact e
     rcases e3.1 ((h b).2 aI)with g|g
     .exact g.symm
     have:=b0.1 b g;have:=bs.1 a e;omega
    subst i;rw[l s b0.2 bs.2 (λn=>⟨λau=>by
     rcases e3.1 ((h n).1 (by simp[au]))with e|e
     .have:=b0.1 n au;omega
     .exact e,λau=>by
     rcases e3.1 ((h n).2 (by simp[au]))with e|e
     .have:=bs.1 n au;omega
     .exact e⟩)]
 refine key _ _ (Pairwise.filter _ ?_) ?_ λn=>?_
 .rw[uA];exact(pairwise_lt_range).imp a7
 .rw[uA];exact bj
 rw[fR,fu,fu];constructor
 .rintro⟨_,h⟩;obtain⟨x,k⟩:=Dz.1 h;exact⟨(n,x),tF k,rfl⟩
 rintro⟨⟨f,x⟩,ar,rfl⟩;have h1:=j _ ar;exact⟨⟨f-first,by simp;simp at h1;omega,by simp at h1⊢;omega⟩,by simp[Bn bj ar]⟩
end
def qi{p:ak}(h:p:=by simpa using au):p:=h
def sR{p:ak}(h:p:=by simpa using a):p:=h
def nt{p:ak}(h:p:=by cases h):p:=h
end Go.Proofs.YtalagblioepadaaGreatDoor
