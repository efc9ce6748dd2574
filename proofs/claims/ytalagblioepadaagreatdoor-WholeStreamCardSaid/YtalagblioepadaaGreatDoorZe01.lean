/- The proof, part 1. -/
import Derived.WalkLawsBesides
import Derived.WalkSpells
import Derived.ProofKit
import Derived.OpenShut
import Derived.ShutString
import Derived.BigQuiet
import Derived.RangeFuncRecord
namespace Go.Proofs.YtalagblioepadaaGreatDoor
open List Go.RowKit
set_option maxRecDepth 100000
set_option linter.all false
inductive Ep|mk
def J:Ep:=.mk
instance:CoeSort Ep Type:=⟨λ_=>Nat⟩
instance:Coe Ep Type:=⟨λ_=>Nat⟩
inductive Eo|mk
def U:Eo:=.mk
instance:CoeSort Eo Type:=⟨λ_=>Int⟩
instance:Coe Eo Type:=⟨λ_=>Int⟩
inductive Et|mk
def aj:Et:=.mk
instance:CoeSort Et Type:=⟨λ_=>World⟩
instance:Coe Et Type:=⟨λ_=>World⟩
inductive Es|mk
def ay:Es:=.mk
instance:CoeSort Es Type:=⟨λ_=>Value⟩
instance:Coe Es Type:=⟨λ_=>Value⟩
inductive Er|mk
def aR:Er:=.mk
instance:CoeSort Er Type:=⟨λ_=>UInt8⟩
instance:Coe Er Type:=⟨λ_=>UInt8⟩
inductive K_|mk
def ae:K_:=.mk
instance:CoeSort K_ Type:=⟨λ_=>Prop⟩
inductive En|mk
def aY:En:=.mk
instance:CoeSort En Type:=⟨λ_=>Bool⟩
instance:Coe En Type:=⟨λ_=>Bool⟩
inductive Eu|mk
def cl:Eu:=.mk
instance:CoeSort Eu Type:=⟨λ_=>ByteArray⟩
instance:Coe Eu Type:=⟨λ_=>ByteArray⟩
inductive K8|mk
def ai:K8:=.mk
instance:CoeFun K8 λ_=>Type->Type:=⟨λ_=>List⟩
inductive K9|mk
def cr:K9:=.mk
instance:CoeFun K9 λ_=>Type->Type:=⟨λ_=>Option⟩
inductive K7|mk
def a6:K7:=.mk
instance:CoeFun K7 λ_=>Type->Type:=⟨λ_=>Array⟩
def b9:=@RowKit.Below.refl
def c6:=@congrArg
def dm:=@Nat.le_refl
def e0:=@IntWalk.i64_in
def e9:=@Bool.and_eq_true
def ft:=@World.size_alloc
def fJ:=@all_eq_true
def fW:=@mem_cons
def gd:=@mem_append
def gq:=@append_nil
def gN:=@length_nil
def gO:=@mem_map
def gW:=@getElem?_eq_getElem
def hf:=@decide_eq_true_eq
def hN:=@mem_filter
def hO:=@Nat.le_of_eq
def h0:=@callsIn_wide
def h3:=@length_take
def h4:=@Ne.symm
def iu:=@Result.andThen_ok
def iv:=@length_drop
def iw:=@size_toArray
def iO:=@Sem.run_bind
def iP:=@length_map
def iY:=@beq_iff_eq
def jm:=@Sem.run_pure
def jn:=@Option.some.injEq
def jF:=@getElem?_append_left
def jG:=@length_singleton
def jH:=@Option.getD_some
def jY:=@flatMap_cons
def jZ:=@Nat.add_assoc
def kz:=@cell_of_one
def kA:=@Int.le_refl
def kB:=@getElem?_cons_succ
def kC:=@getElem?_toArray
def kD:=@mem_singleton
def kE:=@Nat.mod_eq_of_lt
def k0:=@Eq.symm
def k1:=@RowKit.Below.setCell
def k2:=@drop_zero
def k3:=@map_append
def k4:=@pairwise_cons
def k5:=@Nat.succ_mul
def lz:=@drop_succ_cons
def lA:=@getElem?_cons_zero
def lB:=@mem_cons_of_mem
def lC:=@take_succ_cons
def lD:=@Nat.not_lt_zero
def l4:=@Array.getElem?_eq_none
def l5:=@cons_append
def l6:=@getElem?_append_right
def l7:=@take_succ_eq_append_getElem
def l8:=@Option.some.inj
def l9:=@getElem!_pos
def mI:=@Array.getElem?_eq_some_iff
def mJ:=@Int.eq_ofNat_of_zero_le
def mK:=@mem_of_getElem?
def mL:=@take_zero
def mM:=@Prod.mk.injEq
def ny:=@Array.getElem?_toList
def nz:=@map_cons
def n4:=@mem_ready
def n5:=@drop_drop
def n9:=@getD_eq_getElem?_getD
def n_:=@take_append_drop
def n':=@Nat.pow_succ
def oS:=@Bool.not_eq_true'
def oT:=@World.block_lt_of_cell?
def oU:=@free_of_one
def oV:=@wpList_plain
def oW:=@Int.tmod_eq_emod_of_nonneg
def oX:=@filter_cons_of_neg
def oY:=@getElem_mem
def oZ:=@length_filter_le
def o0:=@mem_cons_self
def o1:=@take_of_length_le
def o2:=@Nat.lt_of_lt_of_le
def o3:=@Nat.min_eq_left
def o4:=@Nat.mul_comm
def pY:=@info_parts
def pZ:=@filter_eq_self
def p0:=@length_eq_zero_iff
def p1:=@mem_range
def p2:=@nil_append
def p3:=@perm_append_comm_assoc
def p4:=@reverse_cons
def p5:=@Nat.lt_irrefl
def qM:=@Array.getElem?_push
def qN:=@IntKind.wrap_u64
def qO:=@drop_eq_getElem_cons
def qP:=@length_cons
def qQ:=@map_nil
def qR:=@perm_middle
def qS:=@take_length
def qT:=@Prod.ext
def r9:=@Array.length_toList
def r_:=@Bool.true_and
def sa:=@cell_one_new
def rY:=@Int.toNat_natCast
def rZ:=@filter_append
def r0:=@filter_cons_of_pos
def r1:=@foldl_cons
def r2:=@getElem?_set_ne
def r3:=@length_set
def r4:=@Nat.add_comm
def r5:=@Nat.div_add_mod
def r6:=@Option.isSome_none
def r7:=@Option.map_some
def r8:=@of_decide_eq_true
def tb:=@run_underlying
def tc:=@filter_map
def td:=@flatMap_append
def te:=@foldl_append
def tf:=@length_pos_iff
def tg:=@pairwise_append
def th:=@range_succ
def ti:=@take_left'
def tj:=@Nat.add_zero
def tk:=@Nat.eq_zero_or_pos
def tl:=@Nat.pow_le_pow_right
def tm:=@Option.getD_none
def tn:=@decide_eq_false_iff_not
def uQ:=@Array.getElem?_eq_getElem
def uR:=@Array.replicate_succ
def uS:=@Array.replicate_zero
def uT:=@Bool.false_or
def uU:=@run_append_own_at
def uV:=@wpList_append_own
def uW:=@append_toArray
def uX:=@getElem?_eq_none
def uY:=@length_append
def uZ:=@length_replicate
def u_:=@pairwise_iff_getElem
def u':=@push_toArray
def va:=@Nat.le_succ
def vb:=@Nat.mul_le_mul_right
def vc:=@Nat.zero_add
def vd:=@Option.isSome_some
def w_:=@Bool.or_eq_true
def xa:=@Act.put_comm
def xb:=@ready_mono
def xc:=@eq_nil_of_length_eq_zero
def xd:=@foldl_nil
def xe:=@getElem?_set_self
def xf:=@getElem?_take
def xg:=@mem_flatMap
def xh:=@pairwise_map
def xi:=@Nat.add_sub_cancel_left
def xj:=@not_not_intro
def y_:=@Array.ext_getElem?
def y':=@Array.getElem?_setIfInBounds_ne
def za:=@Bool.false_eq_true
def zb:=@Bool.or_false
def zc:=@Bool.true_or
def ze:=@ByteArray.toList_eq
def zf:=@World.cell?_setCell_same
def zg:=@bodyPost_end
def zh:=@run_loadCells_list
def zi:=@Int.emod_lt_of_pos
def zj:=@Int.emod_nonneg
def zk:=@drop_left'
def zl:=@filter_congr
def zm:=@getElem?_drop
def zn:=@getElem_set_ne
def zo:=@mem_iff_getElem
def zq:=@prefix_refl
def zr:=@set_cons_succ
def zs:=@set_cons_zero
def zt:=@Nat.mul_le_mul
def zu:=@Nat.zero_mul
def Ce:=@Array.getElem?_setIfInBounds_self_of_lt
def Cf:=@Bool.eq_iff_iff
def Cg:=@Bool.false_and
def Ch:=@Bool.false_ne_true
def Ci:=@RowKit.Below.heap_alloc
def Cj:=@WideAt.sameKey_self
def Ck:=@World.ownsRow_nil
def Cl:=@execOp_put
def Cm:=@results_tmp
def Cn:=@wpIn_wide
def Co:=@Int.le_trans
def Cp:=@Perm.refl
def Cq:=@any_eq_false
def Cr:=@any_eq_true
def Cs:=@List.cons.injEq
def Ct:=@countP_cons
def Cu:=@drop_eq_nil_of_le
def Cv:=@filter_nil
def Cw:=@find?_eq_none
def Cx:=@getElem?_replicate
def Cy:=@getElem_cons_succ
def Cz:=@getElem_set_self
def CA:=@map_singleton
def CB:=@mem_of_find?_eq_some
def CC:=@mem_of_mem_drop
def CD:=@mem_of_mem_take
def CE:=@mem_or_eq_of_mem_set
def CF:=@not_mem_nil
def CG:=@setIfInBounds_toArray
def CH:=@take_append_of_le_length
def CI:=@take_left
def CJ:=@Nat.lt_or_ge
def CK:=@UInt8.toNat_inj
def CL:=@of_decide_eq_false
def Ha:=@Array.getElem?_modify
def Hb:=@Array.toList_inj
def Hc:=@Bool.eq_false_or_eq_true
def Hd:=@Bool.not_eq_true
def He:=@DataW.held.injEq
def Hf:=@IntKind.wrap_i64
def Hg:=@Obj.cells.injEq
def Hh:=@Region.free_spec
def Hi:=@Region.noSelect_spec
def Hj:=@RowKit.Below.heap_setCell
def Hk:=@WideAt.sameKey_eq
def Hl:=@World.cell?_setCell_other
def Hm:=@World.drewN_drewN
def Hn:=@getD_set_ne
def Ho:=@grownCap_ge
def Hp:=@run_convert_bytes_back
def Hq:=@run_equalIn_agg
def Hr:=@run_storeCells_at
def Hs:=@wpListIn_nil
def Ht:=@wpListIn_plain
def Hu:=@wp_region_any
def Hv:=@Int.le_total
def Hw:=@Int.mul_add
def Hy:=@Int.mul_nonneg
def Hz:=@Int.mul_sub
def HA:=@Int.natCast_mul
def HB:=@drop_append_of_le_length
def HC:=@drop_of_length_le
def HD:=@filter_sublist
def HE:=@getElem?_map
def HF:=@getElem_of_mem
def HG:=@pairwise_singleton
def HH:=@replicate_succ'
def HI:=@Nat.add_mul
def HJ:=@Nat.add_sub_cancel
def HK:=@Nat.div_le_self
def HL:=@Nat.le_trans
def HM:=@Nat.lt_of_not_le
def HN:=@Nat.min_eq_right
def HO:=@Nat.mul_one
def HP:=@Nat.sub_self
def HQ:=@Option.isSome_iff_exists
def HR:=@Option.map_map
def HS:=@bne_iff_ne
def Qj:=@Array.any_eq_true'
def Qk:=@Array.extract_size
def Ql:=@Array.getElem_modify_self
def Qm:=@Array.setIfInBounds_comm
def Qn:=@Array.toArray_toList
def Qo:=@BitVec.toNat_ofInt
def Qp:=@BitVec.xor_allOnes
def Qq:=@Bool.and_eq_true_iff
def Qr:=@ByteArray.data_append
def Qs:=@Decidable.byContradiction
def Qt:=@Lib.wpList_append_own_string
def Qu:=@World.cell?_of_block
def Qv:=@World.frozen?_setCell
def Qw:=@toList_madeCells_one
def Qx:=@Int.dvd_of_emod_eq_zero
def Qy:=@Int.mul_ediv_add_emod
def Qz:=@Int.mul_nonneg_of_nonpos_of_nonpos
def QA:=@Int.sub_eq_add_neg
def QB:=@Int.tdiv_eq_ediv_of_nonneg
def QC:=@Nat.div_lt_of_lt_mul
def QD:=@Nat.lt_trichotomy
def QE:=@Nat.mul_le_mul_left
def QF:=@Nat.xor_lt_two_pow
def QG:=@UInt8.toNat_ofNat'
variable{ww:Prop}
def nA(h:ww:=by simp):=h
def b4(h:ww:=by omega):=h
def cT(h:ww:=by go_num):=h
def j0(h:ww:=by simpa using h):=h
def tv(h:ww:=by simpa using aw):=h
def tu(h:ww:=by simp at h;omega):=h
def k6(h:ww:=by unfold maxLen;omega):=h
def p7(h:ww:=by simp[Value.oneCell']):=h
def zD(h:ww:=by unfold gB at a;omega):=h
def CU(h:ww:=by first|rfl|simp[go_sem]):=h
def H3(h:ww:=by have:=al.size;simp;omega):=h
def zC(h:ww:=by have:=f.size;simp;omega):=h
def CS(h:ww:=by rw[h.ha];exact gb _ h.pos):=h
def zA(h:ww:=by have:=(d.lt b al).1;omega):=h
def xm(h:ww:=by first|rfl|simp[results,go_sem]):=h
def zz(h:ww:=by first|(cases d<;>exact h)|cases h.1):=h
def HW(h:ww:=by simpa using Nat.le_succ_of_le al.size):=h
def QW(h:ww:=by simp[results,results166,go_sem,K,zv]):=h
def zE(h:ww:=by simp[aU,results,results167,asAddr,loadVar,loadCells,isAgg199,sizeOf199,y]):=h
def QZ(h:ww:=by simp[aU,bY.zero,results,results306,asAddr,loadVar,loadCells,isAgg199,sizeOf199,g]):=h
variable{args:a6 ay}{B i j n:J}{p:ae}{cx cm cB eS hZ iX ib:ay}
def ad(h:p):Hid p:=h
def _root_.Go.RowKit.Hid.o{p:Prop}(h:Hid p):p:=h
def Gy:ay->J|.string t=>t.size|_=>0
def ahU(s:cl)(k:J)(h:k<s.size):s.data.toList.take (k+1)=s.data.toList.take k++[s[k]]:=by
 rw[l7 j0];rfl
def extract_data(s:cl)(a b:J):(s.extract a b).data.toList=(s.data.toList.drop a).take (b-a):=by
 rw[ByteArray.data_extract];simp[extract_eq_take_drop]
def AN(s:cl)(a:J):(s.extract a s.size).data.toList=s.data.toList.drop a:=by
 rw[extract_data,o1];simp
def wrap_u16(n:U):IntKind.u16.wrap n=n%65536:=by simp[IntKind.wrap,IntKind.bits,IntKind.signed]
def wrap_u8(n:U):IntKind.u8.wrap n=n%256:=by simp[IntKind.wrap,IntKind.bits,IntKind.signed]
def wrap_u32(n:U):IntKind.u32.wrap n=n%4294967296:=by simp[IntKind.wrap,IntKind.bits,IntKind.signed]
def wrap_u64(n:U):IntKind.u64.wrap n=n%18446744073709551616:=by simp[IntKind.wrap,IntKind.bits,IntKind.signed]
def ajf(n:U):IntKind.i16.wrap n=(n+32768)%65536-32768:=by
 simp only[IntKind.wrap,IntKind.bits,IntKind.signed];simp;split<;>omega
def uj{k:IntKind}{a b:U}(h:a=b):Ending.returned (.int k a)=.returned (.int k b):=by rw[h]
def yQ{a b:aY}(h:a=b):Ending.returned (.bool a)=.returned (.bool b):=by rw[h]
def Oc{a b a' c:ay}(h:a=a')(d:b=c):Ending.returned (.tuple #[a,b])=.returned (.tuple #[a',c]):=by rw[h,d]
def GQ{k:IntKind}{a b:U}(h:a=b):Value.int k a=.int k b:=by rw[h]
def iB(b o i:J):(⟨b,o,none⟩:Addr).add i=⟨b,o+i,none⟩:=by unfold Addr.add;split<;>simp_all
theorem ah_(a m:U):(0<=a->a.tmod m=a%m)/\(a<0->a.tmod m=-((-a)%m)):=
 ⟨λh=>oW h,λh=>by rw[<-oW (a:=-a) b4,Int.neg_tmod,Int.neg_neg]⟩
structure k7(w:aj) where
 to:aj
 below:Below w.heap.size w to
instance (w:aj):Nonempty (k7 w):=⟨⟨w,b9 _ _⟩⟩
theorem rW{P:Program}{id:J}{Q:Exit->Act->aj->ae}{a:Act}{w:aj}{l:ai Oper}(hm:P.follows .mixedOrders=true)(b:Region.lexB .any l.toArray=true)(h:wpQuiet P l.toArray (λw'=>∃ x:k7 w,w'=x.to) (λa'=>∀ w',(∃ x:k7 w,w'=x.to)->Q .normal a' w') l a):(Code.region id l.toArray true).wp P Q a w:=
 wp_region_quiet (C:=λw'=>∃ x:k7 w,w'=x.to) hm b ⟨⟨{w with drawn:=w.drawn+1},(b9 _ w).drew⟩,rfl⟩ j0
theorem Calls.kn{P:Program}{f:FuncId}{w:aj}{x:k7 w}{v:ay}(h:Calls P f args x.to λe w'=>e=.returned v/\Below x.to.heap.size x.to w'):Calls P f args x.to λe a=>e=.returned v/\∃ y:k7 w,a=y.to:=
 h.mono λ_ w' ⟨b,al⟩=>⟨b,⟨w',x.below.trans (al.mono x.below.size)⟩,rfl⟩
theorem Calls.ko{P:Program}{f:FuncId}{w:aj}{x:k7 w}{v:ay}(h:Calls P f args x.to λe w'=>e=.returned v/\x.to=w'):Calls P f args x.to λe a=>e=.returned v/\∃ y:k7 w,a=y.to:=
 h.mono λ_ _ ⟨b,al⟩=>⟨b,x,al.symm⟩
section
structure ag(S:J->ae)(w w':aj):ae where
 os:w'.os=w.os
 tape:w'.tape=w.tape
 output:w'.output=w.output
 size:w.heap.size<=w'.heap.size
 block:∀ k,k<w.heap.size->¬ S k->w'.heap[k]?=w.heap[k]?
namespace ag
variable{S T:J->ae}{w w' a b c:aj}
def refl(S:J->ae)(w:aj):ag S w w:=⟨rfl,rfl,rfl,dm _,λ_ _ _=>rfl⟩
theorem trans(h:ag S a b)(k:ag S b c):ag S a c:=
 ⟨k.os.trans h.os,k.tape.trans h.tape,k.output.trans h.output,HL h.size k.size,λi av aA=>(k.block i (o2 av h.size) aA).trans (h.block i av aA)⟩
theorem mono(h:ag S a b)(aA:∀ k,k<a.heap.size->S k->T k):ag T a b:=
 ⟨h.os,h.tape,h.output,h.size,λk hk aW=>h.block k hk (λs=>aW (aA k hk s))⟩
theorem alloc(h:ag S a b)(o:Obj):ag S a (b.alloc o):=
 h.trans ⟨rfl,rfl,rfl,nA,λk hk _=>Ci _ _ _ hk⟩
theorem setCell(h:ag S a b){p:Addr}(ao:S p.block)(u:ay):ag S a (b.setCell p u):=
 h.trans ⟨rfl,rfl,rfl,by simp[World.setCell],λk _ aA=>Hj _ _ _ _ (λe=>aA (e▸ao))⟩
theorem pL(h:ag S a b){p:Addr}(ao:a.heap.size<=p.block)(u:ay):ag S a (b.setCell p u):=
 ⟨h.os,h.tape,h.output,by simp only[World.setCell,Array.size_modify];exact h.size,λk hk aA=>(Hj _ _ _ _ b4).trans (h.block k hk aA)⟩
theorem drew(h:ag S a b):ag S a b.drew:=⟨h.os,h.tape,h.output,h.size,h.block⟩
theorem drewN(h:ag S a b)(n:J):ag S a (b.drewN n):=h.trans ⟨rfl,rfl,rfl,dm _,λ_ _ _=>rfl⟩
theorem putObj(h:ag S a b){l:J}(c:S l)(o:Obj):ag S a (b.putObj l o):=
 h.trans ⟨rfl,rfl,rfl,nA,λ_ _ aA=>World.putObj_heap_other (λe=>aA (e▸c))⟩
theorem bU(h:Below B a b)(d:∀ k,k<a.heap.size->B<=k->S k):ag S a b:=
 ⟨h.os,h.tape,h.output,h.size,λk hk aA=>h.block k (HM λc=>aA (d k hk c))⟩
theorem below(h:ag S a b)(c:B<=a.heap.size)(aA:∀ k,k<B->¬ S k):Below B a b:=
 ⟨h.os,h.tape,h.output,h.size,λk hk=>h.block k (o2 hk c) (aA k hk)⟩
theorem ga(h:ag S a b)(k:Below b.heap.size b c):ag S a c:=
 h.trans (bU k λ_ hk d=>absurd hk (Nat.not_lt.2 d))
theorem grown(h:ag S a b){row:cr J}(a7:b.grownBy c row)(d:∀ k,row=some k->S k\/a.heap.size<=k):ag S a c:=
 ⟨a7.os.trans h.os,a7.tape.trans h.tape,a7.output.trans h.output,HL h.size a7.size,λk hk aA=>by
  refine(a7.block k (o2 hk h.size) (λe=>?_)).trans (h.block k hk aA);rcases d k e.symm with c|c
  .exact aA c
  .omega⟩
theorem heap(h:ag S a b){k:J}{o:Obj}(ar:a.heap[k]?=some o)(aA:¬ S k):b.heap[k]?=some o:=
 (h.block k (mI.1 ar).1 aA).trans ar
theorem cell(h:ag S a b){p:Addr}{v:ay}(an:a.cell? p=some v)(aA:¬ S p.block):b.cell? p=some v:=
 (Qu (h.block p.block (oT a p an) aA)).trans an
theorem frozen(h:ag S a b){p:Addr}(ao:p.block<a.heap.size)(aA:¬ S p.block):b.frozen? p=a.frozen? p:=
 World.frozen?_of_block (h.block p.block ao aA)
end ag
def sE{w:aj}{p:Addr}{v:ay}(h:w.cell? p=some v)(o:Obj):(w.alloc o).cell? p=some v:=((ag.refl (λ_=>False) w).alloc o).cell h id
theorem aaa{w:aj}{p:Addr}{v:ay}(h:w.cell? p=some v){b:aY}(a:w.frozen? p=b)(o:Obj):(w.alloc o).frozen? p=b:=
 (((ag.refl (λ_=>False) w).alloc o).frozen (oT w p h) id).trans a
def pn(w:aj)(v:ay)(t:TypeId):(w.alloc (.cells #[v] t)).cell? ⟨w.heap.size,0,none⟩=some v:=by go_simp
def Z'(w:aj)(v:ay)(t:TypeId):(w.alloc (.cells #[v] t)).frozen? ⟨w.heap.size,0,none⟩=false:=by go_simp
end
inductive JA|mk
def aa:JA:=.mk
instance:CoeFun JA λ_=>Int->ay:=⟨λ_=>.int .i64⟩
inductive JB|mk
def af:JB:=.mk
instance:CoeFun JB λ_=>Int->ay:=⟨λ_=>.int .i32⟩
inductive JG|mk
def bz:JG:=.mk
instance:CoeFun JG λ_=>Int->ay:=⟨λ_=>.int .u32⟩
inductive JH|mk
def c7:JH:=.mk
instance:CoeFun JH λ_=>Int->ay:=⟨λ_=>.int .u16⟩
inductive JI|mk
def bf:JI:=.mk
instance:CoeFun JI λ_=>Int->ay:=⟨λ_=>.int .u8⟩
inductive Jz|mk
def aG:Jz:=.mk
instance:CoeFun Jz λ_=>Array ay->ay:=⟨λ_=>.agg⟩
inductive JF|mk
def aV:JF:=.mk
instance:CoeFun JF λ_=>Array ay->ay:=⟨λ_=>.tuple⟩
inductive JE|mk
def au:JE:=.mk
instance:CoeFun JE λ_=>Option Addr->J->J->ay:=⟨λ_=>.slice⟩
inductive JC|mk
def ab:JC:=.mk
instance:CoeFun JC λ_=>Array ay->TypeId->(_:J×J:=(0,0))->Obj:=⟨λ_=>@Obj.cells⟩
inductive Jw|mk
def eo:Jw:=.mk
instance:CoeFun Jw λ_=>Nat->J->cr J->Addr:=⟨λ_=>Addr.mk⟩
inductive JD|mk
def db:JD:=.mk
instance:Coe JD (cr J):=⟨λ_=>none⟩
inductive J0|mk
def ct:J0:=.mk
instance:Coe J0 (a6 ay):=⟨λ_=>#[.slice none 0 0,.slice none 0 0,.bool false]⟩
inductive JW|mk
def z9:JW:=.mk
instance:Coe JW (a6 ay):=⟨λ_=>#[.int .i64 0,.int .i64 0,.int .i64 0,.int .i64 0,.int .i64 0,.int .i64 0,.int .i64 0,.int .i64 0,.int .i64 0]⟩
inductive JV|mk
def z4:JV:=.mk
instance:Coe JV (a6 ay):=⟨λ_=>#[.int .i64 0,.int .i64 0,.int .i64 0,.int .i64 0]⟩
inductive J1|mk
def pX:J1:=.mk
instance:Coe J1 (a6 ay):=⟨λ_=>#[.int .i64 0,.int .i64 0,.int .i64 0,.int .i64 0,.int .i64 0,.int .i64 0,.int .i64 0,.int .i64 0,.int .i64 0,.int .i64 0,.int .i64 0,.int .i64 0]⟩
inductive JX|mk
def oR:JX:=.mk
instance:Coe JX (a6 ay):=⟨λ_=>#[.int .i64 0,.int .i64 0,.int .i64 0,.int .i64 0,.int .i64 0,.int .i64 0,.int .i64 0,.int .i64 0,.int .i64 0,.int .i64 0,.int .i64 0,.bool false]⟩
inductive JY|mk
def cH:JY:=.mk
instance:Coe JY (a6 ay):=⟨λ_=>#[.int .i32 0,.int .i32 0]⟩
inductive JZ|mk
def fc:JZ:=.mk
instance:Coe JZ (a6 ay):=⟨λ_=>#[.int .i32 0,.int .i32 0,.int .i32 0,.int .i32 0]⟩
instance:Coe World Nat:=⟨λw=>w.heap.size⟩
inductive Jy|mk
def aH:Jy:=.mk
instance:Coe Jy (J->ae):=⟨λ_ _=>False⟩
instance:Coe Nat Value:=⟨λb=>.pointer (some ⟨b,0,none⟩)⟩
instance:Coe Bool Value:=⟨.bool⟩
instance:Coe Value Ending:=⟨.returned⟩
def az{c:ae}{h:Decidable c}(g:¬c){α:Sort _}{t e:α}:(if c then t else e)=e:=if_neg g
def aD{c:ae}{h:Decidable c}(g:c){α:Sort _}{t e:α}:(if c then t else e)=t:=if_pos g
def bx{a b:ae}(x:a)(y:b):a/\b:=⟨x,y⟩
def cN[Decidable p](h:¬p):decide p=false:=decide_eq_false h
def dh[Decidable p](h:p):decide p=true:=decide_eq_true h
def dH{P:Program}{fn:Func}{R:Ending->aj->ae}{a:Act}{w:aj}{v:ay}(c:(results fn a.tmps).run P w=.ok v w)(hd:a.defers=[])(b:R (.returned v) w):bodyPost P fn R .ret a w:=bodyPost_ret c hd b
def ir{α:Type _}{a:α}{l:List α}:l[i]?=some a↔∃ h:i<l.length,l[i]=a:=List.getElem?_eq_some_iff
def ep{α:Type _}[BEq α][LawfulBEq α]{a b:α}:(a == b)=false↔a≠b:=beq_eq_false_iff_ne
def cG{α:Type _}{a b:List α}:(a++b).length=a.length+b.length:=uY
def eA{α:Type _}{a:α}{b:List α}:(a :: b).length=b.length+1:=qP
def eh{α:Type _}(a b c:List α):a++b++c=a++(b++c):=append_assoc a b c
def cu{m k:J}(a:n<=m)(b:m<=k):n<=k:=HL a b
def c3(n:J):0<=n:=Nat.zero_le n
def gM(n:J):0+n=n:=vc n
def gb(x:J){y:J}(h:0<y):x%y<y:=Nat.mod_lt x h
def I(h:p:=by omega):p:=h
def a1(h:p:=by intros;omega):p:=h
def aM(h:p:=by simp):p:=h
def b_(h:p:=by simp;omega):p:=h
def bs(h:p:=by decide):p:=h
def bc(h:p:=by kernel_rfl):p:=h
def bu:n<=n:=dm n
def bd(w:aj):ag aH w w:=.refl _ w
def dV:(∀ {α:Type} (l:List α) (i:J) (a:α),l.toArray.setIfInBounds i a=(l.set i a).toArray)/\(∀ {α:Type} {x:α} {xs:List α} {i:J} {a:α},(x :: xs).set (i+1) a=x :: xs.set i a)/\∀ {α:Type} {x:α} {xs:List α} {a:α},(x :: xs).set 0 a=a :: xs:=⟨CG,zr,zs⟩
def gS:(∀ {α:Type} {xs:List α} {i:J},xs.toArray[i]?=xs[i]?)/\(∀ {α:Type} {a:α} {l:List α},(a :: l)[0]?=some a)/\(∀ {α:Type} {a:α} {l:List α} {i:J},(a :: l)[i+1]?=l[i]?)/\∀ {α:Type} {a b:α},(some a).getD b=a:=⟨kC,lA,kB,jH⟩
inductive JK(b k:J)|mk
def ah(b k:J):JK b k:=.mk
instance {b k:J}:CoeOut (JK b k) Addr:=⟨λ_=>⟨b,k,none⟩⟩
inductive JU(b k:J)|mk
def dk(b k:J):JU b k:=.mk
instance {b k:J}:CoeOut (JU b k) (cr Addr):=⟨λ_=>some ⟨b,k,none⟩⟩
inductive JS(b:J)|mk
def bM(b:J):JS b:=.mk
instance {b:J}:CoeOut (JS b) Value:=⟨λ_=>.pointer (some ⟨b,0,none⟩)⟩
inductive JR(b:J)|mk
def bT(b:J):JR b:=.mk
instance {b:J}:CoeOut (JR b) (cr Addr):=⟨λ_=>some ⟨b,0,none⟩⟩
inductive JT(a b c d e f g h:U)|mk
def fi(a b c d e f g h:U):JT a b c d e f g h:=.mk
instance {a b c d e f g h:U}:CoeOut (JT a b c d e f g h) (a6 ay):=⟨λ_=>#[bz a,aa b,aa c,aa d,bz e,aa f,aa g,aa h]⟩
inductive JM(a b c d e f:U)|mk
def cQ(a b c d e f:U):JM a b c d e f:=.mk
instance {a b c d e f:U}:CoeOut (JM a b c d e f) (a6 ay):=⟨λ_=>#[aa a,aa b,aa c,aa d,bf e,bf f]⟩
inductive JP(a b c d e f g h i j:U)|mk
def fU(a b c d e f g h i j:U):JP a b c d e f g h i j:=.mk
instance {a b c d e f g h i j:U}:CoeOut (JP a b c d e f g h i j) (a6 ay):=⟨λ_=>#[af a,af b,af c,af d,aa e,aa f,aa g,aa h,aa i,aa j]⟩
inductive JL(a b c d:U)|mk
def d'(a b c d:U):JL a b c d:=.mk
instance {a b c d:U}:CoeOut (JL a b c d) (a6 ay):=⟨λ_=>#[af a,af b,af c,af d]⟩
def Q2(h:ww:=by
 have H:¬ count<=out.length:=I;have se:IntKind.i64.wrap (count:U)=(count:U):=e0 _ I;by_cases r:(st (s.data.toList.drop k) left).2.2.2=0
 .have⟨x,n,m,ak,q,r',V,L⟩:=aht s.data.toList count out k H t.o (g▸r);rw[<-g]at ak V;rw[ak]at l;have y:=ad (d.out.trans q);have B:k+m<=s.size:=by simpa using L
  have f:=ad l;have F:=ad g;clear ak q r L l g;refine xH;clear f;go_wp2
  go_loopw [8,70] (λv i aF=>∃ j:J,j<=n/\i=aa j/\aF.ownsRow w.heap.size 5 1 v (out++replicate j x).length ((out++replicate j x).map eW)/\Below w w aF)
   (λ_ i _=>n-(intOf i).toNat)
  case atStart=>exact⟨0,c3 _,rfl,by rw[replicate_zero,gq];exact z,⟨al.1,al.2,al.3,al.4,al.5⟩⟩
  case round=>
   clear c z al;obtain⟨j,l',rfl,c,al⟩:=hrel;have sd:(out++replicate j x).length=out.length+j:=aM;have m':out.length+n<=count:=by have:=F.o;omega
   generalize G:out++replicate j x=S at *;have E:=ad G;clear G;by_cases mv:j<n
   .go_wp2_with (at_builtin;refine uV _ rfl (.tmp 72) (.tmp 74) 51 rfl w.heap.size 5 i0 (bf 0) 1 1 underlying51 av X Y Z rfl bs _ _ _ rfl (c.alloc _) (ah wr 0) 1 1 [bf (x.toNat:U)] rfl rfl (sa _ _ _) p7 k6 I H3 ?_);intro v' aq D K _;have T:Below w w aq:=(al.alloc al.size _).grown K HW (λk e=>((c.alloc (ab #[bf (x.toNat:U)] 5)).lt k e).1);have W:=adL x I D rfl;clear D K c;go_wp2;go_roundw
    case rel=>exact⟨j+1,I,cT,by rw[HH,<-eh,E.o];exact W,T⟩
    case measure=>simp[intOf];omega
   .obtain rfl:j=n:=I;go_wp2;go_roundw
    case rel=>exact⟨k+m,S,cT,B,I,y.o.trans (by rw[E.o]),c,al⟩
    case measure=>
     have B:=adK c;have ps:=F.o;simp[Gu]at B⊢;omega
 .have q:=ahr s.data.toList count out k H t.o (g▸r);rw[<-g]at q;have y:=ad (d.out.trans q);have A:((st (s.data.toList.drop k) left).2.2.2 == 0)=false:=by rw[ep];exact r
  have f:=ad l;clear q r l g;refine xH;clear f;go_wp2;go_ret3;exact FY y.o ⟨al.1,al.2,al.3,al.4,al.5⟩):=h
def vi(h:ww:=by
 refine DK
 repeat (go_big_quiet_step (first|(go_at_call 345;first|(with_reducible exact Calls.ko (h1 _))|(with_reducible exact Calls.ko (h2 _))|(with_reducible exact Calls.ko (a _))|(with_reducible exact Calls.ko (d _))|(with_reducible exact Calls.ko (g _))|(with_reducible exact Calls.ko (i _)))|(go_at_call 359;exact Calls.kn (E5 _))|(go_at_call 353;exact Calls.kn (j _))))
 exact RD):=h
def zM(h:ww:=by
 obtain⟨G,B⟩:∃ G:aj->ae,∀ W,G W↔i_ (bO b s d++aC.out o v sd m cs :: aC.dn (au (bT r) l.length cap) l :: R) bD (cq.mk bq cL eC pl) W:=⟨_,λ_=>Iff.rfl⟩;have g':∀ t:bA G,t.to.cell? (ah b.p 3)=some (bM b.gT):=λt=>aal ((B _).1 t.held).sep;have hd:∀ t:bA G,t.to.cell? (ah b.p 4)=some (bM b.e7):=λt=>LZ ((B _).1 t.held).sep;have gf:=λx:bA G=>aX (((B _).1 x.held).box);have M:∀ W,(∃ t:bA G,W=t.to)->(Instr.loadAt 45 (.pointer (dk bD 1))).run prog W=.ok (.agg (cU cL)) W:=λW ⟨t,aW⟩=>by
  rw[aW];exact acE ((B _).1 t.held).box
 generalize ?_=O;exact O):=h
def V8(h:ww:=by
 have n:=run_endRound (P:=P) none (hk.heap H o.2);have l':({({rec .ready with state:=.busy}:Loop)with state:=if (none:cr Code).isNone=true then .ready else .done,pending:=none})=rec .ready:=by rw[c];rfl
 rw[l']at n;have mv:ag (λk=>d k\/k=w.heap.size\/k=w.heap.size+1) B (B.putObj (w.heap.size+1) (.loop (rec .ready))):=(ag.refl _ B).putObj (.inr (.inr rfl)) _;have h2:=cu tv hk.size;refine⟨_,_,n,rfl,⟨f _ _ _ G I mv,World.putObj_heap_same I,(World.putObj_heap_other I).trans (hk.heap ((World.putObj_heap_other I).trans hd) o.1),by simpa using h2⟩,?_⟩;generalize ?_=u;exact u):=h
def ajC {p:ae} (h:p:=by
 refine I8;have l:ag aH w aq:=ag.bU i a1;have h1:=H.o.keeps l id;have bP:aq.cell? (ah r 1)=some (.bool x.bad):=bb h1 rfl;rw[n.o]at bP;have f1:=bV h1;have q:=a.o aq h1;have y:=ad q;have z:=ad h1;clear q i h1;refine aK;refine y.o.mono ?_;rintro e aF ⟨rfl,h2,hk⟩;have m:ag (λb=>b=r) aq aF:=((ag.refl (λb=>b=r) aq).setCell (p:=ah r 1) rfl _).trans hk;have u:=b7 ar m (λb al e=>by have:=(ar.lt b al).1;omega);have t:=(mr (S:=λb=>b=r) l).trans m;clear ar hk m l;generalize ?_=O;exact O
 ):p:=h
def WN(h:ww:=by
 refine cg;refine Um;go_quiet (fail);go_wp2_with fail
 all_goals try (exfalso;omega)
 rename_i d _ _;have b:=(((bd w).alloc (ab (fV m a c) 254)).alloc (ab (aU bY.zero none 0) 199)).drewN (d+nq);have j:(((w.alloc (ab (fV m a c) 254)).alloc (ab (aU bY.zero none 0) 199)).drewN (d+nq)).heap[w.heap.size+1]?=some (ab (aU bY.zero none 0) 199 (0,0)):=by
  exact TY
 have g:=fN _ _ _ _ (hE j rfl (aa 0) (aa 0) (au none 0 0) (aa 0) (bz 0) (aa 0)) 6 rfl;simp only[aU,bY.zero,gN]at g;refine dH (v:=aV #[.agg (aU bY.zero none 0),false]) QZ rfl ?_;exact⟨⟨none,0,rfl,ql _,λ_ e=>nomatch e⟩,H.o.keeps (tY b (va _) _ _ _ _ _ _) (λ_ _ h=>h),(tY b (va _) _ _ _ _ _ _).mono λ_ _ h=>h.elim⟩):=h
def H8(h:ww:=by
 refine DK
 repeat (go_big_quiet_step (first|(go_at_call 345;first|(with_reducible exact Calls.ko (h1 _))|(with_reducible exact Calls.ko (h2 _)))|(go_at_call 354;exact Calls.kn (A3 _))|(go_at_call 353;exact Calls.kn (d _))))
 exact RD):=h
def H9 {p:ae} (h:p:=by
 rintro e w' ⟨rfl,h2⟩;rw[qS];refine⟨h2,?_⟩;rcases idxByFrom_spec (λ_ y=>p y) default xs 0 with⟨d,f⟩|⟨l,k,d,aW,f⟩
 .refine .inl ⟨by unfold Lib.idxBy;rw[d],λx ak=>?_⟩;obtain⟨t,aW,rfl⟩:=zo.1 ak
  have:=f t aW
  rwa [l9 xs t aW]at this
 .refine .inr ⟨l,k,by unfold Lib.idxBy;rw[d,gM],by rwa [l9 xs l k]at aW,λj a q=>?_⟩
  have:=f j q
  rwa [l9 xs j a]at this
 ):p:=h
def RX(h:ww:=by have hne:Nonempty (bA (G)):=⟨⟨_,a⟩⟩;refine B1 (G) (a) [0,1,2,3,4,7,8,9,10] [5,6,11,12,13,14] 3 rfl #[true,true,true,true,true,true,true,true,true,true,true,true,true,true,true,false,false,false] bc bc (λ_ _ _ d _ h=>zz) ?_;refine Dg;refine kr (oy (a)) ?_;refine DU;refine bJ (q.o _) ?_;refine E _ _ (oy (a)) ?_;refine DU;refine bJ (s.o _) ?_;refine E _ _ (oy (a)) ?_;refine kr (oy (a)) ?_;refine kr (oy (a)) ?_;refine qq (oy (A)) ?_;refine cJ (λ_=>True) [15,16,17] 0 3 ?_;generalize ?_=O;exact O):=h
def R8(h:ww:=by have q:=b2 (aP w (ab (fU 0 0 0 0 0 0 0 0 0 0) 93)) (ab (fU 0 0 0 0 0 0 0 0 0 0) 93);have c:=aP (w.alloc (ab (fU 0 0 0 0 0 0 0 0 0 0) 93)) (ab (fU 0 0 0 0 0 0 0 0 0 0) 93);rw[ft]at c;obtain⟨f,_,i⟩:=dT _ 93 10 (w.heap.size+1) (fm (-2097152) 0) _ sizeOf93 rfl rfl c (yg _ _);have b:=fb _ (w.heap.size+1) _ (fm (-2097152) 0) 93 c;have d:=i.heap q I;have g:=(((ag.refl (λj=>j=w.heap.size\/j=w.heap.size+1) w).alloc (ab (fU 0 0 0 0 0 0 0 0 0 0) 93)).alloc (ab (fU 0 0 0 0 0 0 0 0 0 0) 93)).trans (i.mono λ_ _ e=>.inr e);clear q c i;generalize World.setRow _ _ _=aq at *;unfold fm at f;generalize ?_=t;exact t):=h
def Sg(h:ww:=by obtain⟨R,zd,ys,Z⟩:=c.ld.put e he vs.o;have v':=Z.heap c.bD (λe=>qC c.ld.bl _ _ _ (e▸c.bD));have zp:=Z.heap c.rs (λe=>qC c.ld.bl _ _ _ (e▸c.rs));have Q':=(c.bF.mono (T:=λj=>j=B.dM) (λ_ _ x=>x.elim)).trans Z;have m:=bN ys (bx v' (bx zp Q'));clear c ys Z v' zp Q';refine cS 8 ?_;refine rq (λ_=>False) (.range 7) [] 1 ?_;refine S4;refine cJ (λ_=>True) [7] 0 1 ?_;refine pE 7 trivial (Qb rfl rfl rfl rfl zd) ?_;refine p';clear bR bI M zd;have le:=lo (e:=e) m.o.2.1;generalize ?_=O;exact O):=h
def SC(h:ww:=by obtain⟨u,y,K,_,_⟩:=dA (lM a).2;rw[K]at a;obtain⟨z,G⟩:=c8 i.2.length;rw[<-G]at a;clear K G;have E:=(lM a).1;have L:=a.at' 10 rfl;have d0:=aX E;refine Tl;have Q:=ad (aan a (ln l w.heap.size (au u z y) (au none 0 0) (.bool false)));clear a E L;refine zW;refine dj (v:=aG #[au u z y,(au none 0 0),false]) P ?_;rw[S.o];exact⟨_,rfl,f,Q.o⟩):=h
def SN(h:ww:=by
 have D:ys=xs:=by rw[aj2.o,aD I]
 subst D;have f0:=bV T.o.rs;have z0:=aX T.o.rs;have aj1:=x8 T.o.rs (aa 0) (aa 0) (aa 0) (aa 0);refine RQ;refine dj (v:=aV #[aG z4,aa 8]) Tq ?_;exact⟨⟨⟨0,0,0,0⟩,8,rfl⟩,_,T.o.kd.keep S.o (by have:=vl.o;omega) (λj q e=>by have:=gf.o j q;omega),c1 (T.o.bF.mono λ_ _ e=>e.elim) S.o a1,.inl rfl⟩):=h
def S0(h:ww:=by refine SD;refine cS 16 ?_;refine cJ (G) (.range 16) 0 16 ?_;refine dN (b) (.range 11) 5 ?_;refine vr;refine eK 11 λK E=>?_;refine UH;refine dN (B) [12,13,14,15] 0 ?_;refine pA ?_;have bK:=bH.trans (ag.bU (S:=aH) d a1);have a:=iQ.o.trans (bK.below iQ.o.size (λ_ _ e=>e));refine aK;generalize ?_=O;exact O):=h
def S'(h:ww:=by
 refine cg;refine c.o.mono ?_;rintro r aF ⟨⟨k,ca,rfl⟩,s,q,m,b⟩;have h2:fl aF bt g bj v fr ys:=⟨m.heap H.o.bh (λe=>e.elim H.o.ne l.o),⟨s,q,λe=>by
  rcases b with b|⟨j,t,b⟩
  .exact l.o (by rw[<-b,e])
  .rw[b]at e;cases e;have:=bZ H.o.bh;omega⟩,H.o.ne,H.o.rn,H.o.wD⟩
 have bK:=m.mono (T:=λj=>bt<=j) (λj _ e=>e.elim (λe=>by rw[e];exact H.o.wD) (λe=>(n.o j e).1));go_wp2;go_end0;exact⟨rfl,h2,bK⟩):=h
def Tg(h:ww:=by
 obtain⟨ajW,m,C⟩:=B.o.row (s3 k (fp (24+k*6) v)) _ hk rfl (Gm _ hk);rw[aaM]at C;rw[aaN]at m;obtain⟨ajX,bK,s,n,u⟩:=C.ret;have K:=bN n u;clear C n u;go_wp2_with first|((with_reducible refine c' m rfl rfl ?_ ?_ ?_);exact rfl;exact rfl)|((with_reducible refine dg bK rfl rfl ?_ ?_);exact rfl)|((with_reducible refine c' s rfl rfl ?_ ?_ ?_);exact rfl;exact rfl)
 refine dj (v:=aV #[.agg (aQ (fp (24+k*6) v)),l]) K.o.1 ?_;exact Wl):=h
def Tk {p:ae} (h:p:=by
 have d:=ahU t k I;have y:(raw p (t.data.toList.take k)).2+((raw p (t.data.toList.take k)).1+(t[k].toNat:U))<=4294690200:=by
  have:=(N0 p (t.data.toList.take (k+1)) c b_).2.2
  rwa [d,FT]at this
 have f:=ad d;clear d;have x:(0:U)<=(t[k].toNat:U)/\(t[k].toNat:U)<=255:=by have:=t[k].toNat_lt;omega
 go_wp2
 go_round
 case rel=>exact⟨k+1,I,cT,by rw[f.o,FT];rfl,by rw[f.o,FT];rfl⟩
 case measure=>simp[intOf];omega
 ):p:=h
def Tm(h:ww:=by
 by_cases h2:f<first+size
 .have j:1073741824<f:=I;have b:f-first<size:=I
  exact RZ
 .have b:(size:U)<=f-first:=I
  exact RZ):=h
def Tv(h:ww:=by refine xK;go_wp2_with (at_builtin;refine uV _ rfl (.tmp 14) (.tmp 20) _ rfl base 5 y (bf 0) 1 1 underlying51 m.o q s u rfl bs _ (n+1) _ rfl (r.alloc _) (ah wr 0) 1 1 [bf _] rfl rfl (sa _ _ _) p7 k6 I zC ?_);refine C';generalize ?_=O;exact O):=h
def TG(h:ww:=by refine cS 20 ?_;have hne:Nonempty (bA ((λW=>Sep W i))):=⟨⟨_,j⟩⟩;refine B1 ((λW=>Sep W i)) (j) [0,1,2,3,4,5,6,7,8,9,10,12,13,14,15,16] [11,17] 2 rfl #[true,true,true,true,true,true,true,true,true,true,true,true,true,true,true,true,true,true,false,false] bc bc (λ_ _ _ d _ h=>zz) ?_;refine Dg;generalize ?_=O;exact O):=h
def vj(h:ww:=by
 refine DK
 repeat (go_big_quiet_step (first|(go_at_call 265;exact Calls.kn (PZ m a c _))|(go_at_call 264;exact Calls.kn (j.o _))|(go_at_call 266;exact Calls.ko (i.o _))))
 refine I7;go_wp2_with fail
 all_goals
  go_ret;exact⟨afj f.o,((b9 _ w).alloc bu _).trans (x.below.mono aM)⟩):=h
def It(h:ww:=by have z:=nC.fin (g.o) H.o (aa ((⟨0,0,[],0,0,0⟩:bY)).kind) (aa ((⟨0,0,[],0,0,0⟩:bY)).e8) (.slice none ((⟨0,0,[],0,0,0⟩:bY)).bm.length 0) (aa ((⟨0,0,[],0,0,0⟩:bY)).frame) (bz ((⟨0,0,[],0,0,0⟩:bY)).sum) (aa ((⟨0,0,[],0,0,0⟩:bY)).lead);refine S3;generalize ?_=O;exact O):=h
def Iu(h:ww:=by
 refine cg;refine(j.o _).mono ?_;refine mN;refine Uo;go_wp2_with fail
 all_goals try (exfalso;omega)
 refine vn;exact Wn):=h
def Iv(h:ww:=by
 refine vk
 repeat (go_big_quiet_step ((first|(with_reducible exact(h1 _).mono λ_ _ h=>⟨h.1,_,h.2.symm⟩)|(with_reducible exact(h2 _).mono λ_ _ h=>⟨h.1,_,h.2.symm⟩))))
 refine vm;refine aK;generalize ?_=O;exact O):=h
def UB(h:ww:=by refine Da;refine Us;clear g' hd gf M S;refine cJ (λ_=>True) [8] 0 1 ?_;refine mz 8 λK z=>?_;refine Ic;generalize ?_=O;exact O):=h
def UJ(h:ww:=by
 have F:k<T.data.toList.length:=by simpa using d
 have yu:aF.cell? (ah aq (0+k))=some (bf (T.data.toList[k]).toNat):=by rw[gM];exact l.o k d
 have Q:aF.cell? (ah aq k)=some (bf (T.data.toList[k]).toNat):=l.o k d;have j:j8 (T.data.toList.take (k+1))=j8 (T.data.toList.take k)*256+(T.data.toList[k]).toNat:=by rw[l7 F,Kz]
 have i:=Ky k (T.data.toList.take k) b_;generalize ?_=O;exact O):=h
def UU(h:ww:=by go_wp2_with (at_builtin;refine uV _ rfl (.tmp 14) (.tmp 20) _ rfl base 5 y (bf 0) 1 1 underlying51 m.o q s u rfl bs _ (n+0) _ rfl (r.alloc _) (ah wr 0) 1 1 [bf _] rfl rfl (sa _ _ _) p7 k6 I zC ?_);refine C';generalize ?_=O;exact O):=h
def U4(h:ww:=by have H:=ad s;clear C s m';refine cS 8 ?_;refine cJ G (.range 6) 2 6 ?_;refine dN V (.range 4) 2 ?_;generalize wc.drew=P at *;refine wI 4 (fr.o.1 _) λakV g'=>⟨u.o _ _ V g',?_⟩;have v':=u.o _ _ V g';refine jh 5 λK q=>?_;go_simp;refine aS (fr.o.2 _) λakW lb=>?_;have vl:=u.o _ _ v' lb;refine q _ _ vl ?_;have C:=(H.o _).1 vl;refine sl;generalize ?_=O;exact O):=h
def U5(h:ww:=by
 subst h;by_cases h1:0<a
 .rw[show lK a 0=2147483647 by unfold lK;rw[az I,aD h1]];exact er
 .by_cases h2:a<0
  .rw[show lK a 0=-2147483648 by unfold lK;rw[az I,az h1,aD h2]];exact er
  .rw[show lK a 0=0 by unfold lK;rw[az I,az h1,az h2]];exact er):=h
def U6(h:ww:=by rintro e a3 B ⟨rfl,hk,G⟩;have H:(cV.putObj (w.heap.size+1) (.loop {rec .ready with state:=.busy})).heap[w.heap.size+1]?=some (.loop {rec .ready with state:=.busy}):=World.putObj_heap_same I;refine V8;exact(((r.mono λ_ _=>.inl).putObj (S:=λk=>i k\/k=w.heap.size+1) (.inr rfl) _).trans (hk.mono λ_ _=>.inl)).putObj (.inr rfl) _):=h
def U7(h:ww:=by
 refine Dk;have c:B<w.heap.size:=oT w (ah B 0) a;have hd:(e.k.fr != f)=decide (e.k.fr≠f):=by by_cases h:e.k.fr=f<;>simp[h]
 have b:=ad hd;refine cg;generalize w.alloc (ab e 45)=aq at *;go_ret;exact⟨by rw[<-b.o];rfl,cp⟩):=h
def U_(h:ww:=by have D:=ad (λv W=>mU.put (v:=v) (W':=W) al b (az aW));have Q:=bN ar (bx al aw);clear ar b al aw q;refine aK;refine aS r.o λse T=>?_;have⟨ar,al,aw⟩:=Q.o;have q:=cu G al.size;have ar:=b7 ar (ag.bU (S:=aH) T a1) (λ_ _=>id);have K:=T.mono q;have q:=cu q T.size;have⟨i0,av,fr,gf,g'⟩:=pY yq;have fo:=ad av;generalize ?_=O;exact O):=h
def Vc(h:ww:=by refine Sm;have q:=ad (bx c (bx fr fo));exact R5):=h
def Vk(h:ww:=by refine Sp;have g':=ad (((cy.drop (L:=[]) c (ln l (w.heap.size+1) (au none 0 0) (au none 0 0) (.bool false))).drop (L:=[]) (ag.refl (λj=>j=w) _)).void);refine zW;generalize ?_=O;exact O):=h
def VG(h:ww:=by refine vp;clear h B aw;refine RL;clear h1 al;exact Vn):=h
def VR(h:ww:=by
 go_in
 refine DQ;refine aK;refine jE 8 bc bc ?_;refine vk
 repeat (go_big_quiet_step ((go_at_call 262;exact(d.o _).mono λ_ _ h=>⟨h.1,_,h.2.symm⟩)))
 refine vm;refine aK;generalize ?_=O;exact O):=h
def V2(h:ww:=by
 have f:=(((b9 w.heap.size w).alloc bu (ab #[af a,af b] 91)).alloc aM (ab #[af c,af d] 91)).alloc b_ (ab cH 91);refine⟨rfl,k1 (k1 ?_ ?_ _) ?_ _⟩
 .exact vo
 all_goals show w.heap.size<=w.heap.size+1+1
 all_goals omega):=h
def V4(h:ww:=by
 refine cg;refine bJ (y5 x ak w) ?_;refine aK;refine bJ (y5 y a8 w) ?_;refine aK;refine bJ (y5 r b w) ?_;refine aK;go_ret
 first|exact⟨rfl,rfl⟩|(refine⟨?_,rfl⟩;show Ending.returned (Value.bool (decide _))=_;rw[cN (show ¬ (x*x+y*y<=r*r)by omega)])):=h
def V6(h:ww:=by rw[j]at a⊢;clear i;exact WD):=h
def V7(h:ww:=by
 refine RM;go_wp2_with fail
 all_goals
  go_ret;exact⟨aM,cp.trans (x.below.mono cp.size)⟩):=h
def V9(h:ww:=by refine RI;rw[AN,show(left:U)=(count:U)-(out.length:U)by omega]at l;exact Q2):=h
def Wc(h:ww:=by obtain⟨r,rfl⟩:=nR T I;have D:=rJ (P:=prog) (enc:=cq.bC) (λ_=>rfl) isAgg47 sizeOf47 T pre.length ys;rw[X]at D;have D:(Instr.loadAt 47 (.pointer (dk r (pre.length*12)))).run prog wr=.ok (.agg (dL c)) wr:=D;have e2:=F9 wr;obtain⟨a,N,V,Y,zd⟩:=Ec wr c;generalize ?_=O;exact O):=h
def Wj {p:ae} (h:p:=by
 have⟨S,h,a⟩:=h;have b:=c6 length (LN a.eV first size (λp ao=>⟨(a.ik p ao).1,(a.ik p ao).2.1⟩));rw[iP]at b;refine⟨?_,h.pos,h.most,h.fst,bZ h.head,bZ h.body,h.ne⟩;rw[<-b];exact Je
 ):p:=h
def Wr(h:ww:=by refine T8;have A:=ad (bx V Y);clear f s L Q Z N V Y D;obtain⟨y,a8⟩:∃ y,y=xs[j]:=⟨_,rfl⟩;rw[<-a8]at m d E M;have X:=ad M;have R:=ad a8;clear a8 M;generalize ?_=O;exact O):=h
def Ws(h:ww:=by
 refine jE 20 bc bc ?_;refine vk
 repeat (go_big_quiet_step ((go_at_call 75;exact(Yi _ _ _).mono λ_ _ h=>⟨h.1,_,h.2.symm⟩)))
 refine vm;refine aK;generalize ?_=O;exact O):=h
def Wt(h:ww:=by refine aK;refine cS 14 ?_;refine cJ (G) (.range 12) 2 12 ?_;refine dN (se) (.range 11) 1 ?_;refine jh 11 λK s'=>?_;go_simp;refine aS (V.o _) λaq vl=>?_;have m:=l.keep (ag.bU vl a1);refine s' _ _ ((c _).2 m) ?_;have bw:=aX m.g;have f0:=bV m.g;generalize ?_=O;exact O):=h
def Wu(h:ww:=by
 refine pz (q) (.range 10) 3 λhne=>?_
 repeat (first|(refine ai9 G rfl rfl rfl rfl ?_;simp only[Act.put,dV])|go_big_quiet_step (fail))
 refine wpQuiet_nil ?_;clear hne;refine sT 10 gf (ta rfl e2) ?_;refine sT 11 c (l3 rfl rfl rfl g') ?_;refine p';refine iV 12 c ?_;generalize ?_=O;exact O):=h
def Wv(h:ww:=by rw[cN aW];have a7:=ad (aaG aA.rd 4 I aA.max);refine H';have V:=i.o.get hk d (take_size 4 q.2);refine DW;generalize ?_=O;exact O):=h
def Ww(h:ww:=by rw[cN aW];have a7:=ad (E4 aA.rd 2 I aA.max);refine H';have V:=i.o.get hk d (take_size 2 q.2);refine DW;generalize ?_=O;exact O):=h
def Wx(h:ww:=by have vs:=bZ aT;clear a7 aT hm aA aW h;refine W5;clear al C;generalize ?_=O;exact O):=h
def Wz {p:ae} (h:p:=by
 refine T9;have Q:∀ s',({M with p:=b' M.p k s'}:fj).p (1-k)=M.p (1-k):=λs'=>jD _ _ R;have a:∀ s',({M with p:=b' M.p k s'}:fj).p k=s':=λs'=>ky _ _ _;generalize ?_=O;exact O
 ):p:=h
def DZ(h:ww:=by
 refine aK;go_roundw
 case rel=>exact⟨k+1,I,cT,u,y,b.drew q,by rw[x.o];exact A _ _ _ s ((ag.refl _ wr).drewN q),z⟩
 case measure=>simp[intOf];omega):=h
def Jp(h:ww:=by have cB:=ax.fZ ar 2 I;have eS:World.cell? _ (ah g (o+2+1))=_:=ax.fZ ar 3 I;have f2:=ax.st.free (o+2);have f3:=ax.st.free (o+2+1);have m:=ax.lim.fix ar 2 I;have n:=ax.lim.fix ar 3 I;generalize ?_=O;exact O):=h
def Jq(h:ww:=by refine cg;refine(KU _ _).mono ?_;refine tB;refine(KU _ _).mono ?_;exact VF):=h
def WA(h:ww:=by
 simp only[lW];by_cases bP:dK a.fr b.fr=0
 .rw[aD bP];by_cases bB:dK a.em b.em=0
  .rw[aD bB];by_cases e3:dK a.bq b.bq=0
   .rw[aD e3];by_cases e4:dK a.cv b.cv=0
    .rw[aD e4];omega
    .rw[az e4];omega
   .rw[az e3];omega
  .rw[az bB];omega
 .rw[az bP];omega):=h
def WB(h:ww:=by refine Ir;clear B Q T g';have b5:=ad (ja.lY (f.o.2.2.1.trans (bd br).drew) (ja.same f.o.1 (ag.refl _ _)));exact tz):=h
def WC(h:ww:=by
 refine c.o.mono ?_;rintro e aF ⟨al,f⟩;have hk:=a.trans (ag.bU (S:=aH) al a1);rcases f with⟨rfl,_⟩|⟨i,av,rfl,_⟩
 .clear al;refine fB;exact⟨hk,.inl rfl⟩
 .clear al;refine fB;exact⟨hk,.inr ⟨i,av,rfl⟩⟩):=h
def WD {p:ae} (h:p:=by
 refine cg;refine l.o.mono ?_;rintro e aq ⟨rfl,rfl⟩;refine aK;refine a.o.mono ?_;rintro e aF ⟨rfl,h2,hk⟩;refine aK;go_ret;exact⟨rfl,h2,((ag.refl (λb=>b=r) w).setCell (p:=ah r 1) rfl _).trans hk⟩
 ):p:=h
def WE(h:ww:=by refine aK;have K:=aX (Aw i.o.res (aa 0) (bz 0) (c7 0) (c7 0) (au none 0 0) (bz 0) (aa 0));refine Uy;exact sz.zero (BS i.o.below _ _ _ _ _ _ _) 4):=h
def WG(h:ww:=by
 by_cases h1:a<=n
 .by_cases h2:n<=b
  .exact Wg
  .refine kF;exact⟨by simp[h2],rfl⟩
 .refine kF;exact⟨by rw[show decide (a<=n)=false by simpa using h1];simp,rfl⟩):=h
def WH(h:ww:=by rintro w' ⟨j,hk⟩;refine aK;go_ret;exact⟨rfl,(H.o.drew _).FG j hk rfl rfl rfl,((ag.refl _ w).drewN _).trans (hk.mono λb _ h=>h.elim (λe=>.inr (.inr (.inr (.inl e)))) (λe=>.inr (.inr (.inr (.inr e)))))⟩):=h
def WI(h:ww:=by refine⟨a,a7,λf x ak=>?_⟩;rw[<-ny,an,h1,eh,eh,l6 I,h2,xi,jF (by exact((mI.1 ak).1))];rw[ny];exact ak):=h
def WJ(h:ww:=by have N:=bN ps (bx (fO.heap B.bD (by have:=T.o;omega)) s');clear l' B vl ps fO s';refine aK;refine Ur;refine iV 6 trivial ?_;clear bw f0 bR;refine aK;generalize ?_=O;exact O):=h
def WL(h:ww:=by
 go_in
 go_wp2_with (first|(refine eL i rfl rfl ?_)|(refine eL f rfl rfl ?_)|(refine dg k rfl rfl rfl ?_)|(refine c' m rfl rfl rfl rfl ?_));refine dj (v:=aV #[.agg (bG ba.zero),false]) l ?_;exact⟨rfl,j⟩):=h
def WM(h:ww:=by refine cg;refine(Lm _ _ _ _ _ a.bm b.bm j.out k.out).mono ?_;exact Sa):=h
def WO(h:ww:=by refine dH (v:=aV #[.agg (aU (⟨0,0,[],0,0,0⟩:bY) none 0),false]) zE rfl ?_;exact sg):=h
def WQ(h:ww:=by refine Sc;refine Di;refine bJ (d.o _) ?_;generalize ?_=O;exact O):=h
def WR(h:ww:=by
 refine aK;go_roundw
 case rel=>exact⟨k+1,I,cT,u,y,b.drew q,by rw[x.o,az (by have:=D.o;simp;omega),gq];exact A _ _ _ s ((ag.refl _ wr).drewN q),z⟩
 case measure=>simp[intOf];omega):=h
def WS(h:ww:=by
 go_in
 go_wp2_with first|refine eL A rfl rfl ?_|refine eL u rfl rfl ?_
 refine aS z.out ?_;rintro aF ⟨q,s⟩;have c:ag aH aq aF:=by rw[s];exact(ag.refl _ _).drewN q
 have a:=y.o.keeps c;have s1:=(t.o.keeps c id id).has ax;generalize ?_=O;exact O):=h
def WT(h:ww:=by refine xO;clear a7;obtain⟨ps,rfl⟩:=nR f.rx I;have m':=rJ (P:=prog) (enc:=aE.bC) (λ_=>rfl) isAgg45 sizeOf45 f.rx pre.length ajR;rw[l]at m';have R:=uk wr;obtain⟨t,V,lb,l',akh⟩:=x9 wr e;generalize ?_=O;exact O):=h
def WV(h:ww:=by refine U2;have z:=ad (bx l' (bx H G));exact TQ):=h
def WW(h:ww:=by have b:=r.heap b o.2;have hd:=r.heap hd o.1;have aw:=cu aw r.size;have fO:ag (λk=>k=w.heap.size\/k=w.heap.size+1) cV (cV.putObj (w.heap.size+1) (.loop {rec .ready with state:=.busy})):=(ag.refl _ cV).putObj (.inr rfl) _;generalize ?_=u;exact u):=h
def WY(h:ww:=by refine aK;refine d.o.mono ?_;rintro r aF ⟨l',D,ca,rfl,m⟩;have H:=ad (m.lY ((b9 w.heap.size w).alloc bu _));refine aK;go_ret;exact⟨_,rfl,H.o.more ((bd aF).alloc _)⟩):=h
def WZ(h:ww:=by
 refine aK;go_roundw
 case rel=>exact⟨k+1,I,cT,u,y,b.drew q,by rw[x.o,Bool.and_false,az aM,gq];exact A _ _ _ s ((ag.refl _ wr).drewN q),z⟩
 case measure=>simp[intOf];omega):=h
def W0(h:ww:=by refine Ua;have⟨l,j,i⟩:=dT aF 99 60 w.heap.size (aQ (ki aN 0)) _ sizeOf99 (dX _) (dX _) g (fJ.2 (oD _));generalize ?_=O;exact O):=h
def W1(h:ww:=by have D:(w.alloc (ab a 45)).heap.size=w.heap.size+1:=aM;have e:=b2 (aP w (ab a 45)) (ab b 45);have c:=aP (w.alloc (ab a 45)) (ab b 45);refine U1;generalize ?_=O;exact O):=h
def W3(h:ww:=by refine SA;have z:=ad (bx d (bx H G));clear T t d H G;refine aK;generalize ?_=O;exact O):=h
def W4(h:ww:=by
 have t:∀ j,(λj=>j=w.heap.size+1) j->so R B j:=λj V=>by
  cases V;exact(m.o.1).free (m.o.2.2.1) bs bs
 have u:=(m.o.1).keep l t;have y:=c1 (m.o.2.2.2) l a1;have L:=bN u y;clear u y l t;generalize ?_=O;exact O):=h
def W5(h:ww:=by refine Dz;rintro e aq ⟨al,h1⟩;have G:ag (λj=>(au (bT r) xs.length cap).ownBlock=some j) w aq:=ag.bU al a1;have H:=b7 ps.o (ag.bU (S:=aH) al a1) (λ_ _=>id);generalize ?_=O;exact O):=h
def W6(h:ww:=by obtain rfl:q=xs.length:=I;refine sm;have h2:=a.trans (((bd wr).drewN nq).below a.size (λ_ _ e=>e));refine aK;go_ret2;exact⟨by rw[c];rfl,h2⟩):=h
def W7(h:ww:=by generalize l.own.length=r at *;refine SY;refine aS (j.o _) ?_;rintro w' ⟨k,hk⟩;refine fB;generalize ?_=O;exact O):=h
def Q3(h:ww:=by
 go_wp2_with first|refine dg m rfl rfl rfl ?_|refine c' bK rfl rfl rfl rfl ?_
 refine dj (v:=aV #[.agg (aQ (dJ k v)),l]) K.o.1 ?_;exact Wl):=h
def Ro(h:ww:=by
 rcases CE f with f|rfl
 .exact h.off r f a
 .rcases a with a|a
  .exact aw (.inl a)
  .rcases g _ a with e|e
   .exact aw (.inr e)
   .have:=h.lt;omega):=h
def Ry(h:ww:=by
 have m:=(n4.1 l).1;refine IS;have w:j<n:=by
  rcases CJ j n with h|h
  .exact h
  .exact absurd g (tail_waits aA an aw inv _ i rfl K m j h)
 refine⟨w,?_⟩;generalize ?_=t;exact t):=h
def RA(h:ww:=by
 by_cases h1:1<=x
 .by_cases h2:x<=4096
  .exact xC
  .exact xC
 .exact xC):=h
def RB(h:ww:=by refine aS (acx g.o.aJ _ bg) ?_;rintro V ⟨L,G⟩;have ax:=g.o.next H.o Q L G;refine S8;generalize ?_=O;exact O):=h
def RC(h:ww:=by refine cg;generalize World.alloc (World.alloc w _) _=bo at *;refine aS (q.o _) λaq h1=>?_;have c:=b2 ((ag.bU (S:=aH) (h1.mono (dm _)) a1).heap t id) (ab #[af x,af y] 91);generalize ?_=O;exact O):=h
def RD(h:ww:=by refine wpQuiet_nil ?_;intro _ b;obtain⟨cB,c⟩:=b;subst c;refine aK;go_ret;exact⟨by first|rfl|simp_all,(((b9 _ w).alloc bu _).trans (cB.below.mono aM))⟩):=h
def RE(h:ww:=by refine IK;generalize World.alloc (World.alloc w _) _=aq at *;refine aS T'.o λaF al=>?_;refine sj;have h2:=B.o.1.keep R;generalize ?_=O;exact O):=h
def RF(h:ww:=by
 have aA:=uE a;have g:(ec m).length=(dW m).size:=by simp[dW,ByteArray.size]
 have⟨r,_,ao⟩:=PD x (ec m).length I I;have av:jC x (ec m).length<(ec m).length:=by
  rcases ao with h|h<;>exact h.2.2
 generalize ?_=d;exact d):=h
def RG {p:ae} (h:p:=by
 rename_i an;have m:p.1.ld.aO<dx p.1.x:=I;have⟨h1,h2,b,k,l⟩:=h.hr aw m p.2;have e:j4 (Go.Proofs.YtalagblioepadaaGreatDoor.hr p).1 bk us:=by
  unfold j4 b1 at *;rw[h2];exact aw
 generalize ?_=A;exact A
 ):p:=h
def RI(h:ww:=by
 go_wp2;go_quiet (fail);have⟨left,g⟩:=c8 (count-out.length);have a':(s.extract k s.size).size<=maxLen:=by simp;unfold maxLen;omega
 have l:=adS (s.extract k s.size) a' left I (wr.drewN nq);generalize ?_=O;exact O):=h
def RK(h:ww:=by unfold qG;generalize rP (dE a k) (dE b k) m=i at *;generalize rQ (dE a k) (dE b k) m=ty at *;generalize mw (dE a k) (dE b k)=l at *;generalize dE a k=x at *;generalize dE b k=y at *;generalize ?_=O;exact O):=h
def ajt {p:ae} (h:p:=by
 have fF:=aX l;have f3:=bV l;have F:=bZ l;have fP:=((ag.refl (λj=>j=w) aF).setCell (p:=ah w 3) rfl (aa 0)).setCell (p:=ah w 4) rfl (bz 1);have v:=bX (bX l 3 (aa 0)) 4 (bz 1);generalize ?_=O;exact O
 ):p:=h
def RL(h:ww:=by
 refine Dz;rintro e aq ⟨al,h1⟩;obtain rfl:e=.returned (aa (-1)):=by
  rcases h1 with h1|⟨i,av,_⟩
  .exact h1.1
  .simp at av
 have Tq:=ad al;generalize ?_=O;exact O):=h
def RM(h:ww:=by
 refine DK
 repeat (go_big_quiet_step (first|(go_at_call 234;exact Calls.kn (l.o _))))
 refine I7;generalize ?_=O;exact O):=h
def RN(h:ww:=by refine Su;have V:=(s wc.drew).2 C;generalize ?_=O;exact O):=h
def RO(h:ww:=by
 have av:i<9:=by
  have:=(ir.1 c).1
  exact this
 have⟨s,o,e,n⟩:=a_.at' I;cases e;rw[show 0+j*9+i=0+(j*9+i)by omega];refine n (j*9+i) u ?_;rw[AM xs j a i av];generalize ?_=O;exact O):=h
def RP(h:ww:=by refine z7;refine aK;have P:=fN _ _ _ _ ((mX E (au none 0 0) (au none 0 0) (.bool false))) 3 rfl;refine dj (v:=aV #[aG ct,aa 1]) P ?_;generalize ?_=O;exact O):=h
def RQ(h:ww:=by have aku:=t_ (ag.refl (λj=>j=w+1) aF) rfl (aa 0) (aa 0) (aa 0) (aa 0);have aj0:=ad aj1;have S:=ad aku;clear aj1 aku;refine aK;have Tq:=fN _ _ _ _ aj0.o 4 rfl;generalize ?_=O;exact O):=h
def RR(h:ww:=by
 obtain⟨k,rfl⟩:=mJ av.1;have hk:k<(s.get toq).length:=I;have a:hB s toq k=some (s.get toq)[k]:=by unfold hB;rw[aD ⟨aW,av.1⟩];simp[hk]
 generalize ?_=O;exact O):=h
def vh(h:ww:=by refine Ie;have l:=ad (λ(W:aj) (M:G W)=>(s W).1 M);generalize ?_=O;exact O):=h
def xv(h:ww:=by
 rw[cN aW];have⟨⟨L,ar,b⟩,al⟩:=C;have aw:L.length<=4096:=by have:=Z.o;rw[<-b,cG]at this;omega
 have q:=cu G al.size;generalize ?_=O;exact O):=h
def xx(h:ww:=by refine Db;clear hne;generalize ?_=O;exact O):=h
def zK(h:ww:=by simp only at i;generalize World.setCell _ (ah (w+1) 5) _=K at *;obtain⟨r,q,n,k⟩:=i;have y:=fN _ _ _ _ r 6 rfl;generalize ?_=O;exact O):=h
def C_(h:ww:=by refine cg;refine bJ (g w) ?_;exact Tw):=h
def C'(h:ww:=by intro v' aq b B _;have d:=(f.alloc (cu A f.size) _).grown B zC (λk e=>(r.lt k e).1);go_wp2;generalize ?_=O;exact O):=h
def Da(h:ww:=by have C:=ad (λW (u:G W)=>(B W).1 u);have S:=ad (λW u=>(B W).2 u);clear B;clear f;refine aK;generalize ?_=O;exact O):=h
def H'(h:ww:=by have g:=ad (λW'=>mf.aaO (W':=W') e aA av aw (az aW));have i:=ad aA;clear e aA av aw;refine aK;refine aS a7.o ?_;rintro Q' ⟨d,hk⟩;generalize ?_=O;exact O):=h
def Ia(h:ww:=by
 go_in
 go_wp2
 all_goals go_ret
 all_goals first|exact⟨rfl,rfl⟩|(obtain rfl:n=-2147483648:=I;exact⟨rfl,rfl⟩)):=h
def Ib(h:ww:=by rw[<-m];have:=World.alloc_heap_new (w.alloc (.deferred (some []))) (.loop (rec .ready));rwa [ft]at this):=h
def RT(h:ww:=by refine wpIn_region_lit ?_;refine T5;generalize ?_=O;exact O):=h
def RU(h:ww:=by refine Di;refine bJ (d.o _) ?_;refine aK;refine bJ (b.o _) ?_;generalize ?_=O;exact O):=h
def Ic(h:ww:=by go_simp;refine(ax.o _ (C.o _ n)).mono ?_;rintro e s' ⟨⟨ajS,rfl⟩,E⟩;refine DT;generalize ?_=O;exact O):=h
def RV(h:ww:=by refine dU;clear C;refine si;rintro e akT ⟨l',rfl,s'⟩;have m':=ad (m'.o.b8 s');generalize ?_=O;exact O):=h
def RW(h:ww:=by
 have:=aP (w.alloc (ab (fV m a c) 254)) (ab (aU bY.zero none 0) 199)
 rw[show(w.alloc (ab (fV m a c) 254)).heap.size=w.heap.size+1 by simp]at this;exact this):=h
def RZ(h:ww:=by
 have g:(first:U)<=f:=I;have i:IntKind.i64.wrap (f-first)=f-first:=e0 _ I
 clear a;exact zP):=h
def R0(h:ww:=by refine Ih;exact DE):=h
def R2 {p:ae} (h:p:=by
 clear h;refine kF;exact⟨rfl,by have:=bX H.o 1 (.bool true);simpa[ht]using this,(ag.refl (λb=>b=r) w).setCell (p:=ah r 1) rfl _⟩
 ):p:=h
def R4(h:ww:=by refine dj (v:=aV #[.agg (dL q7),false]) Q ?_;exact(vl.o _ _).2 ⟨by rw[F.o.2];rfl,by rw[F.o.1];exact L.o.1,L.o.2.mono λ_ _ x=>x.elim⟩):=h
def R5(h:ww:=by
 clear c fr fo s' f s L;go_wp2_with refine G4 (a' _ _) rfl rfl rfl ?_
 go_ret;exact⟨_,rfl,by rw[q.o.2.2];exact q.o.1,q.o.2.1,rfl⟩):=h
def R6(h:ww:=by go_simp;by_cases h1:a=0<;>by_cases h2:b=0<;>by_cases g:c=0<;>by_cases i:d=0<;>by_cases j:e=0<;>by_cases k:f=0<;>simp[h1,h2,g,i,j,k]):=h
def R7(h:ww:=by
 rw[Ct,Ct];by_cases h1:(!(aI.setIfInBounds i true).getD k true)=true
 .rw[aD h1,aD (hk h1)];omega
 .rw[az h1];omega):=h
def R9(h:ww:=by have⟨a,c,h1,h2,d⟩:=h;exact⟨a,c,h1,(hk.mono λ_ _ x=>x.elim).trans h2,λj e=>(d j e).imp id λaA=>cu hk.size aA⟩):=h
def R_(h:ww:=by rw[<-ny,q,eh,l6 I,f,show i*9+j-i*9=j by omega,jF (ir.1 r).1];exact r):=h
def aju(h:ww:=by have g:=h.yv;refine⟨h.co.keeps aA (λj c e=>by have:=d _ c;omega),aA.heap h.bj I,aA.heap h.st (by have:=h.ne;omega),?_,c1 h.bF aA a1,h.sP,h.yv,h.ne⟩;generalize ?_=f;exact f):=h
def R'(h:ww:=by
 simp only[cO.mk.injEq,true_and,and_true]
 funext i
 by_cases e:i=j
 .subst e;simp
 .by_cases a:i<j
  .rw[az e,aD a,aD I]
  .rw[az e,az a,az I]):=h
def Sa(h:ww:=by rintro e w' ⟨rfl,q,rfl⟩;refine aK;go_ret;exact⟨yQ (by rw[c.o];simp),XK (((b9 _ w).alloc bu _).alloc aM _) _⟩):=h
def Sb(h:ww:=by refine xz;refine UA;generalize ?_=O;exact O):=h
def Sc(h:ww:=by refine cg;refine aS (l.o _) λaF al=>?_;refine Ub;generalize ?_=O;exact O):=h
def Sd(h:ww:=by refine VW;have j:=(((b9 w w).alloc bu (ab #[af a,af b] 91)).alloc aM (ab cH 91));generalize ?_=O;exact O):=h
def Se(h:ww:=by
 have f:=(bd w).alloc (ab (aQ bW) 99);have d:=aP w (ab (aQ bW) 99);have k:=F';have ax:=afO aN;generalize fm (-2097152) 0++fm 2097152 32768=pl at *
 go_in
 generalize ?_=O;exact O):=h
def Sf(h:ww:=by have⟨q,b,k⟩:=zo.1 ak;have h2:=a q (by simpa[an]using b);rw[<-ny,gW b,k]at h2;cases h2;generalize ?_=l;exact l):=h
def Sh(h:ww:=by refine Ur;refine pE 6 trivial (ai' rfl rfl rfl zd) ?_;refine p';generalize ?_=O;exact O):=h
def Si(h:ww:=by refine sm;exact TP):=h
def Sj(h:ww:=by
 rintro aq ⟨q,g⟩;have d:ag aH w aq:=by rw[g];exact((ag.refl _ w).drewN _).drewN q
 clear g;refine aK;refine aS (s'.out _ d) λaF f=>?_;generalize ?_=O;exact O):=h
def Sl(h:ww:=by have⟨a,c,e,_⟩:=dA (show br.ownsRow 0 47 12 s dz.length (eY dz)from d.res (r:=aC.dn s dz) aM);exact⟨a,_,c,e⟩):=h
def Sm(h:ww:=by have fr:=L.trans (k.mono (T:=λj=>(au (bT r) xs.length cap).ownBlock=some j) λ_ _ x=>by rw[x];rfl);have s':=f.done;have fo:=f.count;rw[s']at c;generalize ?_=O;exact O):=h
def Sp(h:ww:=by have E:=(c).res (r:=aC.bh (w.heap.size+1) (ct,35)) aM;refine z7;have ps:=ad (mX E (au none 0 0) (au none 0 0) (.bool false));generalize ?_=O;exact O):=h
def Sq(h:ww:=by
 rw[hd]at a
 go_in
 go_wp2_with refine Cc (A_ aaI _ _ _ _ _) (a.o _) CU rfl rfl rfl ?_
 generalize w.alloc (ab e 45)=aq at *;generalize ?_=O;exact O):=h
def Sr(h:ww:=by
 rw[Int.tmod_eq_emod];split
 .left;omega
 .right;rename_i h;exact⟨b4,λe=>h (.inr (Qx e))⟩):=h
def St(h:ww:=by have l':=M.alloc (ab #[aa m.kind,aa l.next,au a' (m.bm.length-d) (c-d),aa 0,bz 0,aa 0] 199);have mv:=l'.drew;exact mv):=h
def Su(h:ww:=by refine Ie;have cp:=λx:bA G=>aX ((s _).1 x.held).et;generalize ?_=O;exact O):=h
def Sw(h:ww:=by refine cg;refine bJ m.out ?_;refine aK;refine aS a.o ?_;rintro w' ⟨q,rfl⟩;obtain⟨d1,r⟩:=l.o q;refine aK;generalize ?_=O;exact O):=h
def Sx(h:ww:=by refine aK;refine aU.o.mono ?_;rintro e aq ⟨cz,rfl,ar,al⟩;refine fB;exact⟨cz,rfl,(bN ar al).out⟩):=h
def Sy(h:ww:=by have c:=c1 ((bd aF).alloc (ab (bG ba.zero) 254)) q a1;have y:=v.keeps c id id;have u:=m' _ _ _ M (d.trans (c.mono λ_ _ x=>x.elim));generalize ?_=O;exact O):=h
def Sz {p:ae} (h:p:=by
 exact(((ag.refl (λb=>b=r\/b=B) w).setCell (p:=ah B k) (.inr rfl) _).setCell (p:=ah r 2) (.inl rfl) _).drewN _
 ):p:=h
def SA {p:ae} (h:p:=by
 have d:mb (λx=>!p x) xs xs l (l+1):=mb.start gf (by simp[T]) (λj a T'=>by simp[t j a T']);have V':((l:U) == -1)=false:=ep.2 I;generalize ?_=O;exact O
 ):p:=h
def SB(h:ww:=by go_quiet (fail);go_wp2;refine vn;exact⟨rfl,f.o.drewN _⟩):=h
def SD(h:ww:=by refine Ie;have bH:=lb.o.drew;refine aK;generalize ?_=O;exact O):=h
def SE(h:ww:=by have n:=fo.o.keeps hk (λ_ _ _=>id);obtain⟨b6,di,rfl,an⟩:=n.at' I;have gf:sv xs b6 di w.heap.size t wr:=⟨an,hk.heap hd.o id⟩;generalize ?_=O;exact O):=h
def SF(h:ww:=by
 go_in
 exact Tw):=h
def SG(h:ww:=by
 repeat (first|(refine rV ds rfl rfl rfl ?_;simp only[Act.put,dV])|go_big_quiet_step (fail))
 refine wpQuiet_nil ?_;refine DU;generalize ?_=O;exact O):=h
def SH(h:ww:=by refine VZ;refine sh;generalize ?_=O;exact O):=h
def SI(h:ww:=by clear q K C cp V v' vl u H fr g' lb;refine Uw;generalize ?_=O;exact O):=h
def SJ(h:ww:=by have n:=Z.o.keeps hk (λ_ _ _=>id);obtain⟨b6,di,rfl,an⟩:=n.at' I;have gf:sw xs b6 di w k wr:=⟨an,hk.heap fo.o id⟩;generalize ?_=O;exact O):=h
def SK(h:ww:=by rw[aiy]at hfin;have l:=aU.pU s.o hfin (X.mono λj _ d=>wa z d);clear gf X hfin aU C;have i0:=aX l.cc;have g0:=bV l.cc;generalize ?_=O;exact O):=h
def SL(h:ww:=by have s:=ad (λ(W:aj) (hk:ag aH w W)=>vU (h.keep hk));have s':=ad (λ(W:aj) (hk:ag aH w W)=>AO ((h.keep hk).fd (1-x.aL) I));generalize ?_=O;exact O):=h
def SM(h:ww:=by
 refine xQ;have c:IntKind.i64.wrap (a+b)=a+b:=by unfold aZ at bg al;exact e0 _ I
 refine cg;generalize ?_=O;exact O):=h
def SO(h:ww:=by
 refine xQ;have c:IntKind.i64.wrap (a-b)=a-b:=by unfold aZ at bg al;exact e0 _ I
 refine cg;generalize ?_=O;exact O):=h
def SP(h:ww:=by
 go_wp2_with first|refine uO (k _) rfl rfl rfl rfl ?_|refine G3 (ax _) rfl rfl rfl rfl rfl ?_|refine c' l rfl rfl rfl rfl ?_
 generalize ?_=O;exact O):=h
def SQ(h:ww:=by have zd:=ad (EF v 0 I (j:U) rfl I I);have F:=ad m;clear m v;refine aK;refine aS zd.o ?_;rintro G ⟨gf,l⟩;generalize ?_=O;exact O):=h
def SR(h:ww:=by
 have ajR:pre.length<xs.length:=by rw[ak];simp
 have akC:(pre.length:U)<(xs.length:U):=I;have l:xs[pre.length]=e:=by simp[ak]
 generalize ?_=O;exact O):=h
def SS(h:ww:=by refine UW;have f2:=ax.aJ.free 2;have bB:=ax.aJ.bB;generalize ?_=O;exact O):=h
def SU(h:ww:=by have R:=aX (us:=#[aa fr,aa e.k.em,aa e.k.bq,aa c,aa e.df,aa e.eb,aa e.hq,aa e.eP,aa e.le]) a.bD rfl;have Q:=bV a.bD;generalize ?_=O;exact O):=h
def SV(h:ww:=by refine xS;refine hU (λ_=>False) [15,16] [] 1 (mx ?_);refine cJ (λ_=>True) [17] 0 1 ?_;refine iV 17 trivial ?_;generalize ?_=O;exact O):=h
def SX(h:ww:=by refine zW;refine dj (v:=aV #[aG #[au u z y,(au none 0 0),false],aa 0]) P ?_;generalize ?_=O;exact O):=h
def SY(h:ww:=by
 go_in
 refine Uo;refine aK;generalize ?_=O;exact O):=h
def SZ(h:ww:=by
 have hd:s.data.toList.drop k=s[k] :: s.data.toList.drop (k+1):=by
  rw[qO (by simpa using M)];rfl
 generalize ?_=O;exact O):=h
def S1(h:ww:=by have an:=(T.data.toList[k]).toNat_lt;generalize T.data.toList[k]=c at *;generalize j8 (T.data.toList.take k)=a at *;generalize ?_=O;exact O):=h
def S2(h:ww:=by have bR:=λx:bA G=>aX (((n _).1 x.held).e6.bh);have T':=λx:bA G=>aX (((n _).1 x.held).bD);have Tq:=(n _).2 l;generalize ?_=O;exact O):=h
def S3(h:ww:=by simp only at z;generalize World.setCell _ (ah w 5) _=ajS at *;obtain⟨ps,q,n,k⟩:=z;have fo:=fN _ _ _ _ ps 6 rfl;generalize ?_=O;exact O):=h
def S4(h:ww:=by refine Db;refine mx ?_;generalize ?_=O;exact O):=h
def S5(h:ww:=by refine aK;refine aS aj4.o λaF d=>?_;have V:=ad (aj3.o.keep (ag.bU (S:=aH) d a1));clear cx aj4 aj3 d;generalize ?_=O;exact O):=h
def S6(h:ww:=by
 obtain⟨d,m⟩:∃ d,(first+k)%size=d:=⟨_,rfl⟩;have L:d<S.length:=by rw[b.ha,<-m];exact gb _ b.pos
 generalize ?_=O;exact O):=h
def S7(h:ww:=by rw[aT]at j H;generalize S[d].2=M at *;have hd:=ad H;have x:=ad j;have D:=ad n;clear H j e aT ax m n;generalize ?_=O;exact O):=h
def S8(h:ww:=by refine Is;refine z8;generalize ?_=O;exact O):=h
def S9(h:ww:=by obtain⟨s1,b⟩:∃ s1:ch,s1={s with x:=gz s.x (cX s.aJ t).1.bm,aJ:=(cX s.aJ t).2.2}:=⟨_,rfl⟩;rw[<-b];generalize ?_=f;exact f):=h
def S_(h:ww:=by have⟨y,a8⟩:=b.oE n zD zD zD c;generalize ?_=d;exact d):=h
def Ta(h:ww:=by refine Dg;refine mx ?_;refine kt ?_;generalize ?_=O;exact O):=h
def Tb(h:ww:=by have f:=ad (ye _ _ _ _ h1);have d:=ad (ye _ _ _ _ h2);have b:=ad (ye _ _ _ _ i);have a:=ad (ye _ _ _ _ j);generalize ?_=O;exact O):=h
def Tc(h:ww:=by have ax:prog.underlying 96=some (.struct (prog.fieldsOf 96)):=bc;have ao:prog.stoodInHeld 96=false:=bc;generalize ?_=l;exact l):=h
def Td(h:ww:=by refine dU;refine qW;refine aS (hm.o _) λakU aka=>?_;have C:=m'.o.keep (ag.bU aka a1);generalize ?_=O;exact O):=h
def Te(h:ww:=by have H:wr.cell? (ah B a)=some (Value.string (cV[a]'(by rw[c.ig];exact l))):=c.cell aM;have K:=c.free a;generalize ?_=O;exact O):=h
def Db(h:ww:=by
 repeat (first|(refine rV M rfl rfl rfl ?_;simp only[Act.put,dV])|go_big_quiet_step (fail))
 refine wpQuiet_nil ?_;generalize ?_=O;exact O):=h
def zL(h:ww:=by refine cg;refine(B8 _ _).mono ?_;rintro e w' ⟨rfl,rfl⟩;rw[g.o];refine aK;generalize ?_=O;exact O):=h
def Tf(h:ww:=by go_simp;refine aS (vl.o _) λaF zd=>?_;have Z:=u.o _ _ b zd;refine E _ _ (Z) ?_;generalize ?_=O;exact O):=h
def Dc(h:ww:=by refine cg;go_ret;exact⟨yQ (by rw[c.o]),((b9 _ w).alloc bu _).alloc aM _⟩):=h
def Ie(h:ww:=by have u:=ad (λ(W W':aj) (M:G W) (al:Below W W W')=>(s W').2 (((s W).1 M).keep (ag.bU al a1)));generalize ?_=O;exact O):=h
def Dd(h:ww:=by
 have bg:q3 m a=none:=by simp[q3,b]
 have an:q4 m c=0:=by simp[q4,b]
 rw[al,bg,an];have g:=ad aw;generalize ?_=O;exact O):=h
def De(h:ww:=by refine IX;have b:=(s _).2 (g'.o.keep (ag.refl _ wr).drew);generalize ?_=O;exact O):=h
def Df(h:ww:=by refine xF;rintro zp ⟨ps,r'⟩;have f:=ad (ax.b8 ps r');go_wp2;generalize ?_=O;exact O):=h
def Dg(h:ww:=by
 simp only[gC,nz,qQ,gS]
 repeat (go_big_quiet_step (fail))
 refine wpQuiet_nil ?_;generalize ?_=O;exact O):=h
def Ig(h:ww:=by refine vn;refine⟨rfl,?_⟩;rw[<-n.o];exact f.o):=h
def Ih(h:ww:=by
 go_in
 go_wp2_with first|refine y9 N rfl rfl rfl rfl ?_|refine y9 g rfl rfl rfl rfl ?_
 refine bJ aU.out ?_;generalize ?_=O;exact O):=h
def Ii(h:ww:=by refine aK;refine dH (v:=aV #[]) (by simp[results,results88]) rfl ?_;exact⟨rfl,l.o⟩):=h
def Ik(h:ww:=by obtain⟨i,j,ys,rfl,rfl,ajT,f,s,L⟩:=hrel;have ajU:=f.lt;have ajV:=f.le;have g':=f.len;clear z V';generalize ?_=O;exact O):=h
def Il(h:ww:=by have V:=L.trans (N.mono λ_ _ x=>x.elim);have Y:=b7 s N (λ_ _=>id);have M:=hd.o h2 V xs[j];generalize ?_=O;exact O):=h
def Im(h:ww:=by have⟨A,f,h1,h2⟩:=h;exact⟨h1.f_,h1.pos,h1.most,bZ h1.head,bZ h1.body,h1.ne⟩):=h
def Io(h:ww:=by refine cg;refine ajC;refine aK;go_ret;exact⟨_,rfl,u,h2,t⟩):=h
def Ip(h:ww:=by
 have ako:¬ (pre.length:U)<(xs.length:U):=by rw[ak];simp
 have D:xs=pre:=by rw[ak,gq]
 generalize ?_=O;exact O):=h
def Iq(h:ww:=by refine vn;exact z'):=h
def Tl(h:ww:=by have g0:=bV L;have z0:=aX L;have ps:=ad (mX L (au u z y) (au none 0 0) (.bool false));generalize ?_=O;exact O):=h
def Ir(h:ww:=by refine aK;refine cS 30 ?_;refine hU (λ_=>False) (.range 30) [] 0 (mx ?_);refine kt ?_;generalize ?_=O;exact O):=h
def Tn(h:ww:=by refine si;rintro e akU ⟨l',rfl,s'⟩;have m':=ad (m'.o.b8 s');generalize ?_=O;exact O):=h
def To(h:ww:=by refine tB;refine(a.o w).mono ?_;refine mN;generalize ?_=O;exact O):=h
def Tp(h:ww:=by refine Ix;clear P;generalize ?_=O;exact O):=h
def Is(h:ww:=by have t:=(ax).aJ.lt;have cx:=aX (ax).box;have z0:=bV (ax).res;have bR:=aX (ax).res;generalize ?_=O;exact O):=h
def Tr(h:ww:=by rintro e D ⟨rfl,d⟩;refine Du;clear E K;generalize ?_=O;exact O):=h
def Ts(h:ww:=by obtain⟨a,c,e,_⟩:=dA (show br.ownsRow 0 47 12 t dz.length (eY dz)from n.at' 9 rfl);exact⟨a,_,c,e⟩):=h
def Tt(h:ww:=by refine cg;refine d.out.mono ?_;rintro e w' ⟨rfl,q,rfl⟩;exact Jg):=h
def Tu(h:ww:=by refine cg;refine(aaf n h w).mono ?_;exact VE):=h
def ajw {p:ae} (h:p:=by
 exact b7 d ((ag.refl (λk=>k=w) aq).setCell (p:=ah w 0) rfl _) (λb al h=>zA)
 ):p:=h
def Tw(h:ww:=by
 go_wp2
 try simp only[Exit.inBlock,Exit.then]
 refine dH (aeY rfl _ _ _) rfl ?_;exact⟨by rw[a.o];rfl,rfl⟩):=h
def Tx(h:ww:=by refine tw;go_ret2;exact xL):=h
def Ty(h:ww:=by rintro pre x a' c q ⟨Y,rfl,s,g,ak,C⟩ i hk;exact⟨Y,rfl,s,hk.heap g I,ak,C.keep hk a1⟩):=h
def TA(h:ww:=by
 have h:oq a b=a.tdiv b-1:=by unfold oq;simp[h1,h2,c]
 rw[h];exact er):=h
def TB(h:ww:=by
 unfold fI;dsimp only;split
 .exact .inr (.inl rfl)
 .split
  .exact .inr (.inr rfl)
  .exact .inl rfl):=h
def TC(h:ww:=by
 have h:oq a b=a.tdiv b:=by unfold oq;simp[h1,h2,c]
 rw[h];exact er):=h
def TD {p:ae} (h:p:=by
 exact h1.set 9 (r':=aC.dn v p.2) rfl (bd w') (λ_ _ e=>e.elim) (lM h1).2 (λ_ h=>.inl (.inr h))
 ):p:=h
def TE(h:ww:=by obtain rfl:k=a.length:=I;rw[qS]at c;refine aK;go_ret;exact⟨rfl,c,j⟩):=h
def TF(h:ww:=by refine aK;go_ret;exact⟨⟨_,rfl⟩,by simpa only[cG,jG]using b5.o⟩):=h
def TI(h:ww:=by unfold qZ ju;have ajW:=yX (λ_=>(0:U)) (f:=0) (n:=j) I;unfold gZ at gf⊢;rw[<-ajW];exact gf):=h
def TJ(h:ww:=by unfold jN hS hV;rw[iP];exact cu (oZ _ _) (oZ _ _)):=h
def TK(h:ww:=by rw[th,k3,rZ,CA,filter_cons,Cv]):=h
def TL(h:ww:=by rw[aD a,az bs];rw[a]at bB;exact Vr):=h
def TM(h:ww:=by
 rcases gd.1 ak with ak|ak
 .exact h.oF k x ak
 .rw[kD.1 ak];exact a_):=h
def TN {p:ae} (h:p:=by
 obtain⟨p,ao,rfl⟩:=gO.1 (hN.1 hk).1
 have:=a.ik p ao
 unfold gB;omega
 ):p:=h
def TO(h:ww:=by refine xz;go_ret;exact⟨aM,cp⟩):=h
def TP(h:ww:=by refine aK;go_ret;exact⟨by rw[s.o];rfl,t.os,t.tape,t.output,t.size,t.block⟩):=h
def TQ(h:ww:=by clear t l' H G;refine fB;exact⟨_,rfl,by rw[z.o.1];exact z.o.2.1,z.o.2.2,rfl⟩):=h
def TR(h:ww:=by refine cg;refine bJ j ?_;clear j;go_wp2;go_ret3;exact FY d.o (b9 _ _)):=h
def TT(h:ww:=by obtain rfl:k=T.size:=I;refine fB;exact⟨uj (by rw[o1 aM]),z.o⟩):=h
def TU(h:ww:=by refine zl λk _=>?_;simp only[Function.comp_apply];rw[Cf];simp;omega):=h
def TX(h:ww:=by refine Dq;exact⟨rfl,a.o,G.o⟩):=h
def TY(h:ww:=by
 have:=aP (w.alloc (ab (fV m a c) 254)) (ab (aU bY.zero none 0) 199)
 exact mO):=h
def TZ(h:ww:=by refine cg;refine bJ (al▸XV n w) ?_;go_wp2;exact qX):=h
def T0(h:ww:=by rw[<-m,n9,n9,getElem?_append,aD l]):=h
def T1(h:ww:=by rintro e w' ⟨⟨c,rfl⟩,h1,h2⟩;refine aK;go_ret2;exact⟨rfl,h1,h2⟩):=h
def T2(h:ww:=by
 rw[s,xf]at ak;split at ak
 .rwa [zm]at ak
 .cases ak):=h
def T3(h:ww:=by
 have:=X5 c bp i
 rw[an]at this;exact this.mono λe w' aT=>⟨aT.1,Y0 c aT.2⟩):=h
def T4 {p:ae} (h:p:=by
 exact⟨⟨h.x,h.hd,h.aO,h.bl,h.b8,h.gR⟩,by show p.2.length<=_;omega⟩
 ):p:=h
def T5(h:ww:=by simp only[zip_toArray,zip_cons_cons,zip_nil_right,foldl_toArray,r1,xd,dV];generalize ?_=O;exact O):=h
def T6(h:ww:=by have g':=bb (k:=3) N.bD rfl;simp only[getElem_toArray,getElem_cons_zero,Cy]at g';generalize ?_=O;exact O):=h
def T7(h:ww:=by rintro pre x rest A ak ⟨av,b,hd,aw⟩;have a8:=run_yield (P:=P) (args:=encs x) b (by rw[c];exact D x);rw[c]at a8;generalize ?_=u;exact u):=h
def T8(h:ww:=by have ajW:=o2 vs L.size;have ajR:(j:U)<(xs.length:U):=I;have vl:=ad f;have mv:=ad D;generalize ?_=O;exact O):=h
def T9(h:ww:=by have⟨F,us,A,b,r,o,g,u,P,z,q,j,bS,y,K,W⟩:=h.ps k hk;have⟨ys,bK,R,ajU⟩:=two hk;generalize ?_=O;exact O):=h
def T_(h:ww:=by have d1:decide (x<a)=false:=cN I;have d2:decide (c<x)=false:=cN I;have i:decide (y<b)=false:=cN I;generalize ?_=O;exact O):=h
def Ua(h:ww:=by have c:=(f.ga a).ga b;have g:=(((bd bo).ga a).ga b).heap d id;generalize ?_=O;exact O):=h
def Ub(h:ww:=by have cp:=cp.trans (al.mono cp.size);have m:=(ag.bU (S:=aH) al a1).heap q.o id;have hZ:=aX m;generalize ?_=O;exact O):=h
def Uc(h:ww:=by clear aU;refine tx;have a':=ad y;clear y u i0;refine aK;generalize ?_=O;exact O):=h
def Ud(h:ww:=by refine cJ (λ_=>True) [12,13] 0 2 ?_;refine hG 12 trivial ?_;refine iV 13 trivial ?_;refine aK;generalize ?_=O;exact O):=h
def Ue(h:ww:=by obtain⟨b,o,rfl,an⟩:=(a_.keeps j (λaw x ak=>s aw x ak)).at' I;have C:=an _ _ (abL a k g);generalize ?_=O;exact O):=h
def Uf(h:ww:=by refine aK;refine cS 12 ?_;refine cJ (G) (.range 11) 1 11 ?_;refine dN (Tq) (.range 9) 2 ?_;generalize ?_=O;exact O):=h
def Ug(h:ww:=by
 have e:fQ (x :: xs) k=fQ xs k+1:=by unfold fQ;rw[takeWhile_cons_of_pos (by simpa using c)];rfl
 generalize ?_=a;exact a):=h
def Uh(h:ww:=by have hZ:=ax.hl ar 4 I;have f4:=ax.st.free (o+4);have Tq:=ax.lim.e' ar;have N:=ad ax;clear ax;generalize ?_=O;exact O):=h
def ajx(h:ww:=by have n:hM f fF (k+1)=nt k f (hM f fF k):=rfl;generalize hM f fF k=akw at *;obtain⟨d,aj_⟩:=akw;generalize ?_=O;exact O):=h
def Ui(h:ww:=by have c:=(a.block w.heap.size I).trans aT;have f0:=bV c;have bw:=aX c;rw[aA];refine aK;generalize ?_=O;exact O):=h
def Uj(h:ww:=by have g0:=bV t;have dq:=aX t;go_wp2;refine dj (v:=aG #[af x,af y]) (kJ (jq t (af x) (af y))) ?_;generalize ?_=O;exact O):=h
def Uk(h:ww:=by have N:=A _ _ _ s ((ag.refl _ wr).drewN q);have⟨rest,G⟩:=hd.o (by simp;have:=D.o;omega);generalize ?_=O;exact O):=h
def Ul(h:ww:=by
 have g:=d.lt;have aA:∀ b,B.S b->b<w.heap.size:=λb al=>by rcases al with e|e|e|e|e<;>omega
 generalize ?_=f;exact f):=h
def Um(h:ww:=by go_quiet ((go_at_call 307;exact(M.o _).mono λ_ _ h=>⟨h.1,_,h.2.symm⟩));refine aK;generalize ?_=O;exact O):=h
def Un(h:ww:=by
 have A:b0 (xs.take i++e :: xs.drop i)=b0 (xs.take i)++e.bC++b0 (xs.drop i):=by rw[AL,ZE,eh]
 generalize ?_=ps;exact ps):=h
def Uo(h:ww:=by refine aK;go_quiet ((go_at_call 55;exact(i.o _).mono λ_ _ h=>⟨h.1,_,h.2.symm⟩));generalize ?_=O;exact O):=h
def Up(h:ww:=by have u:=(bd w).alloc (ab k 43);have t:=aP w (ab k 43);have h1:=h.keep u;have f:=bN h1 u;generalize ?_=O;exact O):=h
def Uq(h:ww:=by refine si;rintro e gf ⟨rfl,q,r⟩;have f:=ad (ax.b8 q r);generalize ?_=O;exact O):=h
def Ur(h:ww:=by refine cS 7 ?_;refine hU (λ_=>False) (.range 6) [] 1 (mx ?_);refine cJ (λ_=>True) [6] 0 1 ?_;generalize ?_=O;exact O):=h
def Us(h:ww:=by refine cS 9 ?_;refine cJ (G) (.range 8) 1 8 ?_;refine dN (n) (.range 8) 0 ?_;refine nf ?_;generalize ?_=O;exact O):=h
def Ut(h:ww:=by
 rw[i]at g
 go_in
 go_wp2_with (refine dg m rfl rfl rfl ?_);refine aS (g _) λaq a=>?_;generalize ?_=O;exact O):=h
def Uu(h:ww:=by simp only[az e]at h1;rw[az e];show -9223372036854775808<=v j/\v j<=9223372036854775807;generalize ?_=i;exact i):=h
def Uv(h:ww:=by refine aK;refine aS (aer most h1 I wr) ?_;rintro aF ⟨d,a,g⟩;rw[aA]at d g a;generalize ?_=O;exact O):=h
def Uw(h:ww:=by refine cJ (λW=>0<=W.heap.size) [6,7] 0 2 ?_;refine hG 6 (c3 _) ?_;refine iV 7 (c3 _) ?_;generalize ?_=O;exact O):=h
def Ux(h:ww:=by rintro l pre x rest j Z ak ⟨⟨v,i,c⟩,f,q⟩ s;have N:=c6 length ak;simp at N;generalize ?_=O;exact O):=h
def Uy(h:ww:=by refine dH (v:=aV #[.agg zv,aa 4]) QW rfl ?_;rw[M.o];generalize ?_=O;exact O):=h
def Uz(h:ww:=by
 have e:fQ (x :: xs) k=0:=by unfold fQ;rw[takeWhile_cons_of_neg (by simpa using c)];rfl
 generalize ?_=a;exact a):=h
def UA(h:ww:=by refine xG;refine sj;have L:=R.heap b.o.1 id;generalize ?_=O;exact O):=h
def UC(h:ww:=by clear s c;refine Iw;generalize ?_=O;exact O):=h
def UD(h:ww:=by
 have z0:=aX i;have g0:=bV i
 go_in
 go_wp2;have r:=kJ f.o.2;refine dj (v:=aG cH) r ?_;generalize ?_=O;exact O):=h
def UE(h:ww:=by
 have S:c2 v (M.p k)=({M.p k with aJ:=(dG (M.p k).aJ 0).2},[]):=by unfold c2;rw[aD aT]
 generalize ?_=O;exact O):=h
def UF(h:ww:=by have f:=Az a.fr b.fr;have g:=Az a.em b.em;have i:=Az a.bq b.bq;have j:=Az a.cv b.cv;generalize ?_=c;exact c):=h
def UG(h:ww:=by obtain⟨n,rfl⟩:=mJ (show 0<=f by unfold gB at a;omega);rw[yy];generalize ?_=d;exact d):=h
def ajz(h:ww:=by refine IG;have N:=T'.o;generalize ?_=O;exact O):=h
def UH(h:ww:=by go_simp;refine aS (f.o P) λaF d=>?_;refine Du;generalize ?_=O;exact O):=h
def UI(h:ww:=by
 go_wp2_with refine Cc (A_ aaH _ _ _ _ _) g' CU rfl rfl rfl ?_
 generalize ?_=O;exact O):=h
def UK(h:ww:=by refine V.o.mono ?_;rintro e H ⟨cz,rfl,gf,ajS⟩;have t:=ag.bU (S:=aH) ajS a1;generalize ?_=O;exact O):=h
def UL(h:ww:=by
 injection b with c _ i
 injection c with c
 injection c with c
 subst c;subst i;generalize ?_=l;exact l):=h
def UM(h:ww:=by obtain⟨a,cap,rfl,a_,al⟩:=dA c;gi_wp2;refine⟨aM,.inl ⟨_,_,rfl,run_takeDeferred u,?_⟩⟩;generalize ?_=O;exact O):=h
def UN(h:ww:=by refine xz;have cx:=aX f.o;generalize ?_=O;exact O):=h
def UO(h:ww:=by refine Di;refine bJ (d.o _) ?_;go_wp2;generalize ?_=O;exact O):=h
def UP(h:ww:=by
 rw[getElem_drop];have f:fQ xs e.k+j<xs.length:=by rw[iv]at n;omega
 generalize ?_=g;exact g):=h
def UQ(h:ww:=by rw[XI]at hfin;have g':=F.o.pU z.o hfin l (λ_ e=>wa I e);clear gf l a8 hfin F zd;generalize ?_=O;exact O):=h
def US(h:ww:=by
 go_wp2_with refine eL (kh w) rfl rfl ?_
 generalize w.alloc (ab (aQ bW) 99)=bo at *;generalize ?_=O;exact O):=h
def UT(h:ww:=by
 obtain⟨_,x,ak,rfl⟩:=a;have h1:=(aC.link b.L s.aJ).lt (pv h) f
 have:=e x ak
 generalize ?_=m;exact m):=h
def UW(h:ww:=by have lb:=(ax).aJ.lt;have mv:=bZ (ax).res;have z0:=bV (ax).res;have bR:=aX (ax).res;generalize ?_=O;exact O):=h
def UX(h:ww:=by have aj9:decide (0<=(i:U))=true:=dh I;have aj_:decide ((i:U) >= 0)=true:=dh I;generalize ?_=O;exact O):=h
def UY(h:ww:=by refine cg;refine aS t.out λaq j=>?_;have a:=j.heap f.out.2 id;generalize ?_=O;exact O):=h
def UZ(h:ww:=by subst e;have d:=an 0 (tf.2 hne);unfold World.cell? at d;rw[f]at d;generalize ?_=j;exact j):=h
def U0(h:ww:=by rw[aT,Bool.and_false,az aM,gq]at j;have x:=ad j;clear aT e j n P;generalize ?_=O;exact O):=h
def U1(h:ww:=by rw[D]at c;refine xz;generalize ?_=O;exact O):=h
def U2 {p:ae} (h:p:=by
 have l':(xs.filter λx=>!p x)=xs:=pZ.2 λa bg=>by simp[t a bg]
 generalize ?_=O;exact O
 ):p:=h
def sg(h:ww:=by exact⟨⟨none,0,rfl,k (ql _),(λ_ e=>nomatch e)⟩,q,n⟩):=h
def U3(h:ww:=by have vs:=ad ak;have aj5:=ad lb;have aj6:=ad TS;have akv:=ad T';generalize ?_=O;exact O):=h
def tw(h:ww:=by refine cg;refine bJ (X' h toq aW) ?_;refine aK;generalize ?_=O;exact O):=h
def vk(h:ww:=by simp only[lC,mL,lz,k2];generalize ?_=O;exact O):=h
def xz(h:ww:=by refine cg;generalize World.alloc (World.alloc w _) _=aq at *;generalize ?_=O;exact O):=h
def vm(h:ww:=by refine wpQuiet_nil ?_;intro _ aka;have⟨nq,akb⟩:=aka;subst akb;generalize ?_=O;exact O):=h
def xA(h:ww:=by have⟨A,d,g,l,n,q,b,B,C,bS,u,w,D,E,y,G,H,z,bP⟩:=h;generalize ?_=K;exact K):=h
def zN(h:ww:=by refine aK;go_ret;exact⟨by rw[r.o];first|rfl|simp,A⟩):=h
def vn(h:ww:=by refine dH (v:=aV #[]) xm rfl ?_;generalize ?_=O;exact O):=h
def zO(h:ww:=by refine kF;exact⟨rfl,((b9 _ w).alloc bu _).alloc aM _⟩):=h
def Di(h:ww:=by refine zT;refine aK;generalize ?_=O;exact O):=h
def Iw(h:ww:=by
 go_wp2_with first|refine dg l rfl rfl rfl ?_|refine c' g rfl rfl rfl rfl ?_
 generalize ?_=O;exact O):=h
def xB(h:ww:=by refine aK;go_ret3;exact⟨by rw[d.o];rfl,rfl⟩):=h
def zP(h:ww:=by
 go_in
 go_wp2;go_quiet (fail);exact xI):=h
def zQ(h:ww:=by refine fB;exact⟨rfl,(cp.trans (al.mono cp.size))⟩):=h
def Ix(h:ww:=by obtain⟨j,G,rfl,aU⟩:=hrel;obtain⟨f,rfl⟩:∃ f:aj,f=wr:=⟨_,rfl⟩;generalize ?_=O;exact O):=h
def Dj(h:ww:=by refine aaB h al ak bH bp i at' bQ bL I f hk ByteArray.empty λl g h2=>?_;rw[a];generalize ?_=O;exact O):=h
def Dk(h:ww:=by have cp:=(b9 w.heap.size w).alloc bu (ab e 45);have g:=aP w (ab e 45);generalize ?_=O;exact O):=h
def Dl(h:ww:=by refine aK;refine z.out.mono ?_;rintro e aF ⟨⟨n,rfl⟩,q,a⟩;generalize ?_=O;exact O):=h
def Dm(h:ww:=by refine cg;refine bJ (Ya c toq aW w) ?_;refine aK;generalize ?_=O;exact O):=h
def Dn(h:ww:=by gi_wp2;refine⟨rfl,t.mono ?_⟩;rintro e ys ⟨rfl,F,i⟩;generalize ?_=O;exact O):=h
def Dp(h:ww:=by unfold Go.Proofs.YtalagblioepadaaGreatDoor.hr;simp only[];generalize ?_=A;exact A):=h
def Iy(h:ww:=by
 rcases f with e|e
 .exact .inl (e▸a)
 .rw[a]at e;simp at e;omega):=h
def Iz(h:ww:=by rw[<-m];exact(Ci _ _ _ aM).trans (World.alloc_heap_new w _)):=h
def Dq(h:ww:=by refine zg (v:=aV #[]) xm rfl ?_;generalize ?_=O;exact O):=h
def Dr(h:ww:=by simp only[CG,zs]at L;generalize ?_=O;exact O):=h
def Ds(h:ww:=by refine cg;refine bJ ax.o ?_;refine aK;generalize ?_=O;exact O):=h
def IA(h:ww:=by
 have:=run_enterLoop_outer (P:=P) (w:=w) fn a.tmps ps assign body
 rw[<-m,c];exact this):=h
def Dt(h:ww:=by have D:(w.alloc (ab e 45)).heap.size=w.heap.size+1:=aM;generalize ?_=O;exact O):=h
def IB(h:ww:=by simp only[];exact IU):=h
def IC(h:ww:=by have⟨A,f,h1,h2⟩:=h;exact⟨A,f,h1.keeps hk b a,h2⟩):=h
def ID(h:ww:=by simp only[jn,Hg]at a;exact d a.2.1):=h
def IF(h:ww:=by
 go_wp2_with first|refine eL P rfl rfl ?_|refine c' F rfl rfl rfl rfl ?_
 generalize ?_=O;exact O):=h
def IG {p:ae} (h:p:=by
 have m:=t.setCell (p:=ah w 0) (.inl rfl) (au (bT g') (pre.length+1) z);generalize ?_=O;exact O
 ):p:=h
def IH(h:ww:=by obtain rfl:j=xs.length:=I;have ajR:¬ (xs.length:U)<(xs.length:U):=I;generalize ?_=O;exact O):=h
def II(h:ww:=by rw[aT]at h;simp only[r7,jn,mM]at h;generalize ?_=b;exact b):=h
def IJ(h:ww:=by obtain⟨pre,rest,ak,a7,rfl,⟨u,no,co,rfl⟩,f⟩:=hrel;clear N;generalize ?_=O;exact O):=h
def IK(h:ww:=by
 go_in
 go_wp2_with ((with_reducible refine dg V rfl rfl ?_ ?_);exact rfl);generalize ?_=O;exact O):=h
def ajA(h:ww:=by have a:ag aH f aq:=((ag.refl _ f).alloc _).ga d;generalize ?_=O;exact O):=h
def IL(h:ww:=by have P:=h.hT;unfold qs at P;rw[aT]at P;have d4:=aX P;generalize ?_=O;exact O):=h
def U'(h:ww:=by rw[k];simp only[iw,cG,h3,iv,B,c];omega):=h
def IM(h:ww:=by intro x ak;simp only[fW,CF,or_false]at ak;generalize ?_=O;exact O):=h
def IN(h:ww:=by
 go_in
 refine Dy;generalize ?_=O;exact O):=h
def Va(h:ww:=by have he:k=size:=I;subst he;refine aK;go_end0;exact⟨⟨_,rfl⟩,s⟩):=h
def Vb(h:ww:=by exact(vl.o _ _).2 ⟨by rw[F.o.2];rfl,by rw[F.o.1];exact L.o.1,L.o.2⟩):=h
def IP(h:ww:=by rw[Oper.semAt_plain F _ _ (by rw[ar];intro c d;cases d)];generalize ?_=e;exact e):=h
def IQ(h:ww:=by refine aK;refine aS E.o ?_;rintro aF ⟨q,rfl⟩;generalize ?_=O;exact O):=h
def IS(h:ww:=by refine⟨λh=>(by rw[h]at l;cases l),λj g=>?_⟩;generalize ?_=t;exact t):=h
def IT(h:ww:=by have⟨d,e,k,l⟩:=a;have⟨bS,m,n,o⟩:=b;generalize ?_=c;exact c):=h
def Vd(h:ww:=by
 rcases a with a|a
 .exact Ad
 .exact(g j a).imp .inr id):=h
def Ve(h:ww:=by exact⟨b.x,b.aJ,b.aO,b.cn,b.cC,b.own,b.wt,b.ok,b.out⟩):=h
def Vf(h:ww:=by
 unfold sR
 go_in
 go_wp2_with fail
 all_goals (go_ret;exact⟨yQ b_,a⟩)):=h
def Vg(h:ww:=by go_ret2;exact⟨rfl,h.put toq j hk,hk.mono (λb _ al=>Lk c toq b al)⟩):=h
def Vh(h:ww:=by refine DL;exact⟨I,I,e.symm,I,I⟩):=h
def Vi(h:ww:=by have⟨d,hd,h⟩:=a c an;exact⟨d,gd.2 (.inl hd),h⟩):=h
def Vj(h:ww:=by obtain rfl:j=-1:=I;clear a z;refine fB;exact⟨_,rfl,r,f⟩):=h
def Vl(h:ww:=by refine aK;go_end0;exact⟨rfl,by rw[a'.o.1.eq];exact ako.o⟩):=h
def Vm(h:ww:=by refine DL;exact⟨I,I,e.symm,I⟩):=h
def Vn(h:ww:=by refine fB;exact⟨_,rfl,il _ _ _ _,ag.bU Tq.o a1,rfl⟩):=h
def Vp {p:ae} (h:p:=by
 exact .inl (.inr (.inr (.inr ⟨p,(hN.1 ao).1,a⟩)))
 ):p:=h
def Vq(h:ww:=by
 have:=h.lost
 show 0<=a.lost/\a.lost<=10*((n+1:J):U);omega):=h
def Vr(h:ww:=by have H:=ad h;refine kF;exact⟨rfl,H.o,ag.refl _ _⟩):=h
def Vs(h:ww:=by rw[gW CS];rfl):=h
def Vt(h:ww:=by rintro e w' ⟨rfl,q,rfl⟩;exact xI):=h
def Vu(h:ww:=by simp only[ar,iO,hrun,iu,jm];exact h):=h
def Vw(h:ww:=by rcases h1 with rfl|rfl<;>rcases h2 with rfl|rfl<;>split<;>rfl):=h
def Vx(h:ww:=by
 rcases c k e with e|e|e
 .have:=ax k e;omega
 .omega
 .omega):=h
def Vy(h:ww:=by refine oc;rcases this with rfl|rfl<;>exact bb al rfl):=h
def Vz(h:ww:=by rw[h 0 I n I,h 1 I n I,F8 aN n λk hk j a=>h k hk j I]):=h
def VA(h:ww:=by rw[jZ];exact h.an _ _ ((AM xs i av j a).trans b)):=h
def VC(h:ww:=by exact⟨i.out.bytes.keeps hk (λ_ _ _=>id),i.out.new⟩):=h
def VD(h:ww:=by obtain⟨e,_,rfl⟩:=gO.1 an;show(3:U)≠4;omega):=h
def VE(h:ww:=by rintro e w' ⟨rfl,rfl⟩;exact iZ):=h
def VF(h:ww:=by refine mN;exact iZ):=h
def VH(h:ww:=by have⟨S,a,b⟩:=h;exact⟨S,a.keeps hk h1 h2,b⟩):=h
def VI(h:ww:=by rintro e w' ⟨v',rfl,h1,_,h2⟩;exact⟨v',rfl,h1,h2⟩):=h
def VJ(h:ww:=by refine oc;rcases this with rfl|rfl<;>simp[iS,b']):=h
def VK(h:ww:=by show((min (min (a.dP+1) a.cf) (a.now+1):J):U)-1=_;omega):=h
def VL(h:ww:=by have⟨b,o,e,q⟩:=a_.at' d;cases e;exact q j u c):=h
def VM(h:ww:=by refine dj (v:=aG (kZ e 0 eC 0)) f ?_;exact⟨rfl,i⟩):=h
def VN(h:ww:=by rw[<-AL,n_,<-C,n_]):=h
def VO(h:ww:=by have L:=D.o.2.2.1;have M:=D.o.2.2.2;have E:=Q.o.2.2.1;have H:=Q.o.2.2.2;generalize ?_=O;exact O):=h
def VP(h:ww:=by rintro e aF ⟨rfl,v,d⟩;have e2:=pj aF;have j:=aP aF (ab (bG ba.zero) 254);generalize ?_=O;exact O):=h
def VQ {p:ae} (h:p:=by
 have K:=i.cell (p:=ah a 0) u (λh=>h.elim g.1 (λh=>tu));generalize ?_=O;exact O
 ):p:=h
def VS(h:ww:=by have d:IntKind.i64.wrap a=a:=e0 _ I;have f:IntKind.i64.wrap b=b:=e0 _ I;generalize ?_=O;exact O):=h
def VT(h:ww:=by go_quiet ((go_at_call 24;first|exact Calls.quiet_of (aU.o _)|exact ke (aU.o _)));generalize ?_=O;exact O):=h
def VU(h:ww:=by have C:=ad n;have l:=ad q;refine aK;have s:=fN _ _ _ _ C.o 9 rfl;generalize ?_=O;exact O):=h
def VW(h:ww:=by have t:=aP (w.alloc (ab #[af a,af b] 91)) (ab cH 91);refine Aa;generalize ?_=O;exact O):=h
def VY(h:ww:=by have l:(r+c4)*(r+c4)%18446744073709551616=(r+c4)*(r+c4):=kE I;generalize ?_=O;exact O):=h
def VZ(h:ww:=by have cp:=(b9 w.heap.size w).alloc bu (ab (fi aN d n a k pat b3 cd) 26);generalize ?_=O;exact O):=h
def V0 {p:ae} (h:p:=by
 obtain⟨k,hk,rfl,rfl,rfl⟩:=hrel;have z:=N0 p (t.data.toList.take k) c b_;generalize ?_=O;exact O
 ):p:=h
def V1(h:ww:=by have T:wr.ownsRow 0 47 12 (au A l.length cap) l.length (eY l):=H.at' 10 rfl;generalize ?_=O;exact O):=h
def V3(h:ww:=by unfold wpQuiet;rw[aD (by unfold Region.wanted;rw[a7])];refine⟨v,λw b=>?_,hk⟩;generalize ?_=d;exact d):=h
def er(h:ww:=by
 go_in
 exact iZ):=h
def zS(h:ww:=by have fr:=ad N;have se:=ad M;have r':=ad E;generalize ?_=O;exact O):=h
def tx(h:ww:=by refine aK;refine aS u.o λQ y=>?_;generalize ?_=O;exact O):=h
def tz(h:ww:=by refine aK;go_ret;exact⟨⟨_,rfl⟩,b5.o⟩):=h
def zT(h:ww:=by refine aK;refine bJ (f.o _) ?_;generalize ?_=O;exact O):=h
def sh(h:ww:=by refine cg;generalize World.alloc w _=bo at *;generalize ?_=O;exact O):=h
def Du(h:ww:=by have B:=u.o _ _ b d;refine E _ _ (B) ?_;generalize ?_=O;exact O):=h
def qV(h:ww:=by
 go_in
 go_wp2;exact qX):=h
def Dv(h:ww:=by refine aK;refine aS (c.o _) λaq al=>?_;generalize ?_=O;exact O):=h
def vo(h:ww:=by exact⟨f.os,f.tape,f.output,f.size,f.block⟩):=h
def tA(h:ww:=by refine aK;go_ret;exact o9):=h
def tB(h:ww:=by refine mN;refine aK;generalize ?_=O;exact O):=h
def xC(h:ww:=by refine kF;exact⟨yQ b_,rfl⟩):=h
def vp(h:ww:=by obtain rfl:=p0.1 B;generalize ?_=O;exact O):=h
def zU(h:ww:=by have G:=ad F;clear y F;refine aK;generalize ?_=O;exact O):=h
def Dw(h:ww:=by refine⟨aM,.inl ⟨_,_,rfl,run_takeDeferred f,?_⟩⟩;generalize ?_=O;exact O):=h
def Dx(h:ww:=by
 go_wp2_with refine c' S rfl rfl rfl rfl ?_
 generalize ?_=O;exact O):=h
def Dy(h:ww:=by refine aK;refine bJ u.o ?_;refine aK;generalize ?_=O;exact O):=h
def Dz(h:ww:=by refine cg;refine C.o.mono ?_;generalize ?_=O;exact O):=h
def zV(h:ww:=by unfold Go.Proofs.YtalagblioepadaaGreatDoor.hD;generalize ?_=f;exact f):=h
def xD(h:ww:=by have⟨A,y,r,a_,_⟩:=dA h;cases r;generalize ?_=O;exact O):=h
def zW(h:ww:=by refine aK;have P:=fN _ _ _ _ ps.o 3 rfl;generalize ?_=O;exact O):=h
def DB(h:ww:=by have t:=(ag.bU (S:=aH) al a1).heap g id;generalize ?_=O;exact O):=h
def zX(h:ww:=by
 go_in
 exact xJ):=h
def DC(h:ww:=by simp only[IntKind.wrap,IntKind.bits,IntKind.signed];simp;omega):=h
def DD(h:ww:=by simp only[jH,vd]at N;generalize ?_=O;exact O):=h
def DE(h:ww:=by refine aK;go_end0;exact⟨rfl,A.o⟩):=h
def DF(h:ww:=by generalize World.setCell (World.setCell _ _ _) _ _=a' at *;generalize ?_=O;exact O):=h
def zY(h:ww:=by have d:=(mI.1 f).1;generalize ?_=O;exact O):=h
def DG(h:ww:=by refine cg;generalize w.alloc _=aq at *;generalize ?_=O;exact O):=h
def DH(h:ww:=by
 have aT:(M.p k).cn=false:=by simpa using aT
 generalize ?_=O;exact O):=h
def IU(h:ww:=by split<;>exact⟨rfl,rfl,rfl,rfl,rfl,rfl,rfl,rfl⟩):=h
def IV(h:ww:=by clear l mv fo bK V Q' T Q;refine aK;generalize ?_=O;exact O):=h
def IW(h:ww:=by refine oc;rcases this with rfl|rfl<;>rfl):=h
def IX(h:ww:=by have Y:=λx:bA G=>aX (((s _).1 x.held).bD);generalize ?_=O;exact O):=h
def IY(h:ww:=by
 have:(2:U) ^ 64=18446744073709551616:=bs
 omega):=h
def IZ(h:ww:=by refine dU;clear C S;refine aK;generalize ?_=O;exact O):=h
def I0(h:ww:=by clear t E D r ar K q;refine aK;generalize ?_=O;exact O):=h
def I2(h:ww:=by refine aK;go_ret;exact⟨rfl,Q.o⟩):=h
def I3(h:ww:=by refine aK;go_end0;exact o8):=h
def I4(h:ww:=by exact⟨rfl,rfl,rfl,rfl,rfl,rfl,rfl,rfl⟩):=h
def DJ(h:ww:=by
 have bI:(ca != 0)=true:=by simpa using h1
 generalize ?_=O;exact O):=h
def DK(h:ww:=by refine cg;refine rW bc bc ?_;generalize ?_=O;exact O):=h
def I5(h:ww:=by refine fB;exact⟨⟨_,rfl⟩,a.o⟩):=h
def I6(h:ww:=by rw[kD.1 hm];intro c;cases c):=h
def DL(h:ww:=by simp only[mM,ba.mk.injEq,and_true,true_and];generalize ?_=w;exact w):=h
def I7(h:ww:=by refine wpQuiet_nil ?_;intro _ q;have⟨x,t⟩:=q;subst t;generalize ?_=O;exact O):=h
def DM(h:ww:=by
 have:=(mI.1 a).1
 generalize ?_=e;exact e):=h
def I8(h:ww:=by refine C.o.mono ?_;rintro e aq ⟨v,rfl,ar,i⟩;generalize ?_=O;exact O):=h
def I9(h:ww:=by
 have e:same c (d :: r)=same c r+1:=by rw[same,aD hd]
 generalize ?_=b;exact b):=h
def V_(h:ww:=by obtain⟨v,a_⟩:=(m _).1 t.held;exact bb a_.bh rfl):=h
def I_(h:ww:=by simp only[tm,r6];go_wp2;generalize ?_=O;exact O):=h
def Wb(h:ww:=by
 have:=yP l _ (BD n)
 unfold oj at this;unfold more;omega):=h
def Wd(h:ww:=by simp only[cG,h3,eA,iv];omega):=h
def We(h:ww:=by
 have:i=0\/i=1:=I
 rcases this with rfl|rfl<;>omega):=h
def Wf {p:ae} (h:p:=by
 show dI (p.2++l1 _ _ _ _)=_;rw[Bh,ah0,gq]
 ):p:=h
def Wg(h:ww:=by refine kF;exact⟨by simp[h1,h2],rfl⟩):=h
def Wh(h:ww:=by exact(((h.setBody k v).uw (n+1) I).drew _)):=h
def I'(h:ww:=by obtain⟨i,av,rfl⟩:=HF l;generalize ?_=g;exact g):=h
def Ja(h:ww:=by refine l.o.mono ?_;rintro r br ⟨q,V'⟩;generalize ?_=O;exact O):=h
def Jb(h:ww:=by
 go_wp2_with refine y9 N rfl rfl rfl rfl ?_
 generalize ?_=O;exact O):=h
def Wi(h:ww:=by rw[<-r9,b,s1];simp only[cG,s2,hk]):=h
def Jc(h:ww:=by refine vu;clear hd;go_simp;generalize ?_=O;exact O):=h
def Wk(h:ww:=by exact⟨rfl,(b.below (B:=w.heap.size) bu a1)⟩):=h
def Wl(h:ww:=by exact⟨l,by rw[d.o],by rw[d.o];exact K.o.2⟩):=h
def Wm(h:ww:=by rw[hk]at this;rw[h2,this];simp only[gj.step,hk]):=h
def Wn(h:ww:=by exact⟨rfl,H.o.drew _,(ag.refl _ _).drewN _⟩):=h
def Wo(h:ww:=by rw[Ou _ _ _ _ (by simp at an;omega)];simp[runs,im]):=h
def Wp(h:ww:=by subst m;exact⟨V,a8.wpOp av x ⟨x,H⟩⟩):=h
def Wq(h:ww:=by rw[take_add,<-se.o];exact ahQ _ _ _ _ c r'.o):=h
def ob(h:ww:=by have g':=ad gf;have lb:=ad hk;generalize ?_=O;exact O):=h
def iZ(h:ww:=by refine fB;exact o9):=h
def si(h:ww:=by refine aK;refine Z.o.mono ?_;generalize ?_=O;exact O):=h
def qW(h:ww:=by clear C;refine aK;generalize ?_=O;exact O):=h
def sj(h:ww:=by have R:=ag.bU (S:=aH) al a1;generalize ?_=O;exact O):=h
def tC(h:ww:=by have D:=ad d;refine aK;generalize ?_=O;exact O):=h
def xE(h:ww:=by generalize World.setCell _ _ _=a' at *;generalize ?_=O;exact O):=h
def DN(h:ww:=by refine aS (d.o _) λaq r=>?_;generalize ?_=O;exact O):=h
def xF(h:ww:=by refine aK;refine aS H.o ?_;generalize ?_=O;exact O):=h
def vq(h:ww:=by refine E _ _ (z) ?_;clear E K;generalize ?_=O;exact O):=h
def o7(h:ww:=by obtain⟨A,cap,rfl,_,_⟩:=dA ar;generalize ?_=O;exact O):=h
def tD(h:ww:=by refine aK;refine aS C.out ?_;generalize ?_=O;exact O):=h
def xG(h:ww:=by refine aS c.o λaF al=>?_;generalize ?_=O;exact O):=h
def sk(h:ww:=by refine fB;exact⟨aM,cp⟩):=h
def sl(h:ww:=by have bR:=aX C.et;have g0:=bV C.et;generalize ?_=O;exact O):=h
def vr(h:ww:=by generalize wr.drew=P at *;generalize ?_=O;exact O):=h
def qX(h:ww:=by go_ret2;exact o9):=h
def p8(h:ww:=by rw[<-reverse_reverse xs];generalize ?_=m;exact m):=h
def sm(h:ww:=by refine aK;go_quiet (fail);generalize ?_=O;exact O):=h
def xH(h:ww:=by refine aK;refine bJ f.o ?_;generalize ?_=O;exact O):=h
def DO(h:ww:=by refine aK;refine C.out.mono ?_;generalize ?_=O;exact O):=h
def DP(h:ww:=by refine E _ _ (dB (t)) ?_;clear E K;generalize ?_=O;exact O):=h
def xI(h:ww:=by refine fB;exact⟨rfl,_,rfl⟩):=h
def zZ(h:ww:=by have l:=f.keep (bd wr).drew;generalize ?_=O;exact O):=h
def xJ(h:ww:=by refine fB;exact⟨rfl,al⟩):=h
def xK(h:ww:=by rw[t]at r;have D:=ad t;clear t;generalize ?_=O;exact O):=h
def DQ(h:ww:=by refine aK;refine bJ (b _) ?_;generalize ?_=O;exact O):=h
def xL(h:ww:=by exact⟨rfl,h,ag.refl _ _⟩):=h
def xM(h:ww:=by simp only[e9,hf]at a;generalize ?_=O;exact O):=h
def xN(h:ww:=by have⟨q,a,c,e,aA,av,aw⟩:=l;generalize ?_=O;exact O):=h
def vt(h:ww:=by apply y_;intro k;generalize ?_=d;exact d):=h
def vu(h:ww:=by obtain rfl:=l8 ar;generalize ?_=O;exact O):=h
def z1(h:ww:=by exact⟨h,λc=>by cases c⟩):=h
def z6(h:ww:=by have m:=ad a;refine cg;generalize ?_=O;exact O):=h
def DR(h:ww:=by simpa only[ft]using this):=h
def xO(h:ww:=by have akp:=a7;simp only[eA]at akp;generalize ?_=O;exact O):=h
def xP(h:ww:=by have⟨h1,h2,s,k⟩:=h;generalize ?_=O;exact O):=h
def xQ(h:ww:=by have i:=wq bg;have j:=wq al;generalize ?_=O;exact O):=h
def z7(h:ww:=by have g0:=bV E;have z0:=aX E;generalize ?_=O;exact O):=h
def xR(h:ww:=by generalize World.drew _=wd at *;generalize ?_=O;exact O):=h
def DS(h:ww:=by exact a i j0):=h
def z8(h:ww:=by have g:=ad ax;refine aK;generalize ?_=O;exact O):=h
def Je(h:ww:=by exact cu (oZ _ _) aM):=h
def DT(h:ww:=by refine z _ _ (trivial) ?_;clear z K;generalize ?_=O;exact O):=h
def Jf(h:ww:=by exact⟨⟨_,_,_,_,rfl⟩,f.o.2⟩):=h
def Jg(h:ww:=by go_wp2;go_ret2;exact⟨rfl,_,rfl⟩):=h
def DU(h:ww:=by refine iU λK E=>?_;go_simp;generalize ?_=O;exact O):=h
def Jh(h:ww:=by exact⟨rfl,λc=>c,rfl,d,rfl⟩):=h
def DV(h:ww:=by have ar:=kR i av;have ao:=h.pl _ ar;generalize ?_=n;exact n):=h
def DW(h:ww:=by have akk:=bV V.msg;have akj:=aX V.msg;generalize ?_=O;exact O):=h
def DX(h:ww:=by go_ret;exact⟨rfl,cp⟩):=h
def Ji(h:ww:=by intro l x W K a';gi_wp2;exact a'):=h
def DY(h:ww:=by have⟨F,us,A,av⟩:=h.ps k hk;generalize ?_=O;exact O):=h
def Jk(h:ww:=by exact⟨_,_,_,_,_,rfl,g'.o⟩):=h
def z_(h:ww:=by rintro e aF ⟨rfl,q,rfl⟩;generalize ?_=O;exact O):=h
def Jl(h:ww:=by
 split
 .omega
 .split<;>omega):=h
def Jm(h:ww:=by simp only[resolve,a7];simp[go_sem]):=h
def aK(h:ww:=by go_wp2_with fail;generalize ?_=O;exact O):=h
def tE(h:ww:=by have D:=ad C;clear C;generalize ?_=O;exact O):=h
def p9(h:ww:=by have Q:=bN fo mv;generalize ?_=O;exact O):=h
def mN(h:ww:=by rintro e _ ⟨rfl,rfl⟩;generalize ?_=O;exact O):=h
def o8(h:ww:=by exact⟨rfl,y⟩):=h
def kF(h:ww:=by
 go_in
 refine fB;generalize ?_=O;exact O):=h
def o9(h:ww:=by exact⟨rfl,rfl⟩):=h
def p_(h:ww:=by have⟨V,T,d,h⟩:=h;generalize ?_=O;exact O):=h
def z'(h:ww:=by exact⟨rfl,f.o⟩):=h
def mO(h:ww:=by simpa using this):=h
def Aa(h:ww:=by rw[ft]at t;generalize ?_=O;exact O):=h
def oc(h:ww:=by
 have:k=0\/k=1:=I
 generalize ?_=O;exact O):=h
def sn(h:ww:=by gi_wp2_with (fail);generalize ?_=O;exact O):=h
def xS(h:ww:=by simp only[Act.put,dV];generalize ?_=O;exact O):=h
def p'(h:ww:=by simp only[Act.put];generalize ?_=O;exact O):=h
def Ab(h:ww:=by rw[te];rfl):=h
def Ac(h:ww:=by rename_i e;exact .inr e):=h
def Ad(h:ww:=by exact .inl (.inl a)):=h
def xT(h:ww:=by refine(Cn (n:=0)).1 ?_;generalize ?_=O;exact O):=h
def dU(h:ww:=by have m':=ad C;generalize ?_=O;exact O):=h
def cg(h:ww:=by
 go_in
 refine aK;generalize ?_=O;exact O):=h
def vw(h:ww:=by have vs:=ad ao;clear ao;generalize ?_=O;exact O):=h
def ed(h:ww:=by rw[D]at N;generalize ?_=O;exact O):=h
def j1(h:ww:=by have dq:=aX L;generalize ?_=O;exact O):=h
def fB(h:ww:=by go_wp2;go_ret;generalize ?_=O;exact O):=h
def o_(h:ww:=by exact a _ _ _):=h
def Q4 {p:ae} (h:p:=by
 by_cases k:f<first+size
 .exact h.oE f I k b c
 .have ao:=h.pos;have e:=r5 (f-first) size;have hm:=gb (f-first) ao;generalize o:(f-first)%size=iJ at *;generalize (f-first) / size=d at *;have hd:0<d:=by
   rcases tk d with hd|hd
   .subst hd;rw[Nat.mul_zero]at e;omega
   .exact hd
  have j:=QE size hd;rw[HO]at j;have i:f=first+iJ+size*d:=I
  have l:f%size=(first+iJ)%size:=by rw[i,Nat.add_mul_mod_self_left]
  rw[l];refine h.oE (first+iJ) I I I (M' λp g m=>?_)
  have:=a p g
  omega
 ):p:=h
def Q5 {p:ae} (h:p:=by
 have d:∀ f∈(L.map (·.1)).filter p,first<=f/\f<first+size:=λf a=>by
  obtain⟨q,b,rfl⟩:=gO.1 (hN.1 a).1;exact⟨(h.ik q b).1,(h.ik q b).2.1⟩
 have e:∀ f,f∈(L.map (·.1)).filter p↔(eu L f).isSome=true/\p f=true:=λf=>by
  rw[hN,gO];constructor
  .rintro⟨⟨q,b,rfl⟩,ao⟩;exact⟨by rw[Ft h.eV (x:=q.2) b];rfl,ao⟩
  .rintro⟨aA,ao⟩;obtain⟨x,ak⟩:=HQ.1 aA;exact⟨⟨_,wA ak,rfl⟩,ao⟩
 generalize ?_=j;exact j
 ):p:=h
def Q6(h:ww:=by
 rw[e,c _ (by simpa using aA) (λx ak=>b x (by simp[ak]))];by_cases h1:g∈a
 .rw[aD h1,aD (by simp[h1])]
 .rw[az h1];by_cases h2:g=f
  .subst h2;rw[aD aM,xe (by rw[aA];exact gb _ ao)]
  .rw[az (by simp[h1,h2]),r2 (λh=>h2 (Fx a7 (b f aM) h.symm))]):=h
def Q7(h:ww:=by
 rw[Na]at a7;split at a7
 .rename_i e;subst e;cases a7;rw[xe CS]
 .rename_i e;have av:=h.ik _ (wA a7);rw[r2 (λc=>e (Fx (first:=first) ⟨av.1,av.2.1⟩ ⟨a.1,a.2.1⟩ c.symm))];exact h.nZ g y a7):=h
def Q8 {p:ae} (h:p:=by
 split
 .exact⟨_,rfl⟩
 .rename_i aw;rw[Bn (p:=λn=>!p n)]at a;split at a
  .exact h.oE f h1 h2 g a
  .rename_i ao;rcases i:eu L f with _|x
   .exact h.oE f h1 h2 g i
   .exact absurd ((e f).2 ⟨by rw[i];rfl,by simpa using ao⟩) aw
 ):p:=h
def Q9 {p:ae} (h:p:=by
 rw[<-LN h.eV first size (λp ao=>⟨(h.ik p ao).1,(h.ik p ao).2.1⟩)];rw[filter_filter];refine zl λf a=>?_;obtain⟨i,av,rfl⟩:=gO.1 a;have av:=p1.1 av;rw[h.has (first+i) I I]
 ):p:=h
def Ra {p:ae} (h:p:=by
 by_cases a:f<=1073741824
 .rcases b:eu L f with _|x
  .have⟨y,a8⟩:=h.oE f h1 h2 a b;rw[a8];simp
  .rw[h.nZ f x b];simp[a]
 .rw[M' (L:=L) (f:=f) (λp ao e=>a (by have:=(h.ik p ao).2.2;omega))];simp[a]
 ):p:=h
def Re(h:ww:=by have bI:=aX (us:=(fU (v2 4) (v2 5) (v2 6) (v2 7) (v2 8) (v2 9) (v2 10) (v2 11) (v2 12) (v2 13))) s.bw rfl;have akb:=aX (us:=(fU (v2 14) (v2 15) (v2 16) (v2 17) (v2 18) (v2 19) (v2 20) (v2 21) (v2 22) (v2 23))) s.d0 rfl;generalize ?_=C;exact C):=h
def Rf(h:ww:=by
 rw[Na]at a7;split at a7
 .cases a7
 .rename_i e;rw[r2 (λc=>e (Fx (first:=first) ⟨h1,h2⟩ ⟨a.1,a.2.1⟩ c.symm))];exact h.oE g h1 h2 b a7):=h
def Rg(h:ww:=by
 have⟨⟨⟨⟨⟨y,r⟩,N⟩,ao⟩,s⟩,q⟩:=b;have g:k∈Region.ready md ops aI:=by simpa using y
 have⟨_,o,D,_⟩:=n4.1 g;rw[Nx D]at h;refine ed;generalize ?_=O;exact O):=h
def Rh {p:ae} (h:p:=by
 have ajY:=lQ (S:=λk=>w.heap.size+3<k) (w:=W.drew) (p:=ah w 0) ajX (by show ¬ w.heap.size+3<w.heap.size;omega);generalize ?_=akf;exact akf
 ):p:=h
def Ri(h:ww:=by gi_wp2;refine⟨aM,.inl ⟨_,_,rfl,run_takeDeferred Z,?_⟩⟩;refine⟨_,Cm rfl _ _ _,?_⟩;exact ajZ.o _):=h
def Rj(h:ww:=by have Z:=bK.heap M.o id;have E:=V.o.trans (Y.mono V.o.size);have bw:=aX t;have f0:=bV t;have T':=bZ t;generalize ?_=C;exact C):=h
def Rk(h:ww:=by
 have c:l[i]?=some o:=by simpa using ar
 simp only[];rw[aD (aiO (d o (mK c)) _)];generalize ?_=s;exact s):=h
def Rl(h:ww:=by have a':=ad m;have gf:=ad mv;have fo:=ad lb;have g':=ad u;have fr:=ad l';refine jI;generalize ?_=C;exact C):=h
def Rm(h:ww:=by rintro e v2 ⟨l,rfl,ao,Y⟩;have bK:ag aH v1 v2:=ag.bU Y a1;have V':=bZ M.o;generalize ?_=C;exact C):=h
def Rn(h:ww:=by have⟨⟨aL,FC,x⟩,zd,X⟩:=F;have fF:=aX x;have f3:=bV x;have W':=bZ x;generalize ?_=C;exact C):=h
def sf(h:ww:=by have⟨j,u,y,D,F,G,H,K,i,bS,B,d,C,w,E⟩:=h;generalize ?_=Q;exact Q):=h
def Rp(h:ww:=by
 have:=c6 length aj0
 rw[iP]at this;rw[this];unfold pS;split<;>simp):=h
def Rr(h:ww:=by simp only[h3,iv,gN]at this;omega):=h
def Rt(h:ww:=by
 have:=QE size c
 rw[Nat.mul_succ]at this;omega):=h
def Ru(h:ww:=by rw[n]at a_;simp only[He]at a_;rw[a_.1];rfl):=h
def Rv {p:ae} (h:p:=by
 rcases Nh ao with rfl|ao
 .exact a
 .exact h.ik p ao
 ):p:=h
def Rw(h:ww:=by have K:ag aH wr aq:=((ag.refl _ wr).alloc _).ga A;have d:=aU.keep K;generalize ?_=C;exact C):=h
def Rx(h:ww:=by refine⟨_,_,Xr W,?_⟩;have hk:ag aH W (W.alloc (ab cH 91)):=(bd W).alloc _;generalize ?_=g;exact g):=h
def C8(h:ww:=by have hm:=kD.1 hm;subst hm;generalize ?_=Q;exact Q):=h
def C9(h:ww:=by refine E _ _ (X) ?_;clear E K;generalize ?_=O;exact O):=h
def jI(h:ww:=by go_wp2_with fail;generalize ?_=C;exact C):=h
def xu(h:ww:=by rw[<-j.o];exact f.o):=h
variable{w:aj}{b k:J}{vs:a6 ay}{t:TypeId}{v:ay}
def bb(h:w.heap[b]?=some (ab vs t (0,0)))(a_:vs[k]?=some v):w.cell? (ah b k)=some v:=by
 unfold World.cell?;rw[h];exact a_
def gY(h:w.heap[b]?=some (ab vs t (0,0)))(k:J):w.frozen? (ah b k)=false:=by
 unfold World.frozen?;rw[h];simp
def XE(i j:J){x y:ay}(h:w.heap[b]?=some (.cells vs t (0,0)))(e:vs[i]?=some x/\vs[j]?=some y):w.cell? ⟨b,i,none⟩=some x/\w.cell? ⟨b,j,none⟩=some y:=⟨bb h e.1,bb h e.2⟩
def XL(h:w.heap[b]?=some (.cells vs t (0,0)))(i j:J):w.frozen? ⟨b,i,none⟩=false/\w.frozen? ⟨b,j,none⟩=false:=⟨gY h i,gY h j⟩
def Kw(d a c:J)(h:w.heap[b]?=some (.cells vs t (0,0)))(e:vs[d]?=some cx/\vs[a]?=some cm/\vs[c]?=some cB):w.cell? ⟨b,d,none⟩=some cx/\w.cell? ⟨b,a,none⟩=some cm/\w.cell? ⟨b,c,none⟩=some cB:=⟨bb h e.1,XE a c h e.2⟩
def XM(h:w.heap[b]?=some (.cells vs t (0,0)))(a c d:J):w.frozen? ⟨b,a,none⟩=false/\w.frozen? ⟨b,c,none⟩=false/\w.frozen? ⟨b,d,none⟩=false:=⟨gY h a,XL h c d⟩
def Kx(f a c d:J)(h:w.heap[b]?=some (.cells vs t (0,0)))(e:vs[f]?=some cx/\vs[a]?=some cm/\vs[c]?=some cB/\vs[d]?=some eS):w.cell? ⟨b,f,none⟩=some cx/\w.cell? ⟨b,a,none⟩=some cm/\w.cell? ⟨b,c,none⟩=some cB/\w.cell? ⟨b,d,none⟩=some eS:=⟨bb h e.1,Kw a c d h e.2⟩
def XN(h:w.heap[b]?=some (.cells vs t (0,0)))(a c d e:J):w.frozen? ⟨b,a,none⟩=false/\w.frozen? ⟨b,c,none⟩=false/\w.frozen? ⟨b,d,none⟩=false/\w.frozen? ⟨b,e,none⟩=false:=⟨gY h a,XM h c d e⟩
def XF(g a c d f:J)(h:w.heap[b]?=some (.cells vs t (0,0)))(e:vs[g]?=some cx/\vs[a]?=some cm/\vs[c]?=some cB/\vs[d]?=some eS/\vs[f]?=some hZ):w.cell? ⟨b,g,none⟩=some cx/\w.cell? ⟨b,a,none⟩=some cm/\w.cell? ⟨b,c,none⟩=some cB/\w.cell? ⟨b,d,none⟩=some eS/\w.cell? ⟨b,f,none⟩=some hZ:=⟨bb h e.1,Kx a c d f h e.2⟩
def XO(h:w.heap[b]?=some (.cells vs t (0,0)))(a c d e f:J):w.frozen? ⟨b,a,none⟩=false/\w.frozen? ⟨b,c,none⟩=false/\w.frozen? ⟨b,d,none⟩=false/\w.frozen? ⟨b,e,none⟩=false/\w.frozen? ⟨b,f,none⟩=false:=⟨gY h a,XN h c d e f⟩
def XG(i a c d f g:J)(h:w.heap[b]?=some (.cells vs t (0,0)))(e:vs[i]?=some cx/\vs[a]?=some cm/\vs[c]?=some cB/\vs[d]?=some eS/\vs[f]?=some hZ/\vs[g]?=some iX):w.cell? ⟨b,i,none⟩=some cx/\w.cell? ⟨b,a,none⟩=some cm/\w.cell? ⟨b,c,none⟩=some cB/\w.cell? ⟨b,d,none⟩=some eS/\w.cell? ⟨b,f,none⟩=some hZ/\w.cell? ⟨b,g,none⟩=some iX:=⟨bb h e.1,XF a c d f g h e.2⟩
def XP(h:w.heap[b]?=some (.cells vs t (0,0)))(a c d e f g:J):w.frozen? ⟨b,a,none⟩=false/\w.frozen? ⟨b,c,none⟩=false/\w.frozen? ⟨b,d,none⟩=false/\w.frozen? ⟨b,e,none⟩=false/\w.frozen? ⟨b,f,none⟩=false/\w.frozen? ⟨b,g,none⟩=false:=⟨gY h a,XO h c d e f g⟩
def XH(j a c d f g i:J)(h:w.heap[b]?=some (.cells vs t (0,0)))(e:vs[j]?=some cx/\vs[a]?=some cm/\vs[c]?=some cB/\vs[d]?=some eS/\vs[f]?=some hZ/\vs[g]?=some iX/\vs[i]?=some ib):w.cell? ⟨b,j,none⟩=some cx/\w.cell? ⟨b,a,none⟩=some cm/\w.cell? ⟨b,c,none⟩=some cB/\w.cell? ⟨b,d,none⟩=some eS/\w.cell? ⟨b,f,none⟩=some hZ/\w.cell? ⟨b,g,none⟩=some iX/\w.cell? ⟨b,i,none⟩=some ib:=⟨bb h e.1,XG a c d f g i h e.2⟩
def XQ(h:w.heap[b]?=some (.cells vs t (0,0)))(a c d e f g i:J):w.frozen? ⟨b,a,none⟩=false/\w.frozen? ⟨b,c,none⟩=false/\w.frozen? ⟨b,d,none⟩=false/\w.frozen? ⟨b,e,none⟩=false/\w.frozen? ⟨b,f,none⟩=false/\w.frozen? ⟨b,g,none⟩=false/\w.frozen? ⟨b,i,none⟩=false:=⟨gY h a,XP h c d e f g i⟩
def ajG(k a c d f g i j:J){l:ay}(h:w.heap[b]?=some (.cells vs t (0,0)))(e:vs[k]?=some cx/\vs[a]?=some cm/\vs[c]?=some cB/\vs[d]?=some eS/\vs[f]?=some hZ/\vs[g]?=some iX/\vs[i]?=some ib/\vs[j]?=some l):w.cell? ⟨b,k,none⟩=some cx/\w.cell? ⟨b,a,none⟩=some cm/\w.cell? ⟨b,c,none⟩=some cB/\w.cell? ⟨b,d,none⟩=some eS/\w.cell? ⟨b,f,none⟩=some hZ/\w.cell? ⟨b,g,none⟩=some iX/\w.cell? ⟨b,i,none⟩=some ib/\w.cell? ⟨b,j,none⟩=some l:=⟨bb h e.1,XH a c d f g i j h e.2⟩
def ajH(h:w.heap[b]?=some (.cells vs t (0,0)))(a c d e f g i j:J):w.frozen? ⟨b,a,none⟩=false/\w.frozen? ⟨b,c,none⟩=false/\w.frozen? ⟨b,d,none⟩=false/\w.frozen? ⟨b,e,none⟩=false/\w.frozen? ⟨b,f,none⟩=false/\w.frozen? ⟨b,g,none⟩=false/\w.frozen? ⟨b,i,none⟩=false/\w.frozen? ⟨b,j,none⟩=false:=⟨gY h a,XQ h c d e f g i j⟩
def bZ{o:Obj}(h:w.heap[b]?=some o):b<w.heap.size:=(mI.1 h).1
def bX(h:w.heap[b]?=some (ab vs t (0,0)))(k:J)(u:ay):(w.setCell (ah b k) u).heap[b]?=some (ab (vs.setIfInBounds k u) t (0,0)):=by
 have a:=bZ h;have c:w.heap[b]=ab vs t (0,0):=by simpa[uQ a]using h
 show(w.heap.modify b _)[b]?=_;rw[uQ (by simpa using a),Ql,c];rfl
def eB{o:Obj}{p:Addr}(h:w.heap[b]?=some o)(hne:b≠p.block)(u:ay):(w.setCell p u).heap[b]?=some o:=(Hj _ _ _ _ hne).trans h
def b2{o:Obj}(h:w.heap[b]?=some o)(x:Obj):(w.alloc x).heap[b]?=some o:=(Ci _ _ _ (bZ h)).trans h
def aP(w:aj)(o:Obj):(w.alloc o).heap[w.heap.size]?=some o:=World.alloc_heap_new w o
def mr{S:J->ae}{w w':aj}(h:ag aH w w'):ag S w w':=h.mono λ_ _ x=>x.elim
def nL{S:J->ae}{w w':aj}(h:ag S w w'):ag S w.drew w':=⟨h.os,h.tape,h.output,h.size,h.block⟩
def aX{w:aj}{b:J}{vs us:a6 ay}{t:TypeId}(h:w.heap[b]?=some (ab vs t (0,0)))(e:vs=us:=by first|exact(rfl:_=#[_])|exact(rfl:_=#[_,_])|exact(rfl:_=#[_,_,_])|exact(rfl:_=#[_,_,_,_])|exact(rfl:_=#[_,_,_,_,_])|exact(rfl:_=#[_,_,_,_,_,_])|exact(rfl:_=#[_,_,_,_,_,_,_])|exact(rfl:_=#[_,_,_,_,_,_,_,_])|exact(rfl:_=#[_,_,_,_,_,_,_,_,_])|exact(rfl:_=#[_,_,_,_,_,_,_,_,_,_])|exact(rfl:_=#[_,_,_,_,_,_,_,_,_,_,_])|exact(rfl:_=#[_,_,_,_,_,_,_,_,_,_,_,_])|exact(rfl:_=#[_,_,_,_,_,_,_,_,_,_,_,_,_])|exact(rfl:_=#[_,_,_,_,_,_,_,_,_,_,_,_,_,_])|exact(rfl:_=#[_,_,_,_,_,_,_,_,_,_,_,_,_,_,_])|exact(rfl:_=#[_,_,_,_,_,_,_,_,_,_,_,_,_,_,_,_])):∀ k,w.cell? (ah b k)=us[k]?:=λk=>by
 unfold World.cell?;rw[h,e];rfl
def bV{w:aj}{b:J}{vs:a6 ay}{t:TypeId}(h:w.heap[b]?=some (ab vs t (0,0))):∀ k,w.frozen? (ah b k)=false:=gY h
section
variable{P:Program}{w W:aj}{f:FuncId}{q2:a6 ay}{ajD vG:Ending->aj->ae}{R:aj->ae}{v:Ending}{G:ae}
def bJ(c:Calls P f q2 w λe w'=>e=v/\W=w')(k:vG v W):Calls P f q2 w vG:=c.mono λ_ _ ⟨a,b⟩=>a▸b▸k
def zw(c:Calls P f q2 w λe w'=>e=v/\w'=W)(k:vG v W):Calls P f q2 w vG:=c.mono λ_ _ ⟨a,b⟩=>a▸b▸k
def aS(c:Calls P f q2 w λe w'=>e=v/\R w')(k:∀ w',R w'->vG v w'):Calls P f q2 w vG:=c.mono λ_ w' ⟨a,b⟩=>a▸k w' b
end
def c8{α:Sort _}(x:α):∃ o,o=x:=⟨_,rfl⟩
def bN{q:ae}(a:p)(b:q):Hid (p/\q):=⟨a,b⟩
def gg{F:aj->ae}:∃ G:aj->ae,∀ W,G W↔F W:=⟨_,λ_=>Iff.rfl⟩
section
structure aC where
 S:J->ae
 P:aj->ae
 lt:∀ {w b},P w->S b->b<w.heap.size
 frame:∀ {w w':aj} {T:J->ae},P w->ag T w w'->(∀ b,S b->¬ T b)->P w'
def aC.bh(b:J)(o:a6 ay×TypeId):aC where
 S j:=j=b
 P w:=w.heap[b]?=some (ab o.1 o.2 (0,0))
 lt h e:=by subst e;exact(mI.1 h).1
 frame h hk aA:=hk.heap h (aA b rfl)
def aC.none:aC:=⟨λ_=>False,λ_=>True,λ_ h=>h.elim,λ_ _ _=>trivial⟩
def tF(r s:aC):ae:=∀ b,r.S b->¬ s.S b
def tF.symm{r s:aC}(h:tF r s):tF s r:=λb h1 h2=>h b h2 h1
structure Sep(w:aj)(L:ai aC):ae where
 all:∀ r∈L,r.P w
 apart:L.Pairwise tF
namespace Sep
variable{w w':aj}{L:ai aC}
def at'(h:Sep w L)(i:J){r:aC}(av:L[i]?=some r):r.P w:=h.all r (mK av)
theorem lt(h:Sep w L){r:aC}(a:r∈L){b:J}(al:r.S b):b<w.heap.size:=r.lt (h.all r a) al
def tL(h:Sep w L){r s:aC}(av:L[i]?=some r)(c:L[j]?=some s)(b:i≠j):tF r s:=by
 obtain⟨h1,rfl⟩:=ir.1 av;obtain⟨h2,rfl⟩:=ir.1 c;have ao:=u_.1 h.apart;rcases Nat.lt_or_gt_of_ne b with a|a
 .exact ao i j h1 h2 a
 exact(ao j i h2 h1 a).symm
theorem keeps{T:J->ae}(h:Sep w L)(hk:ag T w w')(c:∀ r∈L,∀ b,r.S b->¬ T b):Sep w' L:=
 ⟨λr a=>r.frame (h.all r a) hk (c r a),h.apart⟩
def keep(h:Sep w L)(hk:ag aH w w'):Sep w' L:=h.keeps hk (λ_ _ _ _=>id)
def below(h:Sep w L)(al:Below w w w'):Sep w' L:=h.keep (ag.bU al λk h1 h2=>I)
def drew(h:Sep w L)(n:J):Sep (w.drewN n) L:=h.keep ((ag.refl _ w).drewN n)
theorem alloc(h:Sep w L)(o:Obj):Sep (w.alloc o) L:=h.keep ((ag.refl _ w).alloc o)
theorem set{T:J->ae}(h:Sep w L)(i:J){r r':aC}(av:L[i]?=some r)(hk:ag T w w')(g:∀ b,b<w.heap.size->T b->r.S b)(f:r'.P w')(ax:∀ b,r'.S b->r.S b\/w.heap.size<=b):Sep w' (L.set i r'):=by
 have⟨l,m⟩:=ir.1 av;have key:∀ j s,j≠i->L[j]?=some s->s.P w'/\tF r' s:=by
  intro j s c aA;have hm:=mK aA;have bg:=h.tL av aA (h4 c);refine⟨s.frame (h.all s hm) hk λb al aW=>bg b (g b (h.lt hm al) aW) al,λb al d=>?_⟩;rcases ax b al with h1|h1
  .exact bg b h1 d
  have:=h.lt hm d;omega
 refine⟨λs aA=>?_,?_⟩
 .have⟨j,c⟩:=getElem?_of_mem aA;by_cases e:j=i
  .subst e;rw[xe l]at c;cases c;exact f
  rw[r2 (h4 e)]at c;exact(key j s e c).1
 rw[u_];intro a b bg al k;rw[r3]at bg al;by_cases e6:a=i
 .subst e6;rw[Cz,zn I];exact(key b _ I (gW (by simpa using al))).2
 rw[zn (h4 e6)];by_cases lL:b=i
 .subst lL;rw[Cz];exact(key a _ e6 (gW (by simpa using bg))).2.symm
 rw[zn (h4 lL)];exact u_.1 h.apart a b bg al k
theorem cons{T:J->ae}(h:Sep w L){r:aC}(hk:ag T w w')(c:∀ s∈L,∀ b,s.S b->¬ T b)(a:r.P w')(ax:∀ b,r.S b->w.heap.size<=b):Sep w' (r :: L):=
 ⟨λs aA=>by
  rcases fW.1 aA with rfl|aA
  .exact a
  .exact s.frame (h.all s aA) hk (c s aA),k4.2 ⟨λs aA b h1 h2=>by have:=ax b h1;have:=h.lt aA h2;omega,h.apart⟩⟩
theorem nil(w:aj):Sep w []:=⟨λ_ h=>by simp at h,.nil⟩
def tail{r:aC}(h:Sep w (r :: L)):Sep w L:=⟨λs aA=>h.all s (by simp[aA]),(k4.1 h.apart).2⟩
end Sep
end
def NL{f s t:J}(a:f<s)(aW:t<s):(f+t)%s=if f+t<s then f+t else f+t-s:=by
 by_cases h:f+t<s
 .rw[aD h,kE h]
 rw[az h,Nat.mod_eq_sub_mod I,kE I]
def Bv{f s t u:J}(a:f<s)(aW:t<s)(b:u<s)(h:(f+t)%s=(f+u)%s):t=u:=by
 rw[NL a aW,NL a b]at h;split at h<;>split at h<;>omega
def ad7(f s t:J):((f+1)%s+t)%s=(f+(t+1))%s:=by
 rw[Nat.mod_add_mod]
 congr 1
 omega
def Holds{α:Type}(A:List α)(f s:J)(L:List α):ae:=∀ t,t<L.length->A[(f+t)%s]?=L[t]?
section
variable{α:Type}{A L:List α}{f s:J}
def Holds.push(h:Holds A f s L)(b:f<s)(d:A.length=s)(c:L.length<s)(v:α):Holds (A.set ((f+L.length)%s) v) f s (L++[v]):=by
 intro t aW;simp only[cG,eA,gN]at aW;have hk:(f+L.length)%s<s:=gb _ I;by_cases e:t=L.length
 .subst e;rw[xe I];simp
 rw[r2 (λa=>e (Bv b I c a.symm)),h t I,jF I]
def Holds.pop(h:Holds A f s L)(a:f<s)(b:L.length<=s)(aw:0<L.length)(v:α):Holds (A.set f v) ((f+1)%s) s L.tail:=by
 intro t aW;simp only[length_tail]at aW;rw[ad7];rw[r2 (λe=>absurd (Bv (t:=0) (u:=t+1) a I I ((kE a).trans e)) I),h (t+1) I];simp
def tJ(A:List α)(f s:J)(L:List α)(i j:J):ae:=∀ t,t<L.length->A[(f+t)%s]?=if i<=t/\t<j then L[t+1]? else L[t]?
def Holds.shift(h:Holds A f s L)(i:J):tJ A f s L i i:=by
 intro t aW;rw[az I];exact h t aW
def tJ.next(h:tJ A f s L i j)(b:f<s)(d:A.length=s)(l:L.length<=s)(g:i<=j)(k:j+1<L.length)(y:α)(a8:A[(f+(j+1))%s]?=some y):tJ (A.set ((f+j)%s) y) f s L i (j+1):=by
 intro t aW;have hk:(f+j)%s<s:=gb _ I;by_cases e:t=j
 .subst e;rw[xe I,aD I,<-a8,h (t+1) I,az I]
 rw[r2 (λa=>e (Bv b I I a.symm)),h t aW];by_cases c:i<=t/\t<j
 .rw[aD c,aD I]
 rw[az c,az I]
def tJ.done(h:tJ A f s L i (L.length-1))(a:f<s)(b:L.length<=s)(av:i<L.length)(z:α):Holds (A.set ((f+(L.length-1))%s) z) f s (L.eraseIdx i):=by
 intro t aW;rw[length_eraseIdx_of_lt av]at aW;rw[r2 (λe=>absurd (Bv a I I e) I),h t I,getElem?_eraseIdx];by_cases c:t<i
 .rw[aD c,az I]
 rw[az c,aD I]
end
def o6(h:ww:=by cases h):=h
end Go.Proofs.YtalagblioepadaaGreatDoor
