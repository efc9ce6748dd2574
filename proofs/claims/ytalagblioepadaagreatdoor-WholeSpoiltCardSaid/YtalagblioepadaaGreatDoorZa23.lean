/- The proof, part 23. -/
import Derived.Test.YtalagblioepadaaGreatDoorZa18
import Derived.Test.YtalagblioepadaaGreatDoorZa12
import Derived.Test.YtalagblioepadaaGreatDoorZa01
namespace Go.Proofs.YtalagblioepadaaGreatDoor
section
open Go.RowKit
set_option maxRecDepth 10000
def mC (m:Msg):Array Value:=#[.int .i64 m.kind,.int .u32 m.nonce,.int .u16 m.serial,.int .u16 m.ack,.slice none 0 0,.int .u32 m.sum,.int .i64 m.lead]
def mB (A:List Msg):Array Value:=(A.flatMap fun m=>(mC m).toList).toArray
theorem mC_size (m:Msg):(mC m).size=7:=rfl
theorem mB_size (A:List Msg):(mB A).size=7*A.length:=by
 show ((A.flatMap fun m=>(mC m).toList)).length=_
 induction A with
 | nil=>rfl
 | cons a A ih=>rw[List.flatMap_cons,List.length_append,ih,List.length_cons,show (mC a).toList.length=7 from rfl];omega
theorem mB_get:∀ (A:List Msg) (k:Nat) (m:Msg),A[k]?=some m→∀ j,j<7→(mB A)[7*k+j]?=(mC m)[j]?
 | [],k,m,h,_,_=>by simp at h
 | a :: A,0,m,h,j,hj=>by
  simp only[List.getElem?_cons_zero,Option.some.injEq] at h
  subst h
  unfold mB
  rw[List.getElem?_toArray,List.flatMap_cons,List.getElem?_append_left (by show _<7;omega)]
  simp
 | a :: A,k+1,m,h,j,hj=>by
  rw[List.getElem?_cons_succ] at h
  have ih:=mB_get A k m h j hj
  unfold mB at ih ⊢
  rw[List.getElem?_toArray] at ih ⊢
  have hl:(mC a).toList.length=7:=rfl
  rw[List.flatMap_cons,List.getElem?_append_right (by omega),hl,←ih]
  congr 1
  omega
theorem mB_set (A:List Msg) (k:Nat) (hk:k<A.length) (m:Msg):spliceA (mB A) (7*k) (mC m)=mB (A.set k m):=by
 apply Array.ext_getElem?
 intro i
 rw[splice_get _ _ _ (by rw[mB_size,mC_size];omega),mC_size]
 by_cases hi:i<7*A.length
 ·obtain ⟨q,j,hj,rfl⟩:∃ q j,j<7∧i=7*q+j:=⟨i / 7,i%7,Nat.mod_lt _ (by omega),(Nat.div_add_mod i 7).symm⟩
  have hq:q<A.length:=by omega
  by_cases e:q=k
  ·subst e
   rw[if_pos (by omega),mB_get (A.set q m) q m (by rw[List.getElem?_set_self hq]) j hj,show 7*q+j-7*q=j by omega]
  ·rw[if_neg (by omega),mB_get A q A[q] (List.getElem?_eq_getElem hq) j hj,mB_get (A.set k m) q A[q] (by rw[List.getElem?_set_ne (fun h=>e h.symm),List.getElem?_eq_getElem hq]) j hj]
 ·rw[if_neg (by omega),Array.getElem?_eq_none (by rw[mB_size];omega),Array.getElem?_eq_none (by rw[mB_size,List.length_set];omega)]
theorem mC_one (m:Msg):(mC m).toList.all (fun v=>v.oneCell')=true:=by kernel_rfl
structure MRingAt (w:World) (r B size:Nat) (A:List Msg) (first n:Nat):Prop where
 head:w.heap[r]?=some (.cells #[.slice (some ⟨B,0,none⟩) size size,.int .i64 first,.int .i64 n] 388 (0,0))
 body:w.heap[B]?=some (.cells (mB A) 254 (0,0))
 alen:A.length=size
 pos:1≤size
 most:size≤4096
 fst:first<size
 cnt:n≤size
 ne:r≠B
namespace MRingAt
variable {w w':World} {r B size first n:Nat} {A:List Msg}
theorem drew (h:MRingAt w r B size A first n) (m:Nat):MRingAt (w.drewN m) r B size A first n:=⟨h.head,h.body,h.alen,h.pos,h.most,h.fst,h.cnt,h.ne⟩
theorem keeps {S:Nat→Prop} (h:MRingAt w r B size A first n) (hk:Keeps S w w') (hr:¬ S r) (hB:¬ S B):MRingAt w' r B size A first n:=
 ⟨hk.heap h.head hr,hk.heap h.body hB,h.alen,h.pos,h.most,h.fst,h.cnt,h.ne⟩
theorem c0 (h:MRingAt w r B size A first n):w.cell? ⟨r,0,none⟩=some (.slice (some ⟨B,0,none⟩) size size):=blk_cell h.head rfl
theorem c1 (h:MRingAt w r B size A first n):w.cell? ⟨r,1,none⟩=some (.int .i64 first):=blk_cell h.head rfl
theorem c2 (h:MRingAt w r B size A first n):w.cell? ⟨r,2,none⟩=some (.int .i64 n):=blk_cell h.head rfl
theorem f1 (h:MRingAt w r B size A first n):w.frozen? ⟨r,1,none⟩=false:=blk_free h.head 1
theorem f2 (h:MRingAt w r B size A first n):w.frozen? ⟨r,2,none⟩=false:=blk_free h.head 2
theorem load (h:MRingAt w r B size A first n) {k:Nat} {x:Msg} (hx:A[k]?=some x):(Instr.loadAt 254 (.pointer (some ⟨B,k*7,none⟩))).run Tryz.prog w=.ok (.agg (mC x)) w:=
 run_load_agg 254 7 B (k*7) (mC x) (mB A) 254 Tryz.isAgg254 Tryz.sizeOf254 rfl h.body (fun j v hj=>by
  have:j<7:=(Array.getElem?_eq_some_iff.1 hj).1
  rw[Nat.mul_comm,mB_get A k x hx j this]
  exact hj)
theorem store (h:MRingAt w r B size A first n) {k:Nat} (hk:k<size) (x:Msg):(Instr.storeAt 254 (.pointer (some ⟨B,k*7,none⟩)) (.agg (mC x))).run Tryz.prog w=.ok () (w.setRow B (mB (A.set k x))):=by
 have:=run_store_agg (P:=Tryz.prog) (w:=w) 254 7 B (k*7) (mC x) (mB A) 254 Tryz.sizeOf254 rfl h.body (by rw[mB_size,h.alen];omega) (List.all_eq_true.1 (mC_one x))
 rwa [Nat.mul_comm k 7,mB_set A k (by rw[h.alen];exact hk),Nat.mul_comm 7 k] at this
theorem setBody (h:MRingAt w r B size A first n) (k:Nat) (x:Msg):MRingAt (w.setRow B (mB (A.set k x))) r B size (A.set k x) first n:=
 ⟨(keeps_setRow w B _).heap h.head h.ne,setRow_at w B _ _ _ h.body,by simpa using h.alen,h.pos,h.most,h.fst,h.cnt,h.ne⟩
theorem setFirst (h:MRingAt w r B size A first n) (f:Nat) (hf:f<size):MRingAt (w.setCell ⟨r,1,none⟩ (.int .i64 f)) r B size A f n:=
 ⟨by have:=blk_set h.head 1 (.int .i64 f);simpa using this,blk_other h.body (Ne.symm h.ne) _,h.alen,h.pos,h.most,hf,h.cnt,h.ne⟩
theorem setCount (h:MRingAt w r B size A first n) (m:Nat) (hm:m≤size):MRingAt (w.setCell ⟨r,2,none⟩ (.int .i64 m)) r B size A first m:=
 ⟨by have:=blk_set h.head 2 (.int .i64 m);simpa using this,blk_other h.body (Ne.symm h.ne) _,h.alen,h.pos,h.most,h.fst,hm,h.ne⟩
end MRingAt
variable {w:World} {r B size first n:Nat} {A:List Msg}
theorem mr_place (h:MRingAt w r B size A first n) (i k:Nat) (x:Int) (hx:x=i) (hi:i≤100000) (hk:(first+i)%size=k) :
  Calls Tryz.prog 304 #[.pointer (some ⟨r,0,none⟩),.int .i64 x] w fun e w'=>e=.returned (.int .i64 k)∧∃ m,w'=w.drewN m:=by
 subst hx
 have c0:=h.c0
 have c1:=h.c1
 have hz:((size:Int) == 0)=false:=by have:=h.pos;rw[beq_eq_false_iff_ne];omega
 have b1:=h.fst
 have b2:=h.most
 have Hk:=hid hk
 clear hk
 go_enter Tryz.func304,Tryz.ntmps304
 go_wp2
 go_quiet (fail)
 go_wp2
 go_ret
 exact ⟨ret_int (by rw[←Hk.out];simp),_,rfl⟩
theorem alloc_msg (w:World):(Instr.alloc 254 true (.tuple #[])).run Tryz.prog w=.ok (.pointer (some ⟨w.heap.size,0,none⟩)) (w.alloc (.cells (mC Msg.zero) 254)):=by kernel_rfl
theorem load_msg {w:World} {b:Nat} {x:Msg} (h:w.heap[b]?=some (.cells (mC x) 254 (0,0))):(Instr.loadAt 254 (.pointer (some ⟨b,0,none⟩))).run Tryz.prog w=.ok (.agg (mC x)) w:=
 run_load_agg 254 7 b 0 (mC x) (mC x) 254 Tryz.isAgg254 Tryz.sizeOf254 rfl h (fun j v hj=>by rw[Nat.zero_add];exact hj)
theorem mr_At_no (h:MRingAt w r B size A first n) (x:Int) (hx:x<0∨(n:Int)≤x) :
  Calls Tryz.prog 309 #[.pointer (some ⟨r,0,none⟩),.int .i64 x] w fun e w'=>e=.returned (.tuple #[.agg (mC Msg.zero),.bool false])∧Below w.heap.size w w':=by
 have hk0:=((Keeps.refl (fun _=>False) w).alloc (.cells (mC Msg.zero) 254)).alloc (.cells (mC Msg.zero) 254)
 have h0:=h.keeps hk0 id id
 have hB0:=blk_alloc (blk_new w (.cells (mC Msg.zero) 254)) (.cells (mC Msg.zero) 254)
 have hB1:=blk_new (w.alloc (.cells (mC Msg.zero) 254)) (.cells (mC Msg.zero) 254)
 have hsz:(w.alloc (.cells (mC Msg.zero) 254)).heap.size=w.heap.size+1:=by simp
 rw[hsz] at hB1
 have hl1:=load_msg hB1
 obtain ⟨hst,hload,hk2⟩:=store_all ((w.alloc (.cells (mC Msg.zero) 254)).alloc (.cells (mC Msg.zero) 254)) 254 7 w.heap.size (mC Msg.zero) _ Tryz.sizeOf254 rfl rfl hB0 (mC_one _)
 have hbf:Below w.heap.size w (((w.alloc (.cells (mC Msg.zero) 254)).alloc (.cells (mC Msg.zero) 254)).setRow w.heap.size (mC Msg.zero)):=((hk0.mono fun _ _ x=>x.elim).trans hk2).below (Nat.le_refl _) (fun k h1 h2=>by omega)
 have c0:=h0.c0
 have c2:=h0.c2
 have al0:=alloc_msg w
 have al1:=alloc_msg (w.alloc (.cells (mC Msg.zero) 254))
 rw[hsz] at al1
 clear hk0 hk2 hB0 hB1 hsz h0
 generalize (w.alloc (.cells (mC Msg.zero) 254)).alloc (.cells (mC Msg.zero) 254)=w0 at *
 generalize w0.setRow w.heap.size (mC Msg.zero)=w1 at *
 generalize w.alloc (.cells (mC Msg.zero) 254)=wa at *
 by_cases h0:x<0
 ·clear hx
  go_enter Tryz.func309,Tryz.ntmps309
  go_wp2_with (first|(refine wpList_run_alloc al0 rfl rfl ?_)|(refine wpList_run_alloc al1 rfl rfl ?_)|(refine wpList_run_load hl1 rfl rfl rfl ?_)|(refine wpList_run_store hst rfl rfl rfl rfl ?_))
  refine bodyPost_ret (v:=.tuple #[.agg (mC Msg.zero),.bool false]) (by simp[results,Tryz.results309,asAddr,loadVar,loadCells,Tryz.isAgg254,Tryz.sizeOf254,hload]) rfl ?_
  exact ⟨rfl,hbf⟩
 ·have h1:(n:Int)≤x:=by omega
  clear hx
  go_enter Tryz.func309,Tryz.ntmps309
  go_wp2_with (first|(refine wpList_run_alloc al0 rfl rfl ?_)|(refine wpList_run_alloc al1 rfl rfl ?_)|(refine wpList_run_load hl1 rfl rfl rfl ?_)|(refine wpList_run_store hst rfl rfl rfl rfl ?_))
  refine bodyPost_ret (v:=.tuple #[.agg (mC Msg.zero),.bool false]) (by simp[results,Tryz.results309,asAddr,loadVar,loadCells,Tryz.isAgg254,Tryz.sizeOf254,hload]) rfl ?_
  exact ⟨rfl,hbf⟩
end
section
open Go.RowKit
set_option maxRecDepth 10000
variable {w:World} {r B size first n:Nat} {A:List Msg}
set_option maxHeartbeats 1000000 in
theorem mr_At (h:MRingAt w r B size A first n) (i k:Nat) (x:Int) (hx:x=i) (hi:i<n) (hk:(first+i)%size=k) (v:Msg) (hv:A[k]?=some v) :
  Calls Tryz.prog 309 #[.pointer (some ⟨r,0,none⟩),.int .i64 x] w fun e w'=>e=.returned (.tuple #[.agg (mC v),.bool true])∧Below w.heap.size w w':=by
 subst hx
 have hk0:=((Keeps.refl (fun _=>False) w).alloc (.cells (mC Msg.zero) 254)).alloc (.cells (mC Msg.zero) 254)
 have h0:=h.keeps hk0 id id
 have hB0:=blk_alloc (blk_new w (.cells (mC Msg.zero) 254)) (.cells (mC Msg.zero) 254)
 have hsz:(w.alloc (.cells (mC Msg.zero) 254)).heap.size=w.heap.size+1:=by simp
 have c0:=h0.c0
 have c2:=h0.c2
 have al0:=alloc_msg w
 have al1:=alloc_msg (w.alloc (.cells (mC Msg.zero) 254))
 rw[hsz] at al1
 have b1:=h.cnt
 have b2:=h.most
 have hkl:k<size:=hk▸Nat.mod_lt _ h.pos
 clear hsz h
 generalize (w.alloc (.cells (mC Msg.zero) 254)).alloc (.cells (mC Msg.zero) 254)=w0 at *
 generalize w.alloc (.cells (mC Msg.zero) 254)=wa at *
 have hp:=fun a=>mr_place (h0.drew a) i k i rfl (by omega) hk
 have Hp:=hid hp
 have hl:∀ w',(∃ n,w'=w0.drewN n)→(Instr.loadAt 254 (.pointer (some ⟨B,k*7,none⟩))).run Tryz.prog w'=.ok (.agg (mC v)) w':=by
  rintro w' ⟨m,rfl⟩
  exact (h0.drew m).load hv
 have H0:=hid h0
 clear hp hk hv h0
 go_enter Tryz.func309,Tryz.ntmps309
 go_wp2_with (first|(refine wpList_run_alloc al0 rfl rfl ?_)|(refine wpList_run_alloc al1 rfl rfl ?_))
 refine wp_region_taild 9 (by kernel_rfl) (by kernel_rfl) ?_
 simp only[List.take_succ_cons,List.take_zero,List.drop_succ_cons,List.drop_zero]
 repeat (first|(refine wpQuiet_run_load hl rfl rfl rfl ?_;simp only[Act.put,List.setIfInBounds_toArray,List.set_cons_succ,List.set_cons_zero])|go_big_quiet_step ((go_at_call 304;exact Calls.quiet_of (Hp.out _))))
 refine wpQuiet_nil ?_
 intro _ hw'
 obtain ⟨nq,hw''⟩:=hw'
 subst hw''
 have hB1:(w0.drewN nq).heap[w.heap.size]?=some (.cells (mC Msg.zero) 254 (0,0)):=hB0
 obtain ⟨hst,hload,hk2⟩:=store_all (w0.drewN nq) 254 7 w.heap.size (mC v) _ Tryz.sizeOf254 rfl rfl hB1 (mC_one _)
 have hbf:Below w.heap.size w ((w0.drewN nq).setRow w.heap.size (mC v)):=(((hk0.drewN nq).mono fun _ _ x=>x.elim).trans hk2).below (Nat.le_refl _) (fun k h1 h2=>by omega)
 clear hk0 hk2 hB0 hB1
 generalize (w0.drewN nq).setRow w.heap.size (mC v)=w1 at *
 go_wp2_with (refine wpList_run_store hst rfl rfl rfl rfl ?_)
 refine bodyPost_ret (v:=.tuple #[.agg (mC v),.bool true]) (by simp[results,Tryz.results309,asAddr,loadVar,loadCells,Tryz.isAgg254,Tryz.sizeOf254,hload]) rfl ?_
 exact ⟨rfl,hbf⟩
theorem mr_Push_full (h:MRingAt w r B size A first n) (hn:n=size) (v:Msg) :
  Calls Tryz.prog 246 #[.pointer (some ⟨r,0,none⟩),.agg (mC v)] w fun e w'=>e=.returned (.int .i64 8)∧Below w.heap.size w w':=by
 subst hn
 have hk0:=(Keeps.refl (fun _=>False) w).alloc (.cells (mC v) 254)
 have h0:=h.keeps hk0 id id
 have hbe:=(Below.refl w.heap.size w).alloc (Nat.le_refl _) (.cells (mC v) 254)
 have c0:=h0.c0
 have c2:=h0.c2
 clear hk0 h0 h
 unfold mC at *
 go_enter Tryz.func246,Tryz.ntmps246
 go_wp2
 go_quiet (fail)
 go_wp2
 go_ret
 exact ⟨rfl,hbe.trans ((Keeps.drewN (Keeps.refl (fun _=>False) _) _).below hbe.size (fun _ _ x=>x))⟩
set_option maxHeartbeats 1000000 in
theorem mr_Push (h:MRingAt w r B size A first n) (hn:n<size) (k:Nat) (hk:(first+n)%size=k) (v:Msg) :
  Calls Tryz.prog 246 #[.pointer (some ⟨r,0,none⟩),.agg (mC v)] w fun e w'=>e=.returned (.int .i64 0)∧MRingAt w' r B size (A.set k v) first (n+1)∧Keeps (fun b=>b=r∨b=B) w w':=by
 have hk0:=(Keeps.refl (fun _=>False) w).alloc (.cells (mC v) 254)
 have h0:=h.keeps hk0 id id
 have hX:=blk_new w (.cells (mC v) 254)
 have c0:=h0.c0
 have c2:=h0.c2
 have b1:=h.cnt
 have b2:=h.most
 have ne:=h.ne
 have hkl:k<size:=hk▸Nat.mod_lt _ h.pos
 have hq:((n:Int) == (size:Int))=false:=by rw[beq_eq_false_iff_ne];omega
 have HX:=hid hX
 have H0:=hid h0
 have Hk:=hid hk
 have HK0:=hid hk0
 clear hk h hX h0 hk0
 go_enter Tryz.func246,Tryz.ntmps246
 go_wp2
 generalize hw0:w.alloc (.cells (mC v) 254)=w0 at *
 go_quiet (fail)
 go_wp2
 have H1:=hid (H0.out.drew nq)
 have X1:(w0.drewN nq).heap[w.heap.size]?=some (.cells (mC v) 254 (0,0)):=HX.out
 have HK1:=hid (HK0.out.drewN nq)
 clear c0 c2 HX H0 HK0
 generalize w0.drewN nq=w1 at *
 have c0:=H1.out.c0
 have c2:=H1.out.c2
 have hl:∀ w',(∃ n,w'=w1.drewN n)→(Instr.loadAt 254 (.pointer (some ⟨w.heap.size,0,none⟩))).run Tryz.prog w'=.ok (.agg (mC v)) w':=by
  rintro w' ⟨m,rfl⟩
  exact load_msg X1
 have hp:=fun a=>mr_place (H1.out.drew a) n k n rfl (by omega) Hk.out
 have Hp:=hid hp
 clear hp X1
 refine wp_region_taild 12 (by kernel_rfl) (by kernel_rfl) ?_
 simp only[List.take_succ_cons,List.take_zero,List.drop_succ_cons,List.drop_zero]
 repeat (first|(refine wpQuiet_run_load hl rfl rfl rfl ?_;simp only[Act.put,List.setIfInBounds_toArray,List.set_cons_succ,List.set_cons_zero])|go_big_quiet_step ((go_at_call 304;exact Calls.quiet_of (Hp.out _))))
 refine wpQuiet_nil ?_
 intro _ hw'
 obtain ⟨nq,hw''⟩:=hw'
 subst hw''
 have hst:=(H1.out.drew nq).store hkl v
 have H2:=hid ((H1.out.drew nq).setBody k v)
 have HK2:=hid (((HK1.out.drewN nq).mono (T:=fun b=>b=r∨b=B) fun _ _ x=>x.elim).trans ((keeps_setRow (w1.drewN nq) B (mB (A.set k v))).mono fun _ _=>Or.inr))
 clear c0 c2 hl Hp
 generalize (w1.drewN nq).setRow B (mB (A.set k v))=w2 at *
 have c2:=H2.out.c2
 have f2:=H2.out.f2
 go_wp2_with (refine wpList_run_store hst rfl rfl rfl rfl ?_)
 go_ret
 exact ⟨rfl,H2.out.setCount (n+1) (by omega),HK2.out.setCell (p:=⟨r,2,none⟩) (.inl rfl) _⟩
theorem mr_Pop_none (h:MRingAt w r B size A first 0) :
  Calls Tryz.prog 261 #[.pointer (some ⟨r,0,none⟩)] w fun e w'=>e=.returned (.tuple #[.agg (mC Msg.zero),.bool false])∧Below w.heap.size w w':=by
 have al0:=alloc_msg w
 have hk0:=(Keeps.refl (fun _=>False) w).alloc (.cells (mC Msg.zero) 254)
 have h0:=h.keeps hk0 id id
 have hR:=blk_new w (.cells (mC Msg.zero) 254)
 have hbe:=(Below.refl w.heap.size w).alloc (Nat.le_refl _) (.cells (mC Msg.zero) 254)
 clear hk0
 generalize w.alloc (.cells (mC Msg.zero) 254)=w0 at *
 go_enter Tryz.func261,Tryz.ntmps261
 go_wp2_with (refine wpList_run_alloc al0 rfl rfl ?_)
 refine (mr_At_no h0 0 (by omega)).mono ?_
 rintro e w1 ⟨rfl,hb1⟩
 have hbe:=hbe.trans (hb1.mono hbe.size)
 have hR:=(Keeps.of_below (S:=fun _=>False) hb1 (fun k h1 h2=>by omega)).heap hR id
 have hlt:=blk_lt hR
 clear hb1 h0 al0 h
 have al1:=alloc_msg w1
 have hX:=blk_new w1 (.cells (mC Msg.zero) 254)
 have hR:=blk_alloc hR (.cells (mC Msg.zero) 254)
 have hbe:=hbe.alloc hbe.size (.cells (mC Msg.zero) 254)
 obtain ⟨hst,_,hk2⟩:=store_all (w1.alloc (.cells (mC Msg.zero) 254)) 254 7 w1.heap.size (mC Msg.zero) _ Tryz.sizeOf254 rfl rfl hX (mC_one _)
 have hX2:=setRow_at (w1.alloc (.cells (mC Msg.zero) 254)) w1.heap.size _ (mC Msg.zero) 254 hX
 have hR3:=hk2.heap hR (by omega)
 clear hR
 have hbe3:=hbe.trans (hk2.below hbe.size (fun k h1 h2=>by omega))
 clear hk2 hbe hX
 generalize (w1.alloc (.cells (mC Msg.zero) 254)).setRow w1.heap.size (mC Msg.zero)=w2 at *
 generalize w1.alloc (.cells (mC Msg.zero) 254)=wa at *
 have hl:=load_msg hX2
 obtain ⟨hst2,hload,hk3⟩:=store_all w2 254 7 w.heap.size (mC Msg.zero) _ Tryz.sizeOf254 rfl rfl hR3 (mC_one _)
 have hbf:=hbe3.trans (hk3.below (B:=w.heap.size) hbe3.size (fun k h1 h2=>by omega))
 clear hk3 hX2 hR3
 generalize w2.setRow w.heap.size (mC Msg.zero)=w3 at *
 go_wp2_with (first|(refine wpList_run_alloc al1 rfl rfl ?_;simp only[Act.put,List.setIfInBounds_toArray,List.set_cons_succ,List.set_cons_zero])|(refine wpList_run_load hl rfl rfl rfl ?_;try simp only[Act.put,List.setIfInBounds_toArray,List.set_cons_succ,List.set_cons_zero])|(refine wpList_run_store hst rfl rfl rfl rfl ?_;try simp only[Act.put])|(refine wpList_run_store hst2 rfl rfl rfl rfl ?_;try simp only[Act.put]))
 refine bodyPost_ret (v:=.tuple #[.agg (mC Msg.zero),.bool false]) (by simp[results,Tryz.results261,asAddr,loadVar,loadCells,Tryz.isAgg254,Tryz.sizeOf254,hload]) rfl ?_
 exact ⟨rfl,hbf⟩
set_option maxHeartbeats 2000000 in
theorem mr_Pop (h:MRingAt w r B size A first n) (hn:0<n) (f':Nat) (hf:(first+1)%size=f') (v:Msg) (hv:A[first]?=some v) :
  Calls Tryz.prog 261 #[.pointer (some ⟨r,0,none⟩)] w fun e w'=>e=.returned (.tuple #[.agg (mC v),.bool true])∧MRingAt w' r B size (A.set first Msg.zero) f' (n-1)∧Keeps (fun b=>b=r∨b=B) w w':=by
 have al0:=alloc_msg w
 have hk0:=(Keeps.refl (fun _=>False) w).alloc (.cells (mC Msg.zero) 254)
 have h0:=h.keeps hk0 id id
 have hR:=blk_new w (.cells (mC Msg.zero) 254)
 have b1:=h.cnt
 have b2:=h.most
 have b3:=h.fst
 have ne:=h.ne
 have hlr:=blk_lt h.head
 have hlB:=blk_lt h.body
 have hfl:f'<size:=hf▸Nat.mod_lt _ h.pos
 have H0:=hid (show (first+0)%size=first from Nat.mod_eq_of_lt b3)
 have Hf:=hid hf
 have Hv:=hid hv
 clear hf hv h
 generalize w.alloc (.cells (mC Msg.zero) 254)=w0 at *
 go_enter Tryz.func261,Tryz.ntmps261
 go_wp2_with (refine wpList_run_alloc al0 rfl rfl ?_)
 refine (mr_At h0 0 first 0 rfl hn H0.out v Hv.out).mono ?_
 rintro e w1 ⟨rfl,hb1⟩
 have k1:=hk0.trans (Keeps.of_below (S:=fun _=>False) hb1 (fun k h1 h2=>by omega))
 have hM1:=h0.keeps (Keeps.of_below (S:=fun _=>False) hb1 (fun k h1 h2=>by omega)) id id
 have hR1:=(Keeps.of_below (S:=fun _=>False) hb1 (fun k h1 h2=>by omega)).heap hR id
 have hlt:=blk_lt hR1
 clear hb1 h0 al0 hk0 hR Hv H0
 have al1:=alloc_msg w1
 have hX:=blk_new w1 (.cells (mC Msg.zero) 254)
 have hRa:=blk_alloc hR1 (.cells (mC Msg.zero) 254)
 have kA:=(Keeps.refl (fun _=>False) w1).alloc (.cells (mC Msg.zero) 254)
 obtain ⟨hst,_,hk2⟩:=store_all (w1.alloc (.cells (mC Msg.zero) 254)) 254 7 w1.heap.size (mC v) _ Tryz.sizeOf254 rfl rfl hX (mC_one _)
 have hX2:=setRow_at (w1.alloc (.cells (mC Msg.zero) 254)) w1.heap.size _ (mC v) 254 hX
 have hR2:=hk2.heap hRa (by omega)
 have k2:=k1.trans (keeps_past kA hk2 (fun k hk e=>by omega))
 have hM2:=hM1.keeps (keeps_past kA hk2 (fun k hk e=>by omega)) id id
 have hlt2:w1.heap.size<((w1.alloc (.cells (mC Msg.zero) 254)).setRow w1.heap.size (mC v)).heap.size:=blk_lt hX2
 clear hX hRa kA hk2 hM1 hR1 k1
 generalize (w1.alloc (.cells (mC Msg.zero) 254)).setRow w1.heap.size (mC v)=w2 at *
 generalize w1.alloc (.cells (mC Msg.zero) 254)=wa at *
 have al2:=alloc_msg w2
 have hZ:=blk_new w2 (.cells (mC Msg.zero) 254)
 have hX3:=blk_alloc hX2 (.cells (mC Msg.zero) 254)
 have hR3:=blk_alloc hR2 (.cells (mC Msg.zero) 254)
 have kC:=(Keeps.refl (fun _=>False) w2).alloc (.cells (mC Msg.zero) 254)
 have k3:=k2.trans kC
 have hM3:=hM2.keeps kC id id
 clear hX2 hR2 kC k2 hM2
 generalize hX1e:w1.heap.size=X at *
 generalize hZe:w2.heap.size=Z at *
 generalize w2.alloc (.cells (mC Msg.zero) 254)=w3 at *
 have hl:∀ w',(∃ n,w'=w3.drewN n)→(Instr.loadAt 254 (.pointer (some ⟨Z,0,none⟩))).run Tryz.prog w'=.ok (.agg (mC Msg.zero)) w':=by
  rintro w' ⟨m,rfl⟩
  exact load_msg hZ
 have c0:=hM3.c0
 have c1:=hM3.c1
 have HM3:=hid hM3
 clear hM3 hX1e hZe
 go_wp2_with (first|(refine wpList_run_alloc al1 rfl rfl ?_)|(refine wpList_run_alloc al2 rfl rfl ?_)|(refine wpList_run_store hst rfl rfl rfl rfl ?_))
 simp only[Act.put,List.setIfInBounds_toArray,List.set_cons_succ,List.set_cons_zero]
 refine wp_region_taild 10 (by kernel_rfl) (by kernel_rfl) ?_
 simp only[List.take_succ_cons,List.take_zero,List.drop_succ_cons,List.drop_zero]
 repeat (first|(refine wpQuiet_run_load hl rfl rfl rfl ?_;simp only[Act.put,List.setIfInBounds_toArray,List.set_cons_succ,List.set_cons_zero])|go_big_quiet_step (fail))
 refine wpQuiet_nil ?_
 intro _ hw'
 obtain ⟨nq,hw''⟩:=hw'
 subst hw''
 have hst2:=(HM3.out.drew nq).store b3 Msg.zero
 have hM4:=(HM3.out.drew nq).setBody first Msg.zero
 have k4:=((k3.drewN nq).mono (T:=fun b=>b=r∨b=B) fun _ _ x=>x.elim).trans ((keeps_setRow (w3.drewN nq) B (mB (A.set first Msg.zero))).mono fun _ _=>Or.inr)
 have hX4:((w3.drewN nq).setRow B (mB (A.set first Msg.zero))).heap[X]?=some (.cells (mC v) 254 (0,0)):=(keeps_setRow (w3.drewN nq) B _).heap hX3 (by omega)
 have hR4:((w3.drewN nq).setRow B (mB (A.set first Msg.zero))).heap[w.heap.size]?=some (.cells (mC Msg.zero) 254 (0,0)):=(keeps_setRow (w3.drewN nq) B _).heap hR3 (by omega)
 clear hl c0 c1 HM3 k3 hX3 hR3 hZ hst al1 al2
 generalize (w3.drewN nq).setRow B (mB (A.set first Msg.zero))=w4 at *
 go_wp2_with (refine wpList_run_store hst2 rfl rfl rfl rfl ?_)
 refine (mr_place hM4 1 f' 1 rfl (by omega) Hf.out).mono ?_
 rintro e w5 ⟨rfl,m5,rfl⟩
 have hM5:=hM4.drew m5
 have hX5:(w4.drewN m5).heap[X]?=some (.cells (mC v) 254 (0,0)):=hX4
 have hR5:(w4.drewN m5).heap[w.heap.size]?=some (.cells (mC Msg.zero) 254 (0,0)):=hR4
 have k5:=k4.drewN m5
 clear hst2 hM4 hX4 hR4 k4
 generalize w4.drewN m5=w5 at *
 have hM6:=hM5.setFirst f' hfl
 have hM7:=hM6.setCount (n-1) (by omega)
 rw[show ((n-1:Nat):Int)=(n:Int)-1 by omega] at hM7
 have k7:=(k5.setCell (p:=⟨r,1,none⟩) (.inl rfl) (.int .i64 f')).setCell (p:=⟨r,2,none⟩) (.inl rfl) (.int .i64 ((n:Int)-1))
 have hX7:=blk_other (p:=⟨r,2,none⟩) (blk_other (p:=⟨r,1,none⟩) hX5 (by show X≠r;omega) (.int .i64 f')) (by show X≠r;omega) (.int .i64 ((n:Int)-1))
 have hR7:=blk_other (p:=⟨r,2,none⟩) (blk_other (p:=⟨r,1,none⟩) hR5 (by show w.heap.size≠r;omega) (.int .i64 f')) (by show w.heap.size≠r;omega) (.int .i64 ((n:Int)-1))
 have f1:=hM5.f1
 have f2:=hM5.f2
 have c1:=hM5.c1
 have c2:=hM5.c2
 have hl7:=load_msg hX7
 obtain ⟨hst3,hload,hk8⟩:=store_all _ 254 7 w.heap.size (mC v) _ Tryz.sizeOf254 rfl rfl hR7 (mC_one _)
 have hM8:=hM7.keeps hk8 (by show r≠w.heap.size;omega) (by show B≠w.heap.size;omega)
 have k8:=keeps_past k7 hk8 (fun k hk e=>by omega)
 clear hM5 hM6 hM7 k5 k7 hX5 hR5 hX7 hR7 hk8
 generalize ((w5.setCell ⟨r,1,none⟩ (.int .i64 f')).setCell ⟨r,2,none⟩ (.int .i64 ((n:Int)-1))).setRow w.heap.size (mC v)=w8 at *
 go_wp2_with (first|(refine wpList_run_load hl7 rfl rfl rfl ?_)|(refine wpList_run_store hst3 rfl rfl rfl rfl ?_))
 refine bodyPost_ret (v:=.tuple #[.agg (mC v),.bool true]) (by simp[results,Tryz.results261,asAddr,loadVar,loadCells,Tryz.isAgg254,Tryz.sizeOf254,hload]) rfl ?_
 exact ⟨rfl,hM8,k8⟩
def IsMR (w:World) (r B size:Nat) (L:List Msg):Prop:=∃ A first,MRingAt w r B size A first L.length∧Holds A first size L
variable {L:List Msg}
theorem IsMR.keeps {w':World} {S:Nat→Prop} (h:IsMR w r B size L) (hk:Keeps S w w') (hr:¬ S r) (hB:¬ S B):IsMR w' r B size L:=by
 obtain ⟨A,f,h1,h2⟩:=h
 exact ⟨A,f,h1.keeps hk hr hB,h2⟩
theorem IsMR.le (h:IsMR w r B size L):L.length≤size∧1≤size∧size≤4096∧r<w.heap.size∧B<w.heap.size∧r≠B:=by
 obtain ⟨A,f,h1,h2⟩:=h
 exact ⟨h1.cnt,h1.pos,h1.most,blk_lt h1.head,blk_lt h1.body,h1.ne⟩
theorem ms_Push (h:IsMR w r B size L) (hn:L.length<size) (v:Msg) :
  Calls Tryz.prog 246 #[.pointer (some ⟨r,0,none⟩),.agg (mC v)] w fun e w'=>e=.returned (.int .i64 0)∧IsMR w' r B size (L++[v])∧Keeps (fun b=>b=r∨b=B) w w':=by
 obtain ⟨A,f,h1,h2⟩:=h
 refine (mr_Push h1 hn _ rfl v).mono ?_
 rintro e w' ⟨rfl,h3,h4⟩
 exact ⟨rfl,⟨_,f,by simpa using h3,h2.push h1.fst h1.alen hn v⟩,h4⟩
theorem ms_Push_full (h:IsMR w r B size L) (hn:L.length=size) (v:Msg) :
  Calls Tryz.prog 246 #[.pointer (some ⟨r,0,none⟩),.agg (mC v)] w fun e w'=>e=.returned (.int .i64 8)∧IsMR w' r B size L∧Keeps (fun b=>b=r∨b=B) w w':=by
 have hle:=h.le
 have h0:=h
 obtain ⟨A,f,h1,h2⟩:=h
 refine (mr_Push_full h1 hn v).mono ?_
 rintro e w' ⟨rfl,hb⟩
 exact ⟨rfl,h0.keeps (Keeps.of_below (S:=fun _=>False) hb (fun k h1 h2=>by omega)) id id,Keeps.of_below hb (fun k h1 h2=>by omega)⟩
theorem ms_Pop {v:Msg} (h:IsMR w r B size (v :: L)) :
  Calls Tryz.prog 261 #[.pointer (some ⟨r,0,none⟩)] w fun e w'=>e=.returned (.tuple #[.agg (mC v),.bool true])∧IsMR w' r B size L∧Keeps (fun b=>b=r∨b=B) w w':=by
 obtain ⟨A,f,h1,h2⟩:=h
 have h0:=h2 0 (by simp)
 rw[Nat.add_zero,Nat.mod_eq_of_lt h1.fst] at h0
 refine (mr_Pop h1 (by simp) _ rfl v (by simpa using h0)).mono ?_
 rintro e w' ⟨rfl,h3,h4⟩
 exact ⟨rfl,⟨_,_,by simpa using h3,h2.pop h1.fst h1.cnt (by simp) _⟩,h4⟩
theorem ms_Pop_none (h:IsMR w r B size []) :
  Calls Tryz.prog 261 #[.pointer (some ⟨r,0,none⟩)] w fun e w'=>e=.returned (.tuple #[.agg (mC Msg.zero),.bool false])∧IsMR w' r B size []∧Keeps (fun b=>b=r∨b=B) w w':=by
 have hle:=h.le
 have h0:=h
 obtain ⟨A,f,h1,h2⟩:=h
 refine (mr_Pop_none h1).mono ?_
 rintro e w' ⟨rfl,hb⟩
 exact ⟨rfl,h0.keeps (Keeps.of_below (S:=fun _=>False) hb (fun k h1 h2=>by omega)) id id,Keeps.of_below hb (fun k h1 h2=>by omega)⟩
end
section
open Go.RowKit
set_option maxRecDepth 10000
theorem info_msg:(Tryz.prog.info? 254).map (fun i=>(i.zero,i.size,i.bytes))=some (some (.agg (mC Msg.zero)),7,56):=by kernel_rfl
theorem zeros_mB:madeCells (Value.agg (mC Msg.zero)).cells 56=mB (List.replicate 8 Msg.zero):=by kernel_rfl
theorem ms_New8 (w:World) :
  Calls Tryz.prog 196 #[.int .i64 8] w fun e w'=>e=.returned (.tuple #[.pointer (some ⟨w.heap.size+1,0,none⟩),.int .i64 0])∧IsMR w' (w.heap.size+1) w.heap.size 8 []∧Below w.heap.size w w'∧w'.heap.size=w.heap.size+2:=by
 obtain ⟨i0,hi,hz0,hz1,hz2⟩:∃ i,Tryz.prog.info? 254=some i∧i.zero=some (.agg (mC Msg.zero))∧i.size=7∧i.bytes=56:=by
  have h:=info_msg
  cases hh:Tryz.prog.info? 254 with
  | none=>rw[hh] at h;cases h
  | some i=>rw[hh] at h;simp only[Option.map_some,Option.some.injEq,Prod.mk.injEq] at h;exact ⟨i,rfl,h.1,h.2.1,h.2.2⟩
 have hmk:=run_make (P:=Tryz.prog) w 250 254 i0 (.agg (mC Msg.zero)) Tryz.underlying250 hi hz0 .i64 .i64 8 8 (by omega) (Int.le_refl _) (by rw[hz2];omega) (by omega)
 rw[hz1,show (8:Int).toNat*7=56 from rfl,zeros_mB,show (8:Int).toNat=8 from rfl] at hmk
 have hb:Below w.heap.size w ((w.alloc (.cells (mB (List.replicate 8 Msg.zero)) 254)).alloc (.cells #[.slice (some ⟨w.heap.size,0,none⟩) 8 8,.int .i64 0,.int .i64 0] 388)):=((Below.refl _ w).alloc (Nat.le_refl _) _).alloc (by simp) _
 have hH:=blk_new (w.alloc (.cells (mB (List.replicate 8 Msg.zero)) 254)) (.cells #[.slice (some ⟨w.heap.size,0,none⟩) 8 8,.int .i64 0,.int .i64 0] 388)
 have hD:=blk_alloc (blk_new w (.cells (mB (List.replicate 8 Msg.zero)) 254)) (.cells #[.slice (some ⟨w.heap.size,0,none⟩) 8 8,.int .i64 0,.int .i64 0] 388)
 have hs:((w.alloc (.cells (mB (List.replicate 8 Msg.zero)) 254)).alloc (.cells #[.slice (some ⟨w.heap.size,0,none⟩) 8 8,.int .i64 0,.int .i64 0] 388)).heap.size=w.heap.size+2:=by simp
 have hs1:(w.alloc (.cells (mB (List.replicate 8 Msg.zero)) 254)).heap.size=w.heap.size+1:=by simp
 rw[hs1] at hH
 have Hhi:=hid hi
 clear hi hz0 hz1 hz2
 generalize hbd:mB (List.replicate 8 Msg.zero)=bd at *
 have Hbd:=hid hbd
 clear hbd
 go_enter Tryz.func196,Tryz.ntmps196
 go_wp2_with fail
 refine (ring_may 8 w).mono ?_
 rintro e w' ⟨rfl,rfl⟩
 go_wp2
 go_ret2
 exact ⟨rfl,⟨List.replicate 8 Msg.zero,0,⟨hH,by rw[Hbd.out];exact hD,by simp,by omega,by omega,by omega,by simp,by omega⟩,fun t ht=>absurd ht (Nat.not_lt_zero _)⟩,hb,hs⟩
end
end Go.Proofs.YtalagblioepadaaGreatDoor
