/- The given statement of WholeBounds: for every input the call returns true, and each argument reads afterwards as before. No further condition. (The frame: after the kit's proof-skeleton program.) -/
import Derived.Test.YtalagblioepadaaGreatDoorTie
import Derived.Test.YtalagblioepadaaGreatDoorCards
import Derived.Test.YtalagblioepadaaGreatDoorZb50
import Derived.LaidMore
namespace Go.Proofs.YtalagblioepadaaGreatDoor.wholeBounds
open Go.ChangeShapes Go.WideShapes Go.ChangeAt Go.RowKit
open Go.ChangeMaps (open_string shut_string)
set_option linter.unusedVariables false
theorem own:ownKnob Tryz.prog.godebug=none:=by kernel_rfl
theorem laidOut:laidOutB Tryz.prog=true:=by kernel_rfl
theorem kinds_of {W:World} (h:laidMetH Tryz.prog Rows.wholeBoundsRow.laid W):kC W∧0<W.heap.size:=by
 rw[MakeChecks.laidMetH_plain _ _ _ (by kernel_rfl)] at h
 obtain ⟨ps,⟨g,t,cs,fuel,p,q,a1,aN,aX,hd,_,_⟩,_,_⟩:=h
 obtain rfl:=Option.some.inj ((show Tryz.prog.globalNamed "promptbook/feel.kinds"=some 0 by kernel_rfl).symm.trans a1)
 obtain rfl:=Option.some.inj ((show (Tryz.prog.globals[0]?).map (·.type)=some 426 by kernel_rfl).symm.trans aN)
 have hl:=Sa 8 426 (List.replicate 40 (.int .i64)) _ _ _ (by kernel_rfl) hd
 have hz:cs.size=40:=by
  have:=hl.1
  rw[List.length_replicate,Array.length_toList] at this
  exact this.symm
 have aq:kC W:=fun j hj=>by
  have hj2:j<cs.size:=by omega
  obtain ⟨n,au,_⟩:=hl.2 j (.int .i64) cs[j] (by rw[List.getElem?_replicate,if_pos hj]) (by simp[hj2])
  exact ⟨n,by rw[World.var?_cell a1 aX j];simp[hj2,au]⟩
 obtain ⟨v,aX⟩:=aq 0 (by omega)
 exact ⟨aq,Nat.lt_of_le_of_lt (Nat.zero_le _) (World.block_lt_of_cell? _ _ aX)⟩
theorem walk (bu:List Value) (a1:Option Addr) (len1 cap1:Nat) (x1:List Value) (w:World) (l0:nw w [.int .u32,.int .i64,.int .i64,.int .i64,.int .u32,.int .i64,.int .i64,.int .i64] bu) (an:dQ w 6 a1 len1 cap1 x1) (l1:∀ i,i<len1→nw w [.int .i64,.int .i64,.int .i64,.int .i64,.int .u8,.int .u8] ((x1.drop (i*6)).take 6)) (hK:kC w∧0<w.heap.size) :
  Calls Tryz.prog 7 #[.agg bu.toArray,.slice a1 len1 cap1] w fun e w'=>e=.returned (.bool true)∧Below w.heap.size w w':=by
 obtain ⟨aO,d,n,me0,non0,pat,bK,b5,hsd,e0⟩:=YZ l0
 rw[e0]
 obtain ⟨M,rfl,rfl,hM⟩:=Tf len1 x1 an.1 l1
 exact YV hK.1 hK.2 aO d n me0 non0 pat bK b5 hsd a1 cap1 M an hM
theorem door_met (os:Os) (args:Array Value):laidMetH Tryz.prog Rows.wholeBoundsRow.laid ((World.doorLaid Tryz.prog 20 os).forCall (fun _ _=>0) ⟨#[],args,[]⟩).memory:=
 laidMetH_of_parts3 (fuel:=8) (laidMet_of_run' 8 (by kernel_rfl) (by kernel_rfl)) (by kernel_rfl) (by kernel_rfl)
set_option maxRecDepth 100000 in
theorem lifted (os:Os) (started:os.Started) (H:Type) (enc:TypeId×Value→H) :
  ReturnsInHanded {} Tryz.checked os 7 .any (fun w args=>(Rows.wholeBoundsSpec.pre enc Tryz.prog Tryz.f7 [] false w args∧laidMetH Tryz.prog Rows.wholeBoundsRow.laid w)∧sizedMet enc Tryz.prog Tryz.f7 (OpenSpec.ofChange Rows.wholeBoundsSpec) false w args) (Rows.wholeBoundsSpec.post enc Tryz.prog Tryz.f7 false true false false):=by
 refine returnsInHanded_of_change_and (C:=Tryz.checked) (X:=fun w _=>laidMetH Tryz.prog Rows.wholeBoundsRow.laid w) (fun _ _ _ aR h=>h.of_heap aR) own started (by kernel_rfl) Tryz.func7
  (ChangeSpec.witness_shaped (enc:=enc) (C:=Tryz.checked) (os:=os) (X:=fun w _=>laidMetH Tryz.prog Rows.wholeBoundsRow.laid w) false (World.doorLaid Tryz.prog 20 os) #[.agg #[.int .u32 0,.int .i64 0,.int .i64 0,.int .i64 0,.int .u32 0,.int .i64 0,.int .i64 0,.int .i64 0],.slice none 0 0] 8 rfl (World.shaped_of_RefB (by kernel_rfl) (by kernel_rfl)) (by kernel_rfl) (by kernel_rfl) (by kernel_rfl) (door_met os _)) ?_
 intro W base args ds gs before hval0 hW _ _ hL _
 have hval:∀ (j:Nat) t v,Tryz.f7.params[j]?=some t→args[j]?=some v→Value.okWide Tryz.prog W .any base t v:=hval0
 have hW':=hW
 obtain ⟨p,q,hA0,hV,rfl,hfz,hnd⟩:=hW
 have hA:DataW.TrodAll enc Tryz.prog W 0 (fun _=>true) true Tryz.f7.params.toList args.toList ds p:=hA0
 rw[Tryz.params7] at hA hval
 obtain ⟨v0,vs0,d0,ds0,p0,q0,hargs,rfl,rfl,h0,eJ⟩:=trodAll_cons hA
 obtain ⟨v1,vs1,d1,ds1,p1,q1,rfl,rfl,rfl,h1,fm⟩:=trodAll_cons eJ
 obtain ⟨rfl,rfl,rfl⟩:=trodAll_nil fm
 obtain rfl:args=#[v0,v1]:=by cases args;simp_all
 obtain ⟨rfl,rfl⟩:=trodVars_none hV
 obtain ⟨bu,rfl,hsz0⟩:=okWide_struct Tryz.underlying26 (hval 0 26 v0 rfl rfl)
 have k0:=h0
 have lt0:∀ x∈p0,x.block<W.heap.size:=by obtain ⟨m,hm⟩:=k0;exact DataW.trod_lt m _ _ _ hm
 have l0:nw W [.int .u32,.int .i64,.int .i64,.int .i64,.int .u32,.int .i64,.int .i64,.int .i64] bu.toList:=by
  obtain ⟨fuel,hf⟩:=h0
  exact Sa 8 26 _ _ _ _ (by kernel_rfl) (by simpa[Value.cells] using hf)
 obtain ⟨bu⟩:=bu
 obtain ⟨a1,len1,cap1,rfl⟩:=okWide_slice Tryz.underlying27 (hval 1 27 v1 rfl rfl)
 have k1:=h1
 have lt1:∀ x∈p1,x.block<W.heap.size:=by obtain ⟨m,hm⟩:=k1;exact DataW.trod_lt m _ _ _ hm
 obtain ⟨x1,an,l1⟩:∃ xs,dQ W 6 a1 len1 cap1 xs∧∀ i,i<len1→nw W [.int .i64,.int .i64,.int .i64,.int .i64,.int .u8,.int .u8] ((xs.drop (i*6)).take 6):=by
  obtain ⟨fuel,hf⟩:=h1
  exact YY (f:=8) (d:=[.int .i64,.int .i64,.int .i64,.int .i64,.int .u8,.int .u8]) Tryz.underlying27 (by kernel_rfl) (by kernel_rfl) (by decide) (by simpa[Value.cells] using hf)
 clear hA0 hval0
 refine (walk bu a1 len1 cap1 x1 W l0 an l1 (kinds_of hL)).mono fun e W' ⟨he,mz⟩=>?_
 subst he
 exact ⟨_,rfl,_,_,_,[],_,[],hW',trodAll_mk1 (shut_bool Tryz.underlying4 _),(trodAll_cons_mk (Below.trod laidOut (by kernel_rfl) (of_decide_eq_true (by kernel_rfl)) k0 mz lt0) (trodAll_cons_mk (Below.trod laidOut (by kernel_rfl) (of_decide_eq_true (by kernel_rfl)) k1 mz lt1) trodAll_mk0)),rfl,mz.frame _,fun h=>by cases h⟩
theorem and_mk {a b:Bool} (h:a=true) (k:b=true):(a&&b)=true:=by rw[h,k];rfl
set_option maxHeartbeats 4000000 in
theorem facts:joinedFacts Tryz.pinned.checked.prog 7 Tryz.f7 Rows.wholeBoundsSpec Rows.wholeBoundsRow=true:=by
 unfold joinedFacts
 iterate 31 (with_reducible refine and_mk ?_ ?_)
 all_goals (as_aux_lemma=>kernel_rfl)
theorem over:Rows.wholeBoundsRow.holds Tryz.pinned (OpenSpec.ofChange Rows.wholeBoundsSpec):=
 OpenClaim.holds_of_wide 7 Tryz.f7 rfl rfl rfl rfl rfl rfl rfl ⟨rfl,rfl,rfl,rfl,rfl⟩ rfl rfl rfl rfl rfl (by as_aux_lemma=>kernel_rfl) Tryz.func7 facts
  (of_decide_eq_true (by as_aux_lemma=>kernel_rfl)) (by unfold Func.isWrapper;first|(rw[if_pos (by decide +kernel)];kernel_rfl)|(rw[if_neg (by decide +kernel)];exact ⟨rfl,rfl⟩))
  (fun os started H enc _=>lifted os started H enc)
theorem proved:Rows.WholeBoundsCardSaid:=
 Claim7.holds_tied_plain_at .later [] [.data] true (true,"1e09d14b5e59fc77419f16ea5aee8aec69ba4c3aea8ff81753b3079a6f011c9e") false
  over (fun _ h=>by cases h) (by as_aux_lemma=>kernel_rfl) (fun _ h=>by cases h) wholeBounds_row_tie rfl ⟨rfl,rfl⟩ (by as_aux_lemma=>kernel_rfl) rfl
  (fun f fn hf hfn=>by
   obtain rfl:f=7:=Option.some.inj ((show Tryz.prog.funcNamed "promptbook/promptbooktop.WholeBounds"=some 7 by as_aux_lemma=>kernel_rfl).symm.trans hf) |>.symm
   obtain rfl:fn=Tryz.f7:=(Option.some.inj (Tryz.func7.symm.trans hfn)).symm
   exact ⟨by as_aux_lemma=>kernel_rfl,fun j t aN=>by
    rw[Tryz.params7] at aN
    have hm:t∈[26,27]:=by simpa using Array.mem_of_getElem? aN
    have hall:([26,27].all fun u=>!Tryz.prog.wantsStandIn u)=true:=by as_aux_lemma=>kernel_rfl
    exact (show Tryz.prog.wantsStandIn t=false by simpa using List.all_eq_true.1 hall t hm)⟩)
  (by as_aux_lemma=>kernel_rfl)
end Go.Proofs.YtalagblioepadaaGreatDoor.wholeBounds
