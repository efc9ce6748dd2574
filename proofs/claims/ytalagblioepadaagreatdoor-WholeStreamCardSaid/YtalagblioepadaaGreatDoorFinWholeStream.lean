/- The given statement of WholeStream: for every input the call returns true, and each argument reads afterwards as before. No further condition. (The frame: after the kit's proof-skeleton program.) -/
import Derived.Test.YtalagblioepadaaGreatDoorTie
import Derived.Test.YtalagblioepadaaGreatDoorCards
import Derived.Test.YtalagblioepadaaGreatDoorZe34
import Derived.LaidMore
namespace Go.Proofs.YtalagblioepadaaGreatDoor.wholeStream
open Go.ChangeShapes Go.WideShapes Go.ChangeAt Go.RowKit
open Go.ChangeMaps (open_string shut_string)
set_option linter.unusedVariables false
theorem own:ownKnob Tryz.prog.godebug=none:=by kernel_rfl
theorem laidOut:laidOutB Tryz.prog=true:=by kernel_rfl
theorem kinds_of {W:World} (h:laidMetH Tryz.prog Rows.wholeStreamRow.laid W):mc W∧0<W.heap.size:=by
 rw[MakeChecks.laidMetH_plain _ _ _ (by kernel_rfl)] at h
 obtain ⟨ps,⟨g,t,cs,fuel,p,q,a7,aW,a_,hd,_,_⟩,_,_⟩:=h
 obtain rfl:=Option.some.inj ((show Tryz.prog.globalNamed "promptbook/feel.kinds"=some 0 by kernel_rfl).symm.trans a7)
 obtain rfl:=Option.some.inj ((show (Tryz.prog.globals[0]?).map (·.type)=some 426 by kernel_rfl).symm.trans aW)
 have hl:=ab6 8 426 (List.replicate 40 (.int .i64)) _ _ _ (by kernel_rfl) hd
 have hz:cs.size=40:=by
  have:=hl.1
  rw[List.length_replicate,Array.length_toList] at this
  exact this.symm
 have an:mc W:=fun j hj=>by
  have hj2:j<cs.size:=by omega
  obtain ⟨n,aw,_⟩:=hl.2 j (.int .i64) cs[j] (by rw[List.getElem?_replicate,if_pos hj]) (by simp[hj2])
  exact ⟨n,by rw[World.var?_cell a7 a_ j];simp[hj2,aw]⟩
 obtain ⟨v,a_⟩:=an 0 (by omega)
 exact ⟨an,Nat.lt_of_le_of_lt (Nat.zero_le _) (World.block_lt_of_cell? _ _ a_)⟩
theorem walk (bw:List Value) (a1:Option Addr) (len1 cap1:Nat) (cm:List Value) (w:World) (ds:pb w [.int .u32,.int .i64,.int .i64,.int .i64,.int .u32,.int .i64,.int .i64,.int .i64] bw) (aq:ey w 6 a1 len1 cap1 cm) (l1:∀ i,i<len1→pb w [.int .i64,.int .i64,.int .i64,.int .i64,.int .u8,.int .u8] ((cm.drop (i*6)).take 6)) (hK:mc w∧0<w.heap.size) :
  Calls Tryz.prog 4 #[.agg bw.toArray,.slice a1 len1 cap1] w fun e w'=>e=.returned (.bool true)∧Below w.heap.size w w':=by
 obtain ⟨aN,d,n,me0,non0,pat,b3,cd,hsd,e0⟩:=ajO ds
 rw[e0]
 obtain ⟨M,rfl,rfl,hM⟩:=adf len1 cm aq.1 l1
 exact ajI hK.1 hK.2 aN d n me0 non0 pat b3 cd hsd a1 cap1 M aq hM
theorem door_met (os:Os) (args:Array Value):laidMetH Tryz.prog Rows.wholeStreamRow.laid ((World.doorLaid Tryz.prog 20 os).forCall (fun _ _=>0) ⟨#[],args,[]⟩).memory:=
 laidMetH_of_parts3 (fuel:=8) (laidMet_of_run' 8 (by kernel_rfl) (by kernel_rfl)) (by kernel_rfl) (by kernel_rfl)
set_option maxRecDepth 100000 in
theorem lifted (os:Os) (started:os.Started) (H:Type) (enc:TypeId×Value→H) :
  ReturnsInHanded {} Tryz.checked os 4 .any (fun w args=>(Rows.wholeStreamSpec.pre enc Tryz.prog Tryz.f4 [] false w args∧laidMetH Tryz.prog Rows.wholeStreamRow.laid w)∧sizedMet enc Tryz.prog Tryz.f4 (OpenSpec.ofChange Rows.wholeStreamSpec) false w args) (Rows.wholeStreamSpec.post enc Tryz.prog Tryz.f4 false true false false):=by
 refine returnsInHanded_of_change_and (C:=Tryz.checked) (X:=fun w _=>laidMetH Tryz.prog Rows.wholeStreamRow.laid w) (fun _ _ _ aT h=>h.of_heap aT) own started (by kernel_rfl) Tryz.func4
  (ChangeSpec.witness_shaped (enc:=enc) (C:=Tryz.checked) (os:=os) (X:=fun w _=>laidMetH Tryz.prog Rows.wholeStreamRow.laid w) false (World.doorLaid Tryz.prog 20 os) #[.agg #[.int .u32 0,.int .i64 0,.int .i64 0,.int .i64 0,.int .u32 0,.int .i64 0,.int .i64 0,.int .i64 0],.slice none 0 0] 8 rfl (World.shaped_of_RefB (by kernel_rfl) (by kernel_rfl)) (by kernel_rfl) (by kernel_rfl) (by kernel_rfl) (door_met os _)) ?_
 intro W base args ds gs before hval0 hW _ _ hL _
 have hval:∀ (j:Nat) t v,Tryz.f4.params[j]?=some t→args[j]?=some v→Value.okWide Tryz.prog W .any base t v:=hval0
 have hW':=hW
 obtain ⟨p,q,hA0,hV,rfl,hfz,hnd⟩:=hW
 have hA:DataW.TrodAll enc Tryz.prog W 0 (fun _=>true) true Tryz.f4.params.toList args.toList ds p:=hA0
 rw[Tryz.params4] at hA hval
 obtain ⟨v0,vs0,d0,ds0,p0,bR,hargs,rfl,rfl,h0,dq⟩:=trodAll_cons hA
 obtain ⟨v1,vs1,d1,ds1,p1,bI,rfl,rfl,rfl,h1,gD⟩:=trodAll_cons dq
 obtain ⟨rfl,rfl,rfl⟩:=trodAll_nil gD
 obtain rfl:args=#[v0,v1]:=by cases args;simp_all
 obtain ⟨rfl,rfl⟩:=trodVars_none hV
 obtain ⟨bw,rfl,hsz0⟩:=okWide_struct Tryz.underlying26 (hval 0 26 v0 rfl rfl)
 have k0:=h0
 have lt0:∀ x∈p0,x.block<W.heap.size:=by obtain ⟨m,hm⟩:=k0;exact DataW.trod_lt m _ _ _ hm
 have ds:pb W [.int .u32,.int .i64,.int .i64,.int .i64,.int .u32,.int .i64,.int .i64,.int .i64] bw.toList:=by
  obtain ⟨fuel,hf⟩:=h0
  exact ab6 8 26 _ _ _ _ (by kernel_rfl) (by simpa[Value.cells] using hf)
 obtain ⟨bw⟩:=bw
 obtain ⟨a1,len1,cap1,rfl⟩:=okWide_slice Tryz.underlying27 (hval 1 27 v1 rfl rfl)
 have k1:=h1
 have lt1:∀ x∈p1,x.block<W.heap.size:=by obtain ⟨m,hm⟩:=k1;exact DataW.trod_lt m _ _ _ hm
 obtain ⟨cm,aq,l1⟩:∃ xs,ey W 6 a1 len1 cap1 xs∧∀ i,i<len1→pb W [.int .i64,.int .i64,.int .i64,.int .i64,.int .u8,.int .u8] ((xs.drop (i*6)).take 6):=by
  obtain ⟨fuel,hf⟩:=h1
  exact ajN (f:=8) (ls:=[.int .i64,.int .i64,.int .i64,.int .i64,.int .u8,.int .u8]) Tryz.underlying27 (by kernel_rfl) (by kernel_rfl) (by decide) (by simpa[Value.cells] using hf)
 clear hA0 hval0
 refine (walk bw a1 len1 cap1 cm W ds aq l1 (kinds_of hL)).mono fun e W' ⟨he,pk⟩=>?_
 subst he
 exact ⟨_,rfl,_,_,_,[],_,[],hW',trodAll_mk1 (shut_bool Tryz.underlying4 _),(trodAll_cons_mk (Below.trod laidOut (by kernel_rfl) (of_decide_eq_true (by kernel_rfl)) k0 pk lt0) (trodAll_cons_mk (Below.trod laidOut (by kernel_rfl) (of_decide_eq_true (by kernel_rfl)) k1 pk lt1) trodAll_mk0)),rfl,pk.frame _,fun h=>by cases h⟩
theorem and_mk {a b:Bool} (h:a=true) (k:b=true):(a&&b)=true:=by rw[h,k];rfl
set_option maxHeartbeats 4000000 in
theorem facts:joinedFacts Tryz.pinned.checked.prog 4 Tryz.f4 Rows.wholeStreamSpec Rows.wholeStreamRow=true:=by
 unfold joinedFacts
 iterate 31 (with_reducible refine and_mk ?_ ?_)
 all_goals (as_aux_lemma=>kernel_rfl)
theorem over:Rows.wholeStreamRow.holds Tryz.pinned (OpenSpec.ofChange Rows.wholeStreamSpec):=
 OpenClaim.holds_of_wide 4 Tryz.f4 rfl rfl rfl rfl rfl rfl rfl ⟨rfl,rfl,rfl,rfl,rfl⟩ rfl rfl rfl rfl rfl (by as_aux_lemma=>kernel_rfl) Tryz.func4 facts
  (of_decide_eq_true (by as_aux_lemma=>kernel_rfl)) (by unfold Func.isWrapper;first|(rw[if_pos (by decide +kernel)];kernel_rfl)|(rw[if_neg (by decide +kernel)];exact ⟨rfl,rfl⟩))
  (fun os started H enc _=>lifted os started H enc)
theorem proved:Rows.WholeStreamCardSaid:=
 Claim7.holds_tied_plain_at .later [] [.data] true (true,"1e09d14b5e59fc77419f16ea5aee8aec69ba4c3aea8ff81753b3079a6f011c9e") false
  over (fun _ h=>by cases h) (by as_aux_lemma=>kernel_rfl) (fun _ h=>by cases h) wholeStream_row_tie rfl ⟨rfl,rfl⟩ (by as_aux_lemma=>kernel_rfl) rfl
  (fun f fn hf hfn=>by
   obtain rfl:f=4:=Option.some.inj ((show Tryz.prog.funcNamed "promptbook/promptbooktop.WholeStream"=some 4 by as_aux_lemma=>kernel_rfl).symm.trans hf) |>.symm
   obtain rfl:fn=Tryz.f4:=(Option.some.inj (Tryz.func4.symm.trans hfn)).symm
   exact ⟨by as_aux_lemma=>kernel_rfl,fun j t aW=>by
    rw[Tryz.params4] at aW
    have hm:t∈[26,27]:=by simpa using Array.mem_of_getElem? aW
    have hall:([26,27].all fun u=>!Tryz.prog.wantsStandIn u)=true:=by as_aux_lemma=>kernel_rfl
    exact (show Tryz.prog.wantsStandIn t=false by simpa using List.all_eq_true.1 hall t hm)⟩)
  (by as_aux_lemma=>kernel_rfl)
end Go.Proofs.YtalagblioepadaaGreatDoor.wholeStream
