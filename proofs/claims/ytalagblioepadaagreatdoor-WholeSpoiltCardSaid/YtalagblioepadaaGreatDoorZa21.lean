/- The proof, part 21. -/
import Derived.Test.YtalagblioepadaaGreatDoorZa14
import Derived.Deep.Slices
import Derived.Deep.Fields
import Derived.ChangeSame
import Derived.OpenShut
namespace Go.Proofs.YtalagblioepadaaGreatDoor
section
open Go.RowKit Go.ChangeShapes Go.WideShapes Go.Deep
inductive Leaf
 | int (k:IntKind)
 | bool
 | str
 | ints (k:IntKind)
def LeafIs (w:World):Leaf→Value→Prop
 | .int k,v=>∃ n,v=.int k n∧(Lit.int k n).wf=true
 | .bool,v=>∃ b,v=.bool b
 | .str,v=>∃ s:ByteArray,v=.string s∧s.size≤maxLen
 | .ints k,v=>∃ (a:Option Addr) (L:List Int) (cap:Nat),v=.slice a L.length cap∧Vals w 1 a L.length cap (L.map fun x=>.int k x)∧∀ n∈L,(Lit.int k n).wf=true
def LeavesAre (w:World) (ls:List Leaf) (cs:List Value):Prop:=ls.length=cs.length∧∀ (j:Nat) (l:Leaf) (v:Value),ls[j]?=some l→cs[j]?=some v→LeafIs w l v
def fieldsL (P:Program) (rec:TypeId→Option (List Leaf)):Nat→List Field→Option (List Leaf)
 | _,[]=>some []
 | off,fd :: r=>match rec fd.type with
  | none=>none
  | some l=>match fieldsL P rec (off+P.cellsOf fd.type) r with
   | none=>none
   | some m=>if fd.offset=off∧l.length=P.cellsOf fd.type then some (l++m) else none
def leaves (P:Program):Nat→TypeId→Option (List Leaf)
 | 0,_=>none
 | f+1,t=>match P.underlying t with
  | some (.int k)=>some [.int k]
  | some .bool=>some [.bool]
  | some .string=>some [.str]
  | some (.slice e)=>match P.underlying e with
   | some (.int k)=>if P.cellsOf e=1 then some [.ints k] else none
   | _=>none
  | some (.struct fs)=>match fieldsL P (leaves P f) 0 fs.toList with
   | some m=>if m.length=P.cellsOf t then some m else none
   | none=>none
  | some (.array n e)=>match leaves P f e with
   | some l=>if l.length=P.cellsOf e∧n*P.cellsOf e=P.cellsOf t then some (List.replicate n l).flatten else none
   | none=>none
  | _=>none
section
variable {H:Type} {enc:TypeId×Value→H} {P:Program} {w:World} {base:Nat} {held:Bool}
theorem leavesAre_one {l:Leaf} {v:Value} (h:LeafIs w l v):LeavesAre w [l] [v]:=by
 refine ⟨rfl,fun j l' v' h1 h2=>?_⟩
 match j,h1,h2 with
 | 0,h1,h2=>simp at h1 h2;subst h1 h2;exact h
 | j+1,h1,_=>simp at h1
theorem leavesAre_append {l m:List Leaf} {cs ds:List Value} (h:LeavesAre w l cs) (k:LeavesAre w m ds):LeavesAre w (l++m) (cs++ds):=by
 refine ⟨by simp[h.1,k.1],fun j x v h1 h2=>?_⟩
 by_cases hj:j<l.length
 ·rw[List.getElem?_append_left hj] at h1
  rw[List.getElem?_append_left (by rw[←h.1];exact hj)] at h2
  exact h.2 j x v h1 h2
 ·rw[List.getElem?_append_right (by omega)] at h1
  rw[List.getElem?_append_right (by rw[←h.1];omega),←h.1] at h2
  exact k.2 _ x v h1 h2
theorem ints_of_trod {k:IntKind} {t e:TypeId} {fuel:Nat} {cs:List Value} {x:DataW H×List MemPlace} (ht:P.underlying t=some (.slice e)) (he:P.underlying e=some (.int k)) (hc:P.cellsOf e=1)
  (h:DataW.trod enc P w base (fun _=>true) held fuel t cs=some x):∃ v,cs=[v]∧LeafIs w (.ints k) v:=by
 rcases open_ints ht he hc h with ⟨rfl,_⟩|⟨a,l,c,zs,rfl,_,hl,hm,hz,_,hcell,hwz⟩
 ·exact ⟨_,rfl,none,[],0,rfl,Vals.nil w 1,fun _ h=>by cases h⟩
 ·obtain ⟨L,rfl,hv,hw⟩:=vals_of_row (.inr ⟨a,rfl,hl,hm,by simpa using hz,hcell,hwz⟩)
  exact ⟨_,rfl,some a,L,c,rfl,hv,hw⟩
theorem leaves_of_trod:∀ (f:Nat) (t:TypeId) (ls:List Leaf) (fuel:Nat) (cs:List Value) (x:DataW H×List MemPlace),leaves P f t=some ls→DataW.trod enc P w base (fun _=>true) held fuel t cs=some x→LeavesAre w ls cs:=by
 intro f
 induction f with
 | zero=>intro t ls fuel cs x h;cases h
 | succ f ih=>
  intro t ls fuel cs x hl h
  unfold leaves at hl
  split at hl
  ·rename_i k hu
   obtain ⟨n,rfl,_,hw⟩:=DataW.trod_int hu h
   cases hl
   exact leavesAre_one ⟨n,rfl,hw⟩
  ·rename_i hu
   obtain ⟨b,rfl,_⟩:=DataW.trod_bool hu h
   cases hl
   exact leavesAre_one ⟨b,rfl⟩
  ·rename_i hu
   obtain ⟨s,rfl,_,hs⟩:=DataW.trod_string hu h
   cases hl
   exact leavesAre_one ⟨s,rfl,hs⟩
  ·rename_i e hu
   split at hl
   ·rename_i k hk
    split at hl
    ·rename_i hc
     cases hl
     obtain ⟨v,rfl,hv⟩:=ints_of_trod hu hk hc h
     exact leavesAre_one hv
    ·cases hl
   ·cases hl
  ·rename_i fs hu
   obtain ⟨xs,n,rfl,_,hlen,hxl,hf⟩:=DataW.trod_struct hu h
   have key:∀ (r:List Field) (i off:Nat) (m:List Leaf),fs.toList.drop i=r→fieldsL P (leaves P f) off r=some m→LeavesAre w m ((cs.drop off).take m.length):=by
    intro r
    induction r with
    | nil=>intro i off m _ hm;cases hm;exact ⟨by simp,fun j l v h1 _=>by simp at h1⟩
    | cons fd r ihr=>
     intro i off m hr hm
     unfold fieldsL at hm
     split at hm
     ·cases hm
     ·rename_i l hl1
      split at hm
      ·cases hm
      ·rename_i m' hm'
       split at hm
       ·rename_i hc
        obtain ⟨ho,hc⟩:=hc
        cases hm
        have hi:fs[i]?=some fd:=by
         have:=congrArg (·[0]?) hr
         simpa using this
        have hil:i<fs.size:=(Array.getElem?_eq_some_iff.1 hi).1
        have h1:=hf i fd hi
        rw[List.getElem?_eq_getElem (by omega)] at h1
        have h2:=ih _ _ _ _ _ hl1 h1
        rw[ho,←hc] at h2
        have h3:=ihr (i+1) (off+P.cellsOf fd.type) m' (by rw[←List.drop_drop,hr];rfl) hm'
        rw[←hc,←List.drop_drop] at h3
        rw[List.length_append,List.take_add]
        exact leavesAre_append h2 h3
       ·cases hm
   split at hl
   ·rename_i m hm
    split at hl
    ·rename_i hml
     cases hl
     have:=key _ 0 0 ls rfl (by simpa using hm)
     rwa [List.drop_zero,List.take_of_length_le (by omega)] at this
    ·cases hl
   ·cases hl
  ·rename_i n e hu
   obtain ⟨xs,q,rfl,_,hlen,hxl,hf⟩:=DataW.trod_array hu h
   split at hl
   ·rename_i l hl1
    split at hl
    ·rename_i hc
     obtain ⟨hc,hn⟩:=hc
     cases hl
     have key:∀ (i:Nat),i≤n→LeavesAre w (List.replicate i l).flatten (cs.take (i*P.cellsOf e)):=by
      intro i
      induction i with
      | zero=>intro _;exact ⟨by simp,fun j l v h1 _=>by simp at h1⟩
      | succ i ihi=>
       intro hi
       have h1:=hf i (by omega)
       rw[List.getElem?_eq_getElem (by omega)] at h1
       have h2:=ih _ _ _ _ _ hl1 h1
       rw[Nat.succ_mul,List.take_add,List.replicate_succ',List.flatten_append]
       exact leavesAre_append (ihi (by omega)) (by simpa using h2)
     have:=key n (Nat.le_refl _)
     rwa [List.take_of_length_le (by omega)] at this
    ·cases hl
   ·cases hl
  ·cases hl
theorem rows_at (c:Nat) (g:Nat→List Value) (n:Nat) (hg:∀ i,i<n→(g i).length=c):((List.range n).flatMap g).length=n*c∧∀ i,i<n→(((List.range n).flatMap g).drop (i*c)).take c=g i:=by
 induction n with
 | zero=>exact ⟨by simp,fun i h=>absurd h (Nat.not_lt_zero _)⟩
 | succ n ih=>
  obtain ⟨h1,h2⟩:=ih fun i hi=>hg i (by omega)
  have h3:=hg n (by omega)
  rw[List.range_succ,List.flatMap_append,List.flatMap_singleton]
  refine ⟨by rw[List.length_append,h1,h3,Nat.succ_mul],fun i hi=>?_⟩
  by_cases e:i=n
  ·subst e
   rw[←h1,List.drop_left,List.take_of_length_le (by omega)]
  ·have hlt:(i+1)*c≤n*c:=Nat.mul_le_mul_right c (by omega)
   rw[Nat.succ_mul] at hlt
   rw[List.drop_append_of_le_length (by omega),List.take_append_of_le_length (by rw[List.length_drop];omega)]
   exact h2 i (by omega)
theorem rows_of_slice {t e:TypeId} {f:Nat} {ls:List Leaf} {fuel:Nat} {a:Option Addr} {len cap:Nat} {x:DataW H×List MemPlace} (ht:P.underlying t=some (.slice e)) (hl:leaves P f e=some ls) (hc:ls.length=P.cellsOf e) (hpos:0<ls.length)
  (h:DataW.trod enc P w base (fun _=>true) held fuel t [.slice a len cap]=some x) :
  ∃ xs,Vals w ls.length a len cap xs∧∀ i,i<len→LeavesAre w ls ((xs.drop (i*ls.length)).take ls.length):=by
 rcases open_slice ht h with ⟨hcs,_⟩|⟨a',l,c,m,n,D,Pl,hcs,hb,hle,hm,hmm,hx,hi⟩
 ·simp at hcs
  obtain ⟨rfl,rfl,rfl⟩:=hcs
  exact ⟨[],Vals.nil w _,fun i h=>absurd h (Nat.not_lt_zero _)⟩
 ·simp only[List.cons.injEq,Value.slice.injEq,and_true] at hcs
  obtain ⟨rfl,rfl,rfl⟩:=hcs
  simp only[if_true] at hmm
  subst hmm
  obtain ⟨g,hg⟩:∃ g:Nat→List Value,∀ i,i<len→w.cells? base (a'.add (i*P.cellsOf e)) (P.cellsOf e)=some (g i)∧DataW.trod enc P w base (fun _=>true) held n e (g i)=some (D i,Pl i):=by
   refine ⟨fun i=>if h:i<len then Classical.choose (hi i (by omega)) else [],fun i h=>?_⟩
   simp only[h,dite_true]
   exact Classical.choose_spec (hi i (by omega))
  have hgl:∀ i,i<len→(g i).length=ls.length:=fun i h=>by rw[(World.cells?_some (hg i h).1).2.1,hc]
  obtain ⟨r1,r2⟩:=rows_at ls.length g len hgl
  refine ⟨(List.range len).flatMap g,⟨r1,hle,hm,fun hn=>?_⟩,fun i h=>by rw[r2 i h];exact leaves_of_trod f e ls n _ _ hl (hg i h).2⟩
  have hat:∀ i,i<len→∀ j,j<ls.length→w.cell? (a'.add (i*ls.length+j))=(g i)[j]?:=fun i h j hj=>by
   have:=(World.cells?_some (hg i h).1).2.2 j (by omega)
   rw[←hc,Go.Deep.add_add] at this
   exact this
  obtain ⟨b,o,s⟩:=a'
  have h0:=hat 0 hn 0 hpos
  rw[List.getElem?_eq_getElem (by rw[hgl 0 hn];exact hpos)] at h0
  have hs:s=none:=addr_none (by simpa[Addr.add] using h0)
  subst hs
  refine ⟨b,o,rfl,fun j u hu=>?_⟩
  have hj:j<len*ls.length:=by rw[←r1];exact (List.getElem?_eq_some_iff.1 hu).1
  have hq:j / ls.length<len:=Nat.div_lt_of_lt_mul (by rw[Nat.mul_comm];exact hj)
  have hr:j%ls.length<ls.length:=Nat.mod_lt _ hpos
  have e1:=hat (j / ls.length) hq (j%ls.length) hr
  rw[Nat.mul_comm,Nat.div_add_mod,addr_add] at e1
  rw[e1,←r2 _ hq,List.getElem?_take_of_lt hr,List.getElem?_drop,Nat.mul_comm,Nat.div_add_mod]
  exact hu
end
end
section
open Go.RowKit
structure Mv where
 kd:Int
 who:Int
 i:Int
 at':Int
 by':Int
 in':Int
def Mv.vals (c:Mv):List Value:=[.int .i64 c.kd,.int .i64 c.who,.int .i64 c.i,.int .i64 c.at',.int .u8 c.by',.int .u8 c.in']
structure Mv.wf (c:Mv):Prop where
 by':0≤c.by'∧c.by'<256
 in':0≤c.in'∧c.in'<256
theorem mv_of {w:World} {cs:List Value} (h:LeavesAre w [.int .i64,.int .i64,.int .i64,.int .i64,.int .u8,.int .u8] cs):∃ c:Mv,cs=c.vals∧c.wf:=by
 obtain ⟨hl,h⟩:=h
 match cs,hl,h with
 | [v0,v1,v2,v3,v4,v5],_,h=>
  obtain ⟨k,rfl,w0⟩:=h 0 _ _ rfl rfl
  obtain ⟨to,rfl,w1⟩:=h 1 _ _ rfl rfl
  obtain ⟨i,rfl,w2⟩:=h 2 _ _ rfl rfl
  obtain ⟨s,rfl,w3⟩:=h 3 _ _ rfl rfl
  obtain ⟨a,rfl,w4⟩:=h 4 _ _ rfl rfl
  obtain ⟨b,rfl,w5⟩:=h 5 _ _ rfl rfl
  have h4:=wf_u8 w4
  have h5:=wf_u8 w5
  exact ⟨⟨k,to,i,s,a,b⟩,rfl,⟨h4.1,by show a<256;omega⟩,⟨h5.1,by show b<256;omega⟩⟩
def mvs (L:List Mv):List Value:=L.flatMap Mv.vals
theorem mvs_at (L:List Mv) (i:Nat) (h:i<L.length) (j:Nat) (hj:j<6):(mvs L)[i*6+j]?=L[i].vals[j]?:=by
 induction L generalizing i with
 | nil=>exact absurd h (Nat.not_lt_zero _)
 | cons c L ih=>
  simp only[mvs,List.flatMap_cons] at ih ⊢
  cases i with
  | zero=>rw[List.getElem?_append_left (by simp[Mv.vals];omega)];simp
  | succ i=>
   rw[List.getElem?_append_right (by simp[Mv.vals,Nat.succ_mul];omega),show (i+1)*6+j-c.vals.length=i*6+j by simp[Mv.vals,Nat.succ_mul];omega]
   exact ih i (by simpa using h)
theorem mvs_of {w:World}:∀ (n:Nat) (xs:List Value),xs.length=n*6→(∀ i,i<n→LeavesAre w [.int .i64,.int .i64,.int .i64,.int .i64,.int .u8,.int .u8] ((xs.drop (i*6)).take 6))→∃ L:List Mv,L.length=n∧xs=mvs L∧∀ c∈L,c.wf
 | 0,xs,h,_=>⟨[],rfl,List.eq_nil_of_length_eq_zero (by simpa using h),fun _ h=>by cases h⟩
 | n+1,xs,h,hl=>by
  obtain ⟨c,hc,hw⟩:=mv_of (hl 0 (by omega))
  obtain ⟨L,h1,h2,h3⟩:=mvs_of n (xs.drop 6) (by simp[h,Nat.succ_mul]) (fun i hi=>by
   have:=hl (i+1) (by omega)
   rwa [Nat.succ_mul,Nat.add_comm,←List.drop_drop] at this)
  refine ⟨c :: L,by simp[h1],?_,fun d hd=>?_⟩
  ·rw[←List.take_append_drop 6 xs,h2]
   simp only[Nat.zero_mul,List.drop_zero] at hc
   rw[hc]
   rfl
  ·cases hd with
   | head=>exact hw
   | tail _ hd=>exact h3 d hd
theorem setup_of {w:World} {cs:List Value} (h:LeavesAre w [.int .u32,.int .i64,.int .i64,.int .i64,.int .u32,.int .i64,.int .i64,.int .i64] cs) :
  ∃ seed d n me0 non0 pat ent voi:Int,cs.toArray=#[.int .u32 seed,.int .i64 d,.int .i64 n,.int .i64 me0,.int .u32 non0,.int .i64 pat,.int .i64 ent,.int .i64 voi]:=by
 obtain ⟨hl,h⟩:=h
 match cs,hl,h with
 | [v0,v1,v2,v3,v4,v5,v6,v7],_,h=>
  obtain ⟨x0,rfl,_⟩:=h 0 _ _ rfl rfl
  obtain ⟨x1,rfl,_⟩:=h 1 _ _ rfl rfl
  obtain ⟨x2,rfl,_⟩:=h 2 _ _ rfl rfl
  obtain ⟨x3,rfl,_⟩:=h 3 _ _ rfl rfl
  obtain ⟨x4,rfl,_⟩:=h 4 _ _ rfl rfl
  obtain ⟨x5,rfl,_⟩:=h 5 _ _ rfl rfl
  obtain ⟨x6,rfl,_⟩:=h 6 _ _ rfl rfl
  obtain ⟨x7,rfl,_⟩:=h 7 _ _ rfl rfl
  exact ⟨x0,x1,x2,x3,x4,x5,x6,x7,rfl⟩
end
end Go.Proofs.YtalagblioepadaaGreatDoor
