/- The proof, part 2. -/
import Derived.WalkKit
import Derived.WalkLawsBesides
import Derived.WalkSpells
import Derived.ProofKit
import Derived.OpenShut
import Derived.ShutString
import Derived.Outline
namespace Go.Proofs.YtalagblioepadaaGreatDoor
section
open Go.RowKit
theorem hid {p:Prop} (h:p):Hid p:=h
def strLen:Value→Nat|.string t=>t.size|_=>0
theorem take_snoc (s:ByteArray) (k:Nat) (h:k<s.size):s.data.toList.take (k+1)=s.data.toList.take k++[s[k]]:=by
 rw[List.take_succ_eq_append_getElem (by simpa using h)];rfl
theorem extract_data (s:ByteArray) (a b:Nat):(s.extract a b).data.toList=(s.data.toList.drop a).take (b-a):=by
 rw[ByteArray.data_extract]
 simp[List.extract_eq_take_drop]
theorem extract_end (s:ByteArray) (a:Nat):(s.extract a s.size).data.toList=s.data.toList.drop a:=by
 rw[extract_data,List.take_of_length_le]
 simp
theorem wrap_u16 (n:Int):IntKind.u16.wrap n=n%65536:=by simp[IntKind.wrap,IntKind.bits,IntKind.signed]
theorem wrap_u8 (n:Int):IntKind.u8.wrap n=n%256:=by simp[IntKind.wrap,IntKind.bits,IntKind.signed]
theorem wrap_u32 (n:Int):IntKind.u32.wrap n=n%4294967296:=by simp[IntKind.wrap,IntKind.bits,IntKind.signed]
theorem wrap_u64 (n:Int):IntKind.u64.wrap n=n%18446744073709551616:=by simp[IntKind.wrap,IntKind.bits,IntKind.signed]
theorem wrap_i16 (n:Int):IntKind.i16.wrap n=(n+32768)%65536-32768:=by
 simp only[IntKind.wrap,IntKind.bits,IntKind.signed];simp;split<;>omega
theorem ret_int {k:IntKind} {a b:Int} (h:a=b):Ending.returned (.int k a)=.returned (.int k b):=by rw[h]
theorem ret_bool {a b:Bool} (h:a=b):Ending.returned (.bool a)=.returned (.bool b):=by rw[h]
theorem ret_two {a b a' b':Value} (h:a=a') (h':b=b'):Ending.returned (.tuple #[a,b])=.returned (.tuple #[a',b']):=by rw[h,h']
theorem val_int {k:IntKind} {a b:Int} (h:a=b):Value.int k a=.int k b:=by rw[h]
theorem addr_add (b o i:Nat):(⟨b,o,none⟩:Addr).add i=⟨b,o+i,none⟩:=by unfold Addr.add;split<;>simp_all
theorem tmod_cases (a m:Int):(0≤a→a.tmod m=a%m)∧(a<0→a.tmod m=-((-a)%m)):=
 ⟨fun h=>Int.tmod_eq_emod_of_nonneg h,fun h=>by rw[←Int.tmod_eq_emod_of_nonneg (a:=-a) (by omega),Int.neg_tmod,Int.neg_neg]⟩
end
section
theorem place_eq {f s t:Nat} (hf:f<s) (ht:t<s):(f+t)%s=if f+t<s then f+t else f+t-s:=by
 by_cases h:f+t<s
 ·rw[if_pos h,Nat.mod_eq_of_lt h]
 ·rw[if_neg h,Nat.mod_eq_sub_mod (by omega),Nat.mod_eq_of_lt (by omega)]
theorem place_inj {f s t u:Nat} (hf:f<s) (ht:t<s) (hu:u<s) (h:(f+t)%s=(f+u)%s):t=u:=by
 rw[place_eq hf ht,place_eq hf hu] at h
 split at h<;>split at h<;>omega
theorem place_step (f s t:Nat):((f+1)%s+t)%s=(f+(t+1))%s:=by
 rw[Nat.mod_add_mod]
 congr 1
 omega
def Holds {α:Type} (A:List α) (f s:Nat) (L:List α):Prop:=∀ t,t<L.length→A[(f+t)%s]?=L[t]?
section
variable {α:Type} {A L:List α} {f s:Nat}
theorem Holds.push (h:Holds A f s L) (hf:f<s) (hA:A.length=s) (hl:L.length<s) (v:α):Holds (A.set ((f+L.length)%s) v) f s (L++[v]):=by
 intro t ht
 simp only[List.length_append,List.length_cons,List.length_nil] at ht
 have hk:(f+L.length)%s<s:=Nat.mod_lt _ (by omega)
 by_cases e:t=L.length
 ·subst e
  rw[List.getElem?_set_self (by omega)]
  simp
 ·rw[List.getElem?_set_ne (fun e2=>e (place_inj hf (by omega) hl e2.symm)),h t (by omega),List.getElem?_append_left (by omega)]
theorem Holds.pop (h:Holds A f s L) (hf:f<s) (hl:L.length≤s) (hn:0<L.length) (v:α):Holds (A.set f v) ((f+1)%s) s L.tail:=by
 intro t ht
 simp only[List.length_tail] at ht
 rw[place_step]
 have h0:(f+0)%s=f:=Nat.mod_eq_of_lt hf
 rw[List.getElem?_set_ne (fun e=>absurd (place_inj (t:=0) (u:=t+1) hf (by omega) (by omega) (h0.trans e)) (by omega)),h (t+1) (by omega)]
 simp
def Shifted (A:List α) (f s:Nat) (L:List α) (i j:Nat):Prop:=∀ t,t<L.length→A[(f+t)%s]?=if i≤t∧t<j then L[t+1]? else L[t]?
theorem Holds.shift (h:Holds A f s L) (i:Nat):Shifted A f s L i i:=by
 intro t ht
 rw[if_neg (by omega)]
 exact h t ht
theorem Shifted.next {i j:Nat} (h:Shifted A f s L i j) (hf:f<s) (hA:A.length=s) (hl:L.length≤s) (hij:i≤j) (hj:j+1<L.length) (y:α) (hy:A[(f+(j+1))%s]?=some y) :
  Shifted (A.set ((f+j)%s) y) f s L i (j+1):=by
 intro t ht
 have hk:(f+j)%s<s:=Nat.mod_lt _ (by omega)
 by_cases e:t=j
 ·subst e
  rw[List.getElem?_set_self (by omega),if_pos (by omega),←hy,h (t+1) (by omega),if_neg (by omega)]
 ·rw[List.getElem?_set_ne (fun e2=>e (place_inj hf (by omega) (by omega) e2.symm)),h t ht]
  by_cases c:i≤t∧t<j
  ·rw[if_pos c,if_pos (by omega)]
  ·rw[if_neg c,if_neg (by omega)]
theorem Shifted.done {i:Nat} (h:Shifted A f s L i (L.length-1)) (hf:f<s) (hl:L.length≤s) (hi:i<L.length) (z:α):Holds (A.set ((f+(L.length-1))%s) z) f s (L.eraseIdx i):=by
 intro t ht
 rw[List.length_eraseIdx_of_lt hi] at ht
 rw[List.getElem?_set_ne (fun e=>absurd (place_inj hf (by omega) (by omega) e) (by omega)),h t (by omega),List.getElem?_eraseIdx]
 by_cases c:t<i
 ·rw[if_pos c,if_neg (by omega)]
 ·rw[if_neg c,if_pos (by omega)]
end
end
section
section
variable {α:Type}
def lookL:List (Nat×α)→Nat→Option α
 | [],_=>none
 | (g,y) :: r,f=>if g=f then some y else lookL r f
def Asc (L:List (Nat×α)):Prop:=L.Pairwise fun p q=>p.1<q.1
def putL:List (Nat×α)→Nat→α→List (Nat×α)
 | [],f,x=>[(f,x)]
 | (g,y) :: r,f,x=>if f≤g then (f,x) :: ((g,y) :: r).filter (fun p=>p.1 != f) else (g,y) :: putL r f x
theorem lookL_filter (L:List (Nat×α)) (p:Nat→Bool) (f:Nat):lookL (L.filter fun q=>p q.1) f=if p f then lookL L f else none:=by
 induction L with
 | nil=>simp[lookL]
 | cons c r ih=>
  obtain ⟨g,y⟩:=c
  by_cases hp:p g
  ·rw[List.filter_cons_of_pos (by simpa using hp)]
   simp only[lookL]
   by_cases e:g=f
   ·subst e;simp[hp]
   ·rw[if_neg e,if_neg e,ih]
  ·rw[List.filter_cons_of_neg (by simpa using hp),ih]
   simp only[lookL]
   by_cases e:g=f
   ·subst e;simp[hp]
   ·rw[if_neg e]
theorem lookL_put (L:List (Nat×α)) (f:Nat) (x:α) (f':Nat):lookL (putL L f x) f'=if f'=f then some x else lookL L f':=by
 induction L with
 | nil=>
  simp only[putL,lookL]
  by_cases e:f=f'
  ·subst e;simp
  ·rw[if_neg e,if_neg (Ne.symm e)]
 | cons c r ih=>
  obtain ⟨g,y⟩:=c
  simp only[putL]
  split
  ·rename_i h
   have h1:=lookL_filter ((g,y) :: r) (fun n=>n != f) f'
   simp only[lookL] at h1 ⊢
   by_cases e:f=f'
   ·subst e;simp
   ·rw[if_neg e,if_neg (Ne.symm e),h1,if_pos (by simpa using Ne.symm e)]
  ·rename_i h
   simp only[lookL]
   by_cases e:g=f'
   ·rw[if_pos e,if_pos e,if_neg (by omega)]
   ·rw[if_neg e,if_neg e,ih]
theorem mem_put {L:List (Nat×α)} {f:Nat} {x:α} {p:Nat×α} (h:p∈putL L f x):p=(f,x)∨p∈L:=by
 induction L with
 | nil=>exact .inl (by simpa[putL] using h)
 | cons c r ih=>
  obtain ⟨g,y⟩:=c
  simp only[putL] at h
  split at h
  ·rcases List.mem_cons.1 h with h|h
   ·exact .inl h
   ·exact .inr (List.mem_filter.1 h).1
  ·rcases List.mem_cons.1 h with h|h
   ·exact .inr (by rw[h];simp)
   ·rcases ih h with h|h
    ·exact .inl h
    ·exact .inr (by simp[h])
theorem asc_put {L:List (Nat×α)} (h:Asc L) (f:Nat) (x:α):Asc (putL L f x):=by
 induction L with
 | nil=>simp[putL,Asc]
 | cons c r ih=>
  obtain ⟨g,y⟩:=c
  have hc:=List.pairwise_cons.1 h
  simp only[putL]
  split
  ·rename_i hle
   refine List.pairwise_cons.2 ⟨fun p hp=>?_,h.filter _⟩
   obtain ⟨h1,h2⟩:=List.mem_filter.1 hp
   have h3:p.1≠f:=by simpa using h2
   rcases List.mem_cons.1 h1 with h1|h1
   ·rw[h1] at h3 ⊢;simp at h3 ⊢;omega
   ·have:=hc.1 p h1;simp at this ⊢;omega
  ·rename_i hle
   refine List.pairwise_cons.2 ⟨fun p hp=>?_,ih hc.2⟩
   rcases mem_put hp with h1|h1
   ·rw[h1];simp;omega
   ·exact hc.1 p h1
theorem asc_filter {L:List (Nat×α)} (h:Asc L) (p:Nat×α→Bool):Asc (L.filter p):=h.filter _
theorem lookL_mem {L:List (Nat×α)} {f:Nat} {x:α} (h:lookL L f=some x):(f,x)∈L:=by
 induction L with
 | nil=>cases h
 | cons c r ih=>
  obtain ⟨g,y⟩:=c
  simp only[lookL] at h
  split at h
  ·rename_i e;subst e;cases h;simp
  ·simp[ih h]
theorem mem_lookL {L:List (Nat×α)} (ha:Asc L) {f:Nat} {x:α} (h:(f,x)∈L):lookL L f=some x:=by
 induction L with
 | nil=>cases h
 | cons c r ih=>
  obtain ⟨g,y⟩:=c
  have hc:=List.pairwise_cons.1 ha
  simp only[lookL]
  rcases List.mem_cons.1 h with h|h
  ·cases h;rw[if_pos rfl]
  ·have:=hc.1 _ h
   simp at this
   rw[if_neg (by omega)]
   exact ih hc.2 h
theorem frames_of {L:List (Nat×α)} (ha:Asc L) (first size:Nat) (hin:∀ p∈L,first≤p.1∧p.1<first+size) :
  ((List.range size).map (first+·)).filter (fun f=>(lookL L f).isSome)=L.map (·.1):=by
 have key:∀ (l1 l2:List Nat),l1.Pairwise (·<·)→l2.Pairwise (·<·)→(∀ n,n∈l1↔n∈l2)→l1=l2:=by
  intro l1
  induction l1 with
  | nil=>
   intro l2 _ _ h
   cases l2 with
   | nil=>rfl
   | cons b r=>have:=(h b).2 (by simp);cases this
  | cons a r ih=>
   intro l2 h1 h2 h
   cases l2 with
   | nil=>have:=(h a).1 (by simp);cases this
   | cons b s=>
    have c1:=List.pairwise_cons.1 h1
    have c2:=List.pairwise_cons.1 h2
    have hab:a=b:=by
     rcases List.mem_cons.1 ((h a).1 (by simp)) with e|e
     ·exact e
     ·rcases List.mem_cons.1 ((h b).2 (by simp)) with e2|e2
      ·exact e2.symm
      ·have:=c1.1 b e2;have:=c2.1 a e;omega
    subst hab
    rw[ih s c1.2 c2.2 (fun n=>⟨fun hn=>by
     rcases List.mem_cons.1 ((h n).1 (by simp[hn])) with e|e
     ·have:=c1.1 n hn;omega
     ·exact e,fun hn=>by
     rcases List.mem_cons.1 ((h n).2 (by simp[hn])) with e|e
     ·have:=c2.1 n hn;omega
     ·exact e⟩)]
 refine key _ _ (List.Pairwise.filter _ ?_) ?_ fun n=>?_
 ·rw[List.pairwise_map]
  exact (List.pairwise_lt_range).imp (fun h=>by omega)
 ·rw[List.pairwise_map];exact ha
 ·rw[List.mem_filter,List.mem_map,List.mem_map]
  constructor
  ·rintro ⟨_,h⟩
   obtain ⟨x,hx⟩:=Option.isSome_iff_exists.1 h
   exact ⟨(n,x),lookL_mem hx,rfl⟩
  ·rintro ⟨⟨f,x⟩,hp,rfl⟩
   have h1:=hin _ hp
   exact ⟨⟨f-first,by simp;simp at h1;omega,by simp at h1 ⊢;omega⟩,by simp[mem_lookL ha hp]⟩
end
end
end Go.Proofs.YtalagblioepadaaGreatDoor
