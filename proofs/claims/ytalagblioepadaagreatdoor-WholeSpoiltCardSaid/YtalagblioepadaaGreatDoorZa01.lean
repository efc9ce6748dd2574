/- The proof, part 1. -/
import Derived.RowKit
namespace Go.Proofs.YtalagblioepadaaGreatDoor
section
def two64:Nat:=18446744073709551616
def num (n:Nat):List UInt8:=if n<128 then [UInt8.ofNat n] else UInt8.ofNat (n%128+128) :: num (n / 128)
termination_by n
decreasing_by omega
theorem num_small (n:Nat) (h:n<128):num n=[UInt8.ofNat n]:=by rw[num,if_pos h]
theorem num_big (n:Nat) (h:¬ n<128):num n=UInt8.ofNat (n%128+128) :: num (n / 128):=by rw[num,if_neg h]
theorem num_len:∀ (k n:Nat),n<128 ^ (k+1)→(num n).length≤k+1
 | 0,n,h=>by rw[num_small n (by simpa using h)];simp
 | k+1,n,h=>by
  by_cases hn:n<128
  ·rw[num_small n hn];simp
  ·rw[num_big n hn]
   have:=num_len k (n / 128) (by rw[Nat.div_lt_iff_lt_mul (by omega)];rw[Nat.pow_succ] at h;exact h)
   simp only[List.length_cons]
   omega
theorem num_len10 (n:Nat) (h:n<two64):(num n).length≤10:=num_len 9 n (Nat.lt_of_lt_of_le h (by unfold two64;decide))
def rdF:Nat→Nat→List UInt8→Nat×Nat×Int
 | _,_,[]=>(0,0,3)
 | i,a,c :: r=>
  if 9<i∨(i=9∧1<c.toNat%128) then (0,0,4)
  else if c.toNat=0∧0<i then (0,0,4)
  else if c.toNat<128 then (a+c.toNat%128*128 ^ i,i+1,0)
  else rdF (i+1) (a+c.toNat%128*128 ^ i) r
def rdNum (l:List UInt8):Nat×Nat×Int:=rdF 0 0 l
theorem rdF_wide (k a:Nat) (c:UInt8) (r:List UInt8) (h:9<k∨(k=9∧1<c.toNat%128)):rdF k a (c :: r)=(0,0,4):=by rw[rdF,if_pos h]
theorem rdF_nought (k a:Nat) (c:UInt8) (r:List UInt8) (h:¬ (9<k∨(k=9∧1<c.toNat%128))) (h2:c.toNat=0∧0<k):rdF k a (c :: r)=(0,0,4):=by rw[rdF,if_neg h,if_pos h2]
theorem rdF_end (k a:Nat) (c:UInt8) (r:List UInt8) (h:¬ (9<k∨(k=9∧1<c.toNat%128))) (h2:¬ (c.toNat=0∧0<k)) (h3:c.toNat<128):rdF k a (c :: r)=(a+c.toNat%128*128 ^ k,k+1,0):=by rw[rdF,if_neg h,if_neg h2,if_pos h3]
theorem rdF_on (k a:Nat) (c:UInt8) (r:List UInt8) (h:¬ (9<k∨(k=9∧1<c.toNat%128))) (h2:¬ (c.toNat=0∧0<k)) (h3:¬ c.toNat<128):rdF k a (c :: r)=rdF (k+1) (a+c.toNat%128*128 ^ k) r:=by rw[rdF,if_neg h,if_neg h2,if_neg h3]
theorem rd_fits (k a x:Nat) (hk:k≤9) (hx:x<128) (h:¬ (k=9∧1<x)) (ha:a<128 ^ k):a+x*128 ^ k<two64∧a+x*128 ^ k<128 ^ (k+1):=by
 unfold two64
 rcases (show k=0∨k=1∨k=2∨k=3∨k=4∨k=5∨k=6∨k=7∨k=8∨k=9 by omega) with rfl|rfl|rfl|rfl|rfl|rfl|rfl|rfl|rfl|rfl<;>(simp only[Nat.reduceAdd,Nat.reducePow] at ha ⊢;omega)
def same (c:UInt8):List UInt8→Nat
 | []=>0
 | d :: r=>if d=c then same c r+1 else 0
theorem same_le (c:UInt8):∀ r:List UInt8,same c r≤r.length
 | []=>Nat.le_refl _
 | d :: r=>by
  have:=same_le c r
  unfold same
  split<;>simp only[List.length_cons]<;>omega
theorem same_at (c:UInt8):∀ (r:List UInt8) (i:Nat) (_:i<same c r) (h2:i<r.length),r[i]=c
 | d :: r,i,h,h2=>by
  unfold same at h
  split at h
  ·rename_i hd
   match i,h,h2 with
   | 0,_,_=>exact hd
   | i+1,h,h2=>exact same_at c r i (by omega) (by simpa using h2)
  ·omega
theorem same_end (c:UInt8):∀ (r:List UInt8) (h:same c r<r.length),r[same c r]≠c
 | d :: r,h=>by
  by_cases hd:d=c
  ·have e:same c (d :: r)=same c r+1:=by rw[same,if_pos hd]
   have h':same c r<r.length:=by rw[e] at h;simpa using h
   have:=same_end c r h'
   simpa[e] using this
  ·have e:same c (d :: r)=0:=by rw[same,if_neg hd]
   simpa[e] using hd
def runs:List UInt8→List (UInt8×Nat)
 | []=>[]
 | c :: r=>(c,same c r+1) :: runs (r.drop (same c r))
termination_by l=>l.length
decreasing_by simp only[List.length_drop,List.length_cons];omega
theorem runs_le:∀ (m:Nat) (L:List UInt8),L.length≤m→∀ x∈runs L,0<x.2∧x.2≤L.length
 | _,[],_,x,hx=>by simp[runs] at hx
 | 0,c :: r,h,_,_=>by simp at h
 | m+1,c :: r,h,x,hx=>by
  have hs:=same_le c r
  rw[runs] at hx
  simp only[List.length_cons] at h ⊢
  rcases List.mem_cons.1 hx with rfl|hx
  ·exact ⟨by simp,by simpa using hs⟩
  ·have:=runs_le m (r.drop (same c r)) (by simp;omega) x hx
   simp only[List.length_drop] at this
   omega
def fits (L:List UInt8):Bool:=L.all (fun c=>decide (c.toNat≤63))&&decide (L.length≤64)
def runsBytes (p:List (UInt8×Nat)):List UInt8:=p.flatMap fun x=>x.1 :: num x.2
def runBytes (L:List UInt8):List UInt8:=num L.length++runsBytes (runs L)
theorem runs_len:∀ (m:Nat) (L:List UInt8),L.length≤m→(runs L).length≤L.length
 | _,[],_=>by simp[runs]
 | 0,c :: r,h=>by simp at h
 | m+1,c :: r,h=>by
  simp only[List.length_cons] at h
  have:=runs_len m (r.drop (same c r)) (by simp;omega)
  rw[runs]
  simp only[List.length_cons,List.length_drop] at this ⊢
  omega
theorem runsBytes_len:∀ (p:List (UInt8×Nat)),(∀ x∈p,x.2<128)→(runsBytes p).length=2*p.length
 | [],_=>rfl
 | x :: p,h=>by
  have h1:=runsBytes_len p (fun y hy=>h y (List.mem_cons_of_mem _ hy))
  have h2:=h x (List.mem_cons_self)
  unfold runsBytes at *
  rw[List.flatMap_cons,num_small _ h2]
  simp only[List.length_append,List.length_cons,List.length_nil,h1]
  omega
theorem runsBytes_snoc (p:List (UInt8×Nat)) (x:UInt8×Nat):runsBytes (p++[x])=runsBytes p++(x.1 :: num x.2):=by simp[runsBytes]
theorem pre_len (L:List UInt8) (hl:L.length≤64) (pre rest:List (UInt8×Nat)) (h:runs L=pre++rest):(num L.length++runsBytes pre).length≤138:=by
 have h1:=runs_len _ L (Nat.le_refl _)
 have h2:=runs_le _ L (Nat.le_refl _)
 rw[h] at h1 h2
 simp only[List.length_append] at h1 ⊢
 rw[runsBytes_len pre (fun x hx=>by have:=h2 x (List.mem_append_left _ hx);omega)]
 have:=num_len10 L.length (by unfold two64;omega)
 omega
end
section
theorem byte_of (n:Nat) (h:n<256):(UInt8.ofNat n).toNat=n:=by simp[Nat.mod_eq_of_lt h]
theorem rd_num:∀ (n k a:Nat) (t:List UInt8),a+n*128 ^ k<two64→(0<k→0<n)→rdF k a (num n++t)=(a+n*128 ^ k,k+(num n).length,0):=by
 intro n
 induction n using Nat.strongRecOn with
 | _ n ih=>
  intro k a t hf hp
  have hk:9<k→False:=by
   intro h
   have h1:128 ^ 10≤128 ^ k:=Nat.pow_le_pow_right (by decide) h
   have h2:1*128 ^ k≤n*128 ^ k:=Nat.mul_le_mul_right _ (hp (by omega))
   unfold two64 at hf
   have:(18446744073709551616:Nat)<128 ^ 10:=by decide
   omega
  by_cases hn:n<128
  ·have hb:=byte_of n (by omega)
   rw[num_small n hn,List.cons_append,rdF_end]
   ·rw[hb,Nat.mod_eq_of_lt hn];rfl
   ·rw[hb,Nat.mod_eq_of_lt hn]
    rintro (h|⟨rfl,h⟩)
    ·exact hk h
    ·unfold two64 at hf
     have:2*128 ^ 9≤n*128 ^ 9:=Nat.mul_le_mul_right _ h
     omega
   ·rw[hb]
    rintro ⟨h,h2⟩
    have:=hp h2
    omega
   ·rw[hb];exact hn
  ·have hb:=byte_of (n%128+128) (by omega)
   have h8:¬ (9<k∨k=9):=by
    rintro (h|rfl)
    ·exact hk h
    ·unfold two64 at hf
     have:128*128 ^ 9≤n*128 ^ 9:=Nat.mul_le_mul_right _ (by omega)
     omega
   have e:n*128 ^ k=n%128*128 ^ k+n / 128*128 ^ (k+1):=by
    have h1:n=n%128+n / 128*128:=by omega
    calc n*128 ^ k=(n%128+n / 128*128)*128 ^ k:=by rw[←h1]
     _=_:=by rw[Nat.add_mul,Nat.mul_assoc,Nat.pow_succ,Nat.mul_comm 128]
   have em:(n%128+128)%128=n%128:=by omega
   rw[num_big n hn,List.cons_append,rdF_on,hb,em,ih (n / 128) (by omega) (k+1) _ t (by rw[Nat.add_assoc,←e];exact hf) (fun _=>by omega)]
   ·refine Prod.ext ?_ (Prod.ext ?_ rfl)
    ·show a+n%128*128 ^ k+n / 128*128 ^ (k+1)=_
     rw[e,Nat.add_assoc]
    ·show k+1+(num (n / 128)).length=_
     simp only[List.length_cons]
     omega
   ·rintro (h|⟨h,_⟩)
    ·exact h8 (.inl h)
    ·exact h8 (.inr h)
   ·rw[hb];omega
   ·rw[hb];omega
theorem rd_behind (n:Nat) (hn:n<two64) (t:List UInt8):rdNum (num n++t)=(n,(num n).length,0):=by
 have:=rd_num n 0 0 t (by simpa using hn) (fun h=>absurd h (by decide))
 simpa[rdNum] using this
theorem rd_told:∀ (l:List UInt8) (k a v i:Nat),rdF k a l=(v,i,0)→a<128 ^ k→∃ n,v=a+n*128 ^ k∧num n=l.take (i-k)∧i=k+(num n).length∧(0<k→0<n)∧v<two64
 | [],k,a,v,i,h,_=>by simp[rdF] at h
 | c :: r,k,a,v,i,h,ha=>by
  by_cases h1:9<k∨(k=9∧1<c.toNat%128)
  ·rw[rdF_wide _ _ _ _ h1] at h;simp at h
  by_cases h2:c.toNat=0∧0<k
  ·rw[rdF_nought _ _ _ _ h1 h2] at h;simp at h
  have hfit:=rd_fits k a (c.toNat%128) (by omega) (Nat.mod_lt _ (by decide)) (by omega) ha
  by_cases h3:c.toNat<128
  ·rw[rdF_end _ _ _ _ h1 h2 h3] at h
   simp only[Prod.mk.injEq,and_true] at h
   obtain ⟨rfl,rfl⟩:=h
   rw[Nat.mod_eq_of_lt h3] at *
   refine ⟨c.toNat,rfl,?_,?_,fun hk=>by omega,hfit.1⟩
   ·rw[num_small _ h3,Nat.add_sub_cancel_left];simp
   ·rw[num_small _ h3];rfl
  ·rw[rdF_on _ _ _ _ h1 h2 h3] at h
   obtain ⟨n,e1,e2,e3,e4,e5⟩:=rd_told r (k+1) _ v i h hfit.2
   have hc:c.toNat<256:=c.toNat_lt
   have hn:¬ n*128+c.toNat%128<128:=by have:=e4 (by omega);omega
   refine ⟨n*128+c.toNat%128,?_,?_,?_,fun _=>by omega,e5⟩
   ·rw[e1,Nat.add_mul,Nat.mul_assoc,Nat.pow_succ,Nat.mul_comm 128,Nat.add_assoc,Nat.add_comm (c.toNat%128*128 ^ k)]
   ·rw[num_big _ hn,show (n*128+c.toNat%128) / 128=n by omega,show (n*128+c.toNat%128)%128+128=c.toNat by omega,e2,show i-k=(i-(k+1))+1 by omega]
    simp
   ·rw[num_big _ hn,show (n*128+c.toNat%128) / 128=n by omega]
    simp only[List.length_cons]
    omega
theorem rd_ok (l:List UInt8) (v i:Nat) (h:rdNum l=(v,i,0)):num v=l.take i∧v<two64∧i=(num v).length:=by
 obtain ⟨n,e1,e2,e3,_,e5⟩:=rd_told l 0 0 v i h (by decide)
 simp at e1
 subst e1
 exact ⟨by simpa using e2,e5,by omega⟩
theorem rd_err:∀ (l:List UInt8) (k a:Nat),(rdF k a l).2.2≠0→(rdF k a l).1=0∧(rdF k a l).2.1=0
 | [],_,_,_=>by simp[rdF]
 | c :: r,k,a,h=>by
  rw[rdF] at h ⊢
  split
  ·simp
  ·split
   ·simp
   ·split
    ·simp_all
    ·refine rd_err r _ _ ?_
     simp_all
theorem rd_in (l:List UInt8):(rdNum l).1<two64∧(rdNum l).2.1≤l.length∧(rdNum l).2.1≤10:=by
 by_cases h:(rdNum l).2.2=0
 ·obtain ⟨h1,h2,h3⟩:=rd_ok l (rdNum l).1 (rdNum l).2.1 (Prod.ext rfl (Prod.ext rfl h))
  have:=congrArg List.length h1
  have h4:=num_len10 _ h2
  rw[List.length_take] at this
  exact ⟨h2,by omega,by omega⟩
 ·obtain ⟨h1,h2⟩:=rd_err l 0 0 h
  have h1':(rdNum l).1=0:=h1
  have h2':(rdNum l).2.1=0:=h2
  rw[h1',h2']
  exact ⟨by decide,by omega,by omega⟩
def zz (n:Int):Nat:=if 0≤n then (2*n).toNat else (-2*n-1).toNat
def unzz (a:Nat):Int:=if a%2=0 then ((a / 2:Nat):Int) else -((a / 2:Nat):Int)-1
theorem unzz_zz (n:Int):unzz (zz n)=n:=by
 unfold unzz zz
 split<;>split<;>omega
theorem zz_in (n:Int) (h:-9223372036854775808≤n∧n≤9223372036854775807):zz n<two64:=by
 unfold zz two64
 split<;>omega
end
section
structure Msg where
 kind:Int
 nonce:Int
 serial:Int
 ack:Int
 ins:List UInt8
 sum:Int
 lead:Int
def Msg.zero:Msg:=⟨0,0,0,0,[],0,0⟩
structure Msg.wf (m:Msg):Prop where
 kind:-9223372036854775808≤m.kind∧m.kind≤9223372036854775807
 nonce:0≤m.nonce∧m.nonce<4294967296
 serial:0≤m.serial∧m.serial<65536
 ack:0≤m.ack∧m.ack<65536
 sum:0≤m.sum∧m.sum<4294967296
 lead:-9223372036854775808≤m.lead∧m.lead≤9223372036854775807
def sameM (a b:Msg):Bool:=decide (a.kind=b.kind)&&decide (a.nonce=b.nonce)&&decide (a.serial=b.serial)&&decide (a.ack=b.ack)&&decide (a.ins=b.ins)&&decide (a.sum=b.sum)&&decide (a.lead=b.lead)
def namesK (k:Int):Int:=if k=1∨k=2 then 1 else if k=3 then 14 else if k=4 then 18 else if k=5 then 4 else if k=6 then 34 else 0
def bareM (m:Msg):Msg:=
 ⟨m.kind,if m.kind=1∨m.kind=2 then m.nonce else 0,if m.kind=3∨m.kind=4∨m.kind=6 then m.serial else 0,if m.kind=3∨m.kind=5 then m.ack else 0,if m.kind=3 then m.ins else [],if m.kind=4 then m.sum else 0,if m.kind=6 then m.lead else 0⟩
def RightP (m:Msg):Prop:=
 (1≤m.kind∧m.kind≤7)∧fits m.ins=true∧(-1000≤m.lead∧m.lead≤1000)∧(m.nonce=0∨m.kind=1∨m.kind=2)∧(m.serial=0∨m.kind=3∨m.kind=4∨m.kind=6)∧(m.ack=0∨m.kind=3∨m.kind=5)∧(0<m.ins.length↔m.kind=3)∧(m.sum=0∨m.kind=4)∧(m.lead=0∨m.kind=6)
instance (m:Msg):Decidable (RightP m):=by unfold RightP;infer_instance
theorem right_wire (m:Msg):RightP m↔(1≤m.kind∧m.kind≤7)∧sameM m (bareM m)=true∧fits m.ins=true∧(-1000≤m.lead∧m.lead≤1000)∧(m.kind≠3∨0<m.ins.length):=by
 obtain ⟨k,n,s,a,i,u,l⟩:=m
 have h0:(0<i.length)↔i≠[]:=by cases i<;>simp
 simp only[RightP,sameM,bareM,Bool.and_eq_true,decide_eq_true_eq,h0]
 constructor
 ·rintro ⟨h1,h2,h3,h4,h5,h6,h7,h8,h9⟩
  refine ⟨h1,⟨⟨⟨⟨⟨⟨trivial,?_⟩,?_⟩,?_⟩,?_⟩,?_⟩,?_⟩,h2,h3,?_⟩
  ·split<;>simp_all
  ·split<;>simp_all
  ·split<;>simp_all
  ·split
   ·rfl
   ·rename_i e
    by_cases hi:i=[]
    ·exact hi
    ·exact absurd (h7.1 hi) e
  ·split<;>simp_all
  ·split<;>simp_all
  ·by_cases e:k=3
   ·exact .inr (h7.2 e)
   ·exact .inl e
 ·rintro ⟨h1,⟨⟨⟨⟨⟨⟨_,g1⟩,g2⟩,g3⟩,g4⟩,g5⟩,g6⟩,h2,h3,h4⟩
  refine ⟨h1,h2,h3,?_,?_,?_,⟨fun hi=>?_,fun e=>?_⟩,?_,?_⟩
  ·split at g1
   ·rename_i e;exact .inr e
   ·exact .inl g1
  ·split at g2
   ·rename_i e;exact .inr e
   ·exact .inl g2
  ·split at g3
   ·rename_i e;exact .inr e
   ·exact .inl g3
  ·split at g4
   ·rename_i e;exact e
   ·exact absurd g4 hi
  ·rcases h4 with h|h
   ·exact absurd e h
   ·exact h
  ·split at g5
   ·rename_i e;exact .inr e
   ·exact .inl g5
  ·split at g6
   ·rename_i e;exact .inr e
   ·exact .inl g6
end
section
def adlStep (p:Int×Int) (c:UInt8):Int×Int:=((p.1+(c.toNat:Int))%65521,(p.2+(p.1+(c.toNat:Int))%65521)%65521)
def rawStep (p:Int×Int) (c:UInt8):Int×Int:=(p.1+(c.toNat:Int),p.2+(p.1+(c.toNat:Int)))
def adl (p:Int×Int) (l:List UInt8):Int×Int:=l.foldl adlStep p
def raw (p:Int×Int) (l:List UInt8):Int×Int:=l.foldl rawStep p
theorem adl_cons (p:Int×Int) (c:UInt8) (l:List UInt8):adl p (c :: l)=adl (adlStep p c) l:=rfl
theorem raw_cons (p:Int×Int) (c:UInt8) (l:List UInt8):raw p (c :: l)=raw (rawStep p c) l:=rfl
theorem adl_append (p:Int×Int) (l m:List UInt8):adl p (l++m)=adl (adl p l) m:=by simp[adl,List.foldl_append]
theorem raw_snoc (p:Int×Int) (l:List UInt8) (c:UInt8):raw p (l++[c])=rawStep (raw p l) c:=by simp[raw,List.foldl_append]
def Red (p:Int×Int):Prop:=(0≤p.1∧p.1<65521)∧(0≤p.2∧p.2<65521)
theorem red_step (p:Int×Int) (c:UInt8):Red (adlStep p c):=by unfold Red adlStep;simp only;omega
theorem red_adl:∀ (l:List UInt8) (p:Int×Int),Red p→Red (adl p l)
 | [],_,h=>h
 | c :: l,p,_=>red_adl l _ (red_step p c)
theorem raw_adl:∀ (l:List UInt8) (p q:Int×Int),p.1%65521=q.1→p.2%65521=q.2→(raw p l).1%65521=(adl q l).1∧(raw p l).2%65521=(adl q l).2
 | [],_,_,h1,h2=>⟨h1,h2⟩
 | c :: l,p,q,h1,h2=>by
  rw[raw_cons,adl_cons]
  refine raw_adl l _ _ ?_ ?_
  ·simp only[rawStep,adlStep];omega
  ·simp only[rawStep,adlStep];omega
theorem raw_lo:∀ (l:List UInt8) (p:Int×Int) (B:Int),p.1≤B→0≤p.1→0≤p.2→0≤(raw p l).1∧0≤(raw p l).2∧(raw p l).1≤B+255*(l.length:Int)∧2*(raw p l).2≤2*p.2+2*B*(l.length:Int)+255*(l.length:Int)*((l.length:Int)+1)
 | [],p,B,h1,h2,h3=>by simp[raw];omega
 | c :: l,p,B,h1,h2,h3=>by
  have hc:(0:Int)≤(c.toNat:Int)∧(c.toNat:Int)≤255:=by have:=c.toNat_lt;omega
  rw[raw_cons]
  have:=raw_lo l (rawStep p c) (B+255) (by simp only[rawStep];omega) (by simp only[rawStep];omega) (by simp only[rawStep];omega)
  obtain ⟨a1,a2,a3,a4⟩:=this
  refine ⟨a1,a2,by simp only[List.length_cons];omega,?_⟩
  simp only[rawStep] at a4
  simp only[rawStep,List.length_cons]
  generalize hn:(l.length:Int)=n at *
  have e1:((l.length+1:Nat):Int)=n+1:=by omega
  rw[e1]
  have e2:2*(B+255)*n=2*B*n+510*n:=by rw[show 2*(B+255)=2*B+510 by omega,Int.add_mul]
  have e3:255*(n+1)*(n+1+1)=255*n*(n+1)+510*n+510:=by
   have:255*(n+1)=255*n+255:=by omega
   rw[this,Int.add_mul,Int.mul_add (255*n) (n+1) 1]
   omega
  have e4:2*B*(n+1)=2*B*n+2*B:=by rw[Int.mul_add];omega
  rw[e3,e4]
  rw[e2] at a4
  omega
theorem raw_in (p:Int×Int) (l:List UInt8) (hp:Red p) (hl:l.length≤5552):(0≤(raw p l).1∧(raw p l).1≤1481280)∧(0≤(raw p l).2∧(raw p l).2≤4294690200):=by
 obtain ⟨⟨h1,h2⟩,h3,h4⟩:=hp
 obtain ⟨a1,a2,a3,a4⟩:=raw_lo l p 65520 (by omega) h1 h3
 have hm':(l.length:Int)*((l.length:Int)+1)≤5552*5553:=Int.mul_le_mul (by omega) (by omega) (by omega) (by omega)
 rw[Int.mul_assoc 255] at a4
 omega
def more (n:Int) (l:List UInt8):Int:=(adl (n%65536%65521,n / 65536%65521) l).2*65536+(adl (n%65536%65521,n / 65536%65521) l).1
theorem red_of (n:Int):Red (n%65536%65521,n / 65536%65521):=by unfold Red;simp only;omega
theorem more_halves (n:Int) (l:List UInt8):more n l%65536=(adl (n%65536%65521,n / 65536%65521) l).1∧more n l / 65536=(adl (n%65536%65521,n / 65536%65521) l).2:=by
 have:=red_adl l _ (red_of n)
 unfold Red at this
 unfold more
 omega
theorem more_in (n:Int) (l:List UInt8):0≤more n l∧more n l<4294967296:=by
 have:=red_adl l _ (red_of n)
 unfold Red at this
 unfold more
 omega
def tail4 (n:Int):List UInt8:=[UInt8.ofNat (n / 16777216%256).toNat,UInt8.ofNat (n / 65536%256).toNat,UInt8.ofNat (n / 256%256).toNat,UInt8.ofNat (n%256).toNat]
end
section
def rr (l:List UInt8) (count:Nat) (out:List UInt8) (at':Nat):List UInt8×Nat×Int:=
 if _h:count≤out.length then (out,at',0) else
 match l.drop at' with
 | []=>([],0,3)
 | x :: r=>
  if 63<x.toNat∨out.getLast?=some x then ([],0,4)
  else if (rdNum r).2.2≠0 then ([],0,(rdNum r).2.2)
  else if h2:(rdNum r).1=0∨count-out.length<(rdNum r).1 then ([],0,4)
  else rr l count (out++List.replicate (rdNum r).1 x) (at'+1+(rdNum r).2.1)
termination_by count-out.length
decreasing_by simp only[List.length_append,List.length_replicate];omega
theorem rr_end (l:List UInt8) (count:Nat) (out:List UInt8) (at':Nat) (h:count≤out.length):rr l count out at'=(out,at',0):=by rw[rr,dif_pos h]
theorem rr_short (l:List UInt8) (count:Nat) (out:List UInt8) (at':Nat) (h:¬ count≤out.length) (h1:l.drop at'=[]):rr l count out at'=([],0,3):=by rw[rr,dif_neg h,h1]
theorem rr_form (l:List UInt8) (count:Nat) (out:List UInt8) (at':Nat) (h:¬ count≤out.length) (x:UInt8) (r:List UInt8) (h1:l.drop at'=x :: r) (h2:63<x.toNat∨out.getLast?=some x):rr l count out at'=([],0,4):=by
 rw[rr,dif_neg h,h1];simp only[];rw[if_pos h2]
theorem rr_err (l:List UInt8) (count:Nat) (out:List UInt8) (at':Nat) (h:¬ count≤out.length) (x:UInt8) (r:List UInt8) (h1:l.drop at'=x :: r) (h2:¬ (63<x.toNat∨out.getLast?=some x)) (h3:(rdNum r).2.2≠0):rr l count out at'=([],0,(rdNum r).2.2):=by
 rw[rr,dif_neg h,h1];simp only[];rw[if_neg h2,if_pos h3]
theorem rr_size (l:List UInt8) (count:Nat) (out:List UInt8) (at':Nat) (h:¬ count≤out.length) (x:UInt8) (r:List UInt8) (h1:l.drop at'=x :: r) (h2:¬ (63<x.toNat∨out.getLast?=some x)) (h3:(rdNum r).2.2=0) (h4:(rdNum r).1=0∨count-out.length<(rdNum r).1):rr l count out at'=([],0,4):=by
 rw[rr,dif_neg h,h1];simp only[];rw[if_neg h2,if_neg (by simpa using h3),dif_pos h4]
theorem rr_on (l:List UInt8) (count:Nat) (out:List UInt8) (at':Nat) (h:¬ count≤out.length) (x:UInt8) (r:List UInt8) (h1:l.drop at'=x :: r) (h2:¬ (63<x.toNat∨out.getLast?=some x)) (h3:(rdNum r).2.2=0) (h4:¬ ((rdNum r).1=0∨count-out.length<(rdNum r).1)) :
  rr l count out at'=rr l count (out++List.replicate (rdNum r).1 x) (at'+1+(rdNum r).2.1):=by
 rw[rr,dif_neg h,h1];simp only[];rw[if_neg h2,if_neg (by simpa using h3),dif_neg h4]
def rdRun (l:List UInt8):List UInt8×Nat×Int:=
 if (rdNum l).2.2≠0 then ([],0,(rdNum l).2.2) else if 64<(rdNum l).1 then ([],0,5) else rr l (rdNum l).1 [] (rdNum l).2.1
theorem same_drop (c:UInt8):∀ r:List UInt8,(r.drop (same c r)).head?≠some c
 | []=>by simp[same]
 | d :: r=>by
  by_cases hd:d=c
  ·have e:same c (d :: r)=same c r+1:=by rw[same,if_pos hd]
   rw[e,List.drop_succ_cons]
   exact same_drop c r
  ·have e:same c (d :: r)=0:=by rw[same,if_neg hd]
   rw[e]
   simpa using hd
theorem same_take (c:UInt8):∀ r:List UInt8,r.take (same c r)=List.replicate (same c r) c
 | []=>by simp[same]
 | d :: r=>by
  by_cases hd:d=c
  ·have e:same c (d :: r)=same c r+1:=by rw[same,if_pos hd]
   rw[e,List.take_succ_cons,List.replicate_succ,same_take c r,hd]
  ·have e:same c (d :: r)=0:=by rw[same,if_neg hd]
   rw[e];rfl
theorem last_rep (out:List UInt8) (k:Nat) (c:UInt8):(out++List.replicate (k+1) c).getLast?=some c:=by
 rw[List.replicate_succ',←List.append_assoc,List.getLast?_append]
 simp
theorem rr_runs:∀ (m:Nat) (L out t l:List UInt8) (at' count:Nat),L.length≤m→l.drop at'=runsBytes (runs L)++t→count=out.length+L.length→count≤64→(∀ x∈L,x.toNat≤63)→(out≠[]→L≠[]→out.getLast?≠L.head?)→
  rr l count out at'=(out++L,at'+(runsBytes (runs L)).length,0):=by
 intro m
 induction m with
 | zero=>
  intro L out t l at' count hm hd hc h64 hx hne
  obtain rfl:L=[]:=List.length_eq_zero_iff.1 (by omega)
  rw[rr_end _ _ _ _ (by simp at hc;omega)]
  simp[runs,runsBytes]
 | succ m ih=>
  intro L out t l at' count hm hd hc h64 hx hne
  cases L with
  | nil=>
   rw[rr_end _ _ _ _ (by simp at hc;omega)]
   simp[runs,runsBytes]
  | cons c r=>
   have hle:=same_le c r
   have e1:runs (c :: r)=(c,same c r+1) :: runs (r.drop (same c r)):=by rw[runs]
   have e2:runsBytes (runs (c :: r))=c :: (num (same c r+1)++runsBytes (runs (r.drop (same c r)))):=by rw[e1];simp[runsBytes]
   have e3:c :: r=List.replicate (same c r+1) c++r.drop (same c r):=by
    rw[List.replicate_succ,←same_take c r,List.cons_append,List.take_append_drop]
   simp only[List.length_cons] at hc hm
   rw[e2] at hd
   simp only[List.cons_append,List.append_assoc] at hd
   have hrd:=rd_behind (same c r+1) (by unfold two64;omega) (runsBytes (runs (r.drop (same c r)))++t)
   have hn:(rdNum (num (same c r+1)++(runsBytes (runs (r.drop (same c r)))++t))).1=same c r+1:=by rw[hrd]
   have hs:(rdNum (num (same c r+1)++(runsBytes (runs (r.drop (same c r)))++t))).2.1=(num (same c r+1)).length:=by rw[hrd]
   have he:(rdNum (num (same c r+1)++(runsBytes (runs (r.drop (same c r)))++t))).2.2=0:=by rw[hrd]
   rw[rr_on l count out at' (by omega) c _ hd ?h2 he (by rw[hn];omega),hn,hs]
   case h2=>
    rintro (h|h)
    ·have:=hx c (by simp);omega
    ·by_cases ho:out=[]
     ·rw[ho] at h;simp at h
     ·exact hne ho (by simp) (by rw[h];rfl)
   rw[ih (r.drop (same c r)) _ t l _ count (by simp;omega) ?hd (by simp;omega) h64 (fun x hxm=>hx x (List.mem_cons_of_mem _ (List.mem_of_mem_drop hxm))) ?hne]
   case hd=>
    rw[←List.drop_drop,←List.drop_drop,hd]
    simp
   case hne=>
    intro _ _
    rw[last_rep]
    exact (same_drop c r).symm
   refine Prod.ext ?_ (Prod.ext ?_ rfl)
   ·simp only[List.append_assoc]
    rw[←e3]
   ·simp only[e2,List.length_cons,List.length_append]
    omega
theorem rd_run (L t:List UInt8) (hf:fits L=true):rdRun (runBytes L++t)=(L,(runBytes L).length,0):=by
 unfold fits at hf
 simp only[Bool.and_eq_true,List.all_eq_true,decide_eq_true_eq] at hf
 have hrd:=rd_behind L.length (by unfold two64;omega) (runsBytes (runs L)++t)
 have e:runBytes L++t=num L.length++(runsBytes (runs L)++t):=by simp[runBytes]
 unfold rdRun
 rw[e,hrd]
 simp only[]
 rw[if_neg (by simp),if_neg (by omega),rr_runs L.length L [] t _ _ _ (Nat.le_refl _) (by simp) (by simp) hf.2 hf.1 (fun h=>absurd rfl h)]
 simp[runBytes]
end
section
def sumb (l:List UInt8):Int:=(l.map fun c=>(c.toNat:Int)).sum
theorem adl_lo:∀ (l:List UInt8) (p:Int×Int),((adl p l).1-(p.1+sumb l))%65521=0
 | [],p=>by simp[adl,sumb]
 | c :: l,p=>by
  have:=adl_lo l (adlStep p c)
  rw[adl_cons]
  simp only[sumb,List.map_cons,List.sum_cons] at *
  simp only[adlStep] at *
  omega
theorem sumb_set:∀ (l:List UInt8) (k:Nat) (c:UInt8) (h:k<l.length),sumb (l.set k c)=sumb l-(l[k].toNat:Int)+(c.toNat:Int)
 | c0 :: l,0,c,h=>by simp[sumb];omega
 | c0 :: l,k+1,c,h=>by
  have:=sumb_set l k c (by simpa using h)
  simp only[sumb,List.set_cons_succ,List.map_cons,List.sum_cons,List.getElem_cons_succ] at *
  omega
theorem tail4_inj (a b:Int) (ha:0≤a∧a<4294967296) (hb:0≤b∧b<4294967296) (h:tail4 a=tail4 b):a=b:=by
 unfold tail4 at h
 have key:∀ x y:Nat,x<256→y<256→UInt8.ofNat x=UInt8.ofNat y→x=y:=by
  intro x y hx hy e
  have:=congrArg UInt8.toNat e
  simpa[Nat.mod_eq_of_lt hx,Nat.mod_eq_of_lt hy] using this
 simp only[List.cons.injEq,and_true] at h
 obtain ⟨h1,h2,h3,h4⟩:=h
 have k1:=key _ _ (by omega) (by omega) h1
 have k2:=key _ _ (by omega) (by omega) h2
 have k3:=key _ _ (by omega) (by omega) h3
 have k4:=key _ _ (by omega) (by omega) h4
 omega
theorem tail4_len (n:Int):(tail4 n).length=4:=rfl
theorem turned (l:List UInt8) (k:Nat) (c:UInt8) (hk:k<(l++tail4 (more 1 l)).length) (hc:c≠(l++tail4 (more 1 l))[k]) (u v:List UInt8) (huv:u++v=(l++tail4 (more 1 l)).set k c) (hv:v.length=4):tail4 (more 1 u)≠v:=by
 intro h
 have hlen:u.length=l.length:=by
  have:=congrArg List.length huv
  simp[tail4_len] at this
  omega
 by_cases hkl:k<l.length
 ·rw[List.set_append_left _ _ hkl] at huv
  obtain ⟨e1,e2⟩:=List.append_inj huv (by simpa using hlen)
  rw[e2] at h
  have e3:=tail4_inj _ _ (more_in _ _) (more_in _ _) h
  have e4:=(more_halves 1 u).1
  have e5:=(more_halves 1 l).1
  have r1:=red_adl u _ (red_of 1)
  have r2:=red_adl l _ (red_of 1)
  have a1:=adl_lo u (1%65536%65521,1 / 65536%65521)
  have a2:=adl_lo l (1%65536%65521,1 / 65536%65521)
  rw[e1,sumb_set l k c hkl] at a1
  rw[List.getElem_append_left hkl] at hc
  rw[e1] at e4 r1 e3
  have hne:(c.toNat:Int)≠(l[k].toNat:Int):=fun e=>hc (UInt8.toNat_inj.1 (by omega))
  have b1:=c.toNat_lt
  have b2:=l[k].toNat_lt
  unfold Red at r1 r2
  omega
 ·rw[List.set_append_right _ _ (by omega)] at huv
  obtain ⟨e1,e2⟩:=List.append_inj huv hlen
  subst e1
  rw[e2] at h
  have hk':k-u.length<(tail4 (more 1 u)).length:=by simp[tail4_len] at hk ⊢;omega
  have:=congrArg (fun x=>x[k-u.length]?) h
  simp[hk'] at this
  rw[List.getElem_append_right (by omega)] at hc
  exact hc this.symm
end
end Go.Proofs.YtalagblioepadaaGreatDoor
