/- The proof, part 20. -/
import Derived.Test.YtalagblioepadaaGreatDoorZe15
import Derived.Test.YtalagblioepadaaGreatDoorZe04
import Derived.Test.YtalagblioepadaaGreatDoorZe14
import Derived.Test.YtalagblioepadaaGreatDoorZe11
namespace Go.Proofs.YtalagblioepadaaGreatDoor
set_option linter.all false
open Proofs.Tryz List Go.RowKit
set_option maxRecDepth 100000
set_option maxHeartbeats 1600000
variable{ww:Prop}
def xp(h:ww:=by simp only;omega):=h
def xo(h:ww:=by rw[dX];omega):=h
variable{f j k n:J}{T:J->ae}
section
variable{w w':aj}{D first next:J}{last:U}{K de:ai (J×U)}
def pq(n:J)(L:ai (J×U)):ai (J×U):=L.filter λp=>!decide (p.1<n)
def ZR(h:e1 w D first next last K de)(j:first<=next)(f:U)(a:f<first):aB 149 #[bM (D+4),aa f] w λe w'=>D5 e/\e1 w' D first next last K de/\ag (λb=>lE D b) w w':=by
 have bP:=h.bP;have bB:=h.bB;have d:min f (next:U)=f:=I;have H:=ad h
 go_in
 go_wp2_with fail;refine aS ((MJ h.used f (.inl a))) ?_;rintro aq ⟨i,hk⟩;have d0:=(H.o.keep hk).bw;go_wp2_with fail;refine aS (MJ (H.o.keep hk).known f (.inl a)) ?_;rintro aF ⟨g,c⟩;go_wp2_with fail;go_ret;exact⟨⟨_,rfl⟩,(H.o.keep hk).keep c,mr (hk.trans c)⟩
def ZQ(h:e1 w D first next last K de)(n:J)(f:U)(aw:first<=n/\n<=1073741824)(a:(f=n/\n<=next)\/(n=next/\(next:U)<f)):aB 149 #[bM (D+4),aa f] w λe w'=>D5 e/\e1 w' D n next last (pq n K) (pq n de)/\ag (λb=>lE D b) w w':=by
 have bP:=h.bP;have bB:=h.bB;have c:=ad aw;rcases a with⟨a,h1⟩|⟨a,h1⟩
 focus
  have q:f<=(next:U):=I;have k:min f (next:U)=f:=I;have h2:¬ (next:U)<f:=I;have i:=ad a;have H:=ad h;clear h a aw h1
  go_in
  go_wp2_with fail;refine aS (Bf H.o.used n f i.o c.o) ?_;rintro aq ⟨j,hk⟩;have d0:=hk.cell (p:=ah (D+4) 0) H.o.bw aM;have d:=H.o.known.keeps hk I I;go_wp2_with fail;refine aS (Bf d n _ i.o c.o) ?_
 rotate_left
 focus
  have k:min f (next:U)=next:=I
  have H:=ad h
  go_in
  go_wp2_with fail;refine aS ((Bf h.used n (next:U) I aw)) ?_;rintro aq ⟨j,hk⟩;have d0:=hk.cell (p:=ah (D+4) 0) H.o.bw aM;have d:=H.o.known.keeps hk I I;go_wp2_with fail;refine aS (Bf d n _ ((show(next:U)=(n:U)by omega)) c.o) ?_
 rotate_left
 all_goals
  rintro aF ⟨l,g⟩;have hfin:e1 aF D n next last (pq n K) (pq n de):=⟨g.heap (hk.heap H.o.head I) I,l,j.keeps g I I⟩
  have m:ag (λb=>lE D b) w aF:=(hk.mono (λb _ e=>C1)).trans (g.mono (λb _ e=>C1));go_wp2_with fail;go_ret;exact⟨⟨_,rfl⟩,hfin,m⟩
def kl(K:ai (J×U)):ai (J×U)->cr J
 | []=>none
 | (g,y) :: r=>match eu K g with
  | some x=>if x=y then kl K r else some g
  | none=>kl K r
def AO(h:e1 w D first next last K de):aB 152 #[bM (D+4)] w λe w'=>e=aV #[aa (((kl K de).getD 0:J):U),.bool (kl K de).isSome]/\ag aH w w':=by
 have bP:=h.bP;have B:∀ j (c:j<de.length),eu de de[j].1=some de[j].2:=λj c=>by
  obtain⟨S,_,aA⟩:=h.used;exact Ft aA.eV (oY c)
 have F:∀ j (c:j<de.length),de[j].1<=1073741824:=λj c=>h.used.acZ _ (oY c);obtain⟨dC,t⟩:∃ dC,kl K de=dC:=⟨_,rfl⟩;rw[t];have z:=ad t;have T:=h.used.le.1
 go_in
 go_wp2_with fail;refine(MH h.used).mono ?_;rintro e aq ⟨v,rfl,ar,al⟩;obtain⟨A,cap,rfl,a_,_⟩:=dA ar;have r:ag aH w aq:=ag.bU al a1;have L:(de.map (·.1)).length=de.length:=aM;rw[L]at a_⊢;go_wp2_with fail;go_loopg [18] 64 (λg i wr=>∃ j:J,g=64-j/\j<=de.length/\i=aa j/\Hid (kl K (de.drop j)=dC)/\ag aH aq wr)
 case atStart=>exact⟨0,rfl,c3 _,rfl,z,ag.refl _ _⟩
 obtain⟨j,a7,c,rfl,P,d⟩:=hrel;have a:=P.out;by_cases l:j<de.length
 .obtain⟨b,o,rfl,an⟩:=a_.at' I;have Q:aq.cell? (ah b (o+j))=aa (de[j].1:J):=an _ _ (by simp[mq,ji,l]);have V:=d.cell Q id;have H:=B j l;have aw:=F j l;rw[qO l]at a;have n:=h.keep (r.trans d);have R:=n.bP;generalize de[j]=p at *;obtain⟨f,y⟩:=p;have N:=MI n.used (f:U) I;rw[yy,H]at N;refine DD;have E:=ad N;have C:∀ q,aB 227 #[bM (D+4),aa (f:U)] (wr.drewN q) λe w'=>e=aV #[bf ((eu K f).getD 0),.bool (eu K f).isSome]/\∃ k,w'=(wr.drewN q).drewN k:=λq=>by
   have:=LB (n.drew q) (f:U) I
   rwa [yy]at this
  refine dU;simp only[kl]at a;cases s:eu K f with
  | none=>
   rw[s]at a m';simp only[tm,r6]at a m';have u:=ad a;refine IQ;refine aK;refine aS (m'.o q) ?_;rintro br ⟨k,rfl⟩;refine aK;exact TH
  | some x=>
   rw[s]at a m';simp only[jH,vd]at a m';by_cases m:x=y
   focus
    rw[aD m]at a;have u:=ad a;have M:(x != y)=false:=by simp[m]
   rotate_left
   focus
    rw[az m]at a;subst a;have M:(x != y)=true:=by simp[m]
    have G:=r.trans d
   rotate_left
   all_goals
    go_wp2_with fail;refine aS E.o ?_;rintro aF ⟨q,rfl⟩;go_wp2_with fail;refine aS (m'.o q) ?_;rintro br ⟨k,rfl⟩;go_wp2_with fail
   .exact TH
   go_ret2;exact⟨rfl,G.drewN (q+k)⟩
 rw[HC I]at a;simp only[kl]at a;subst a;refine aK;go_ret2;exact⟨rfl,(r.trans d)⟩
end
section
def iL(v:J->U)(b:aY):a6 ay:=(aQ v).push (.bool b)
def wZ(v:J->U)(b:aY):(iL v b).size=61:=by simp[iL,dX]
def aho(v:J->U)(b:aY)(j:J)(a:j<60):(iL v b)[j]?=(aQ v)[j]?:=by
 rw[iL,qM,az xo]
def ahp(v:J->U)(b:aY):(iL v b)[60]?=some (.bool b):=by
 rw[iL,qM,aD (by rw[dX])]
def hK(S:ai ((J->U)×aY)):ai ay:=S.flatMap λp=>(iL p.1 p.2).toList
def yU(S:ai ((J->U)×aY)):(hK S).length=S.length*61:=by
 induction S with
 | nil=>rfl
 | cons c S a=>
  simp only[hK,jY,cG,eA]at a⊢;rw[a,r9,wZ];omega
def yT(S:ai ((J->U)×aY))(i:J)(h:i<S.length)(j:J)(d:j<61):(hK S)[i*61+j]?=(iL S[i].1 S[i].2)[j]?:=by
 induction S generalizing i with
 | nil=>exact absurd h (lD _)
 | cons c S a=>
  simp only[hK,jY]at a⊢;have b:(iL c.1 c.2).toList.length=61:=by rw[r9,wZ]
  cases i with
  | zero=>
   rw[zu,gM,jF I];simp
  | succ i=>
   rw[l6 (by rw[b,k5];omega),b,show(i+1)*61+j-61=i*61+j by rw[k5];omega];exact DS
def agn(S:ai ((J->U)×aY))(i:J)(h:i<S.length):(hK S)[i*61+60]?=some (.bool S[i].2):=by
 rw[yT S i h 60 I,ahp]
def ago(S:ai ((J->U)×aY))(i:J)(h:i<S.length)(x:(J->U))(b:aY):fz (hK S).toArray (i*61) (iL x b)=(hK (S.set i (x,b))).toArray:=by
 have aA:(hK S).toArray.size=S.length*61:=by rw[iw,yU]
 have av:i*61+61<=S.length*61:=by have:=vb 61 h;rw[k5]at this;omega
 apply y_;intro m;rw[s5 _ _ _ (by rw[wZ,aA];exact av),wZ];have e:=r5 m 61;have hm:=gb m (show 0<61 by omega);have em:m / 61*61+m%61=m:=I;by_cases c:m / 61<S.length
 .have g1:=yT S (m / 61) c (m%61) hm;have a:=yT (S.set i (x,b)) (m / 61) C7 (m%61) hm;rw[em]at g1 a;rw[show(hK S).toArray[m]?=(hK S)[m]? from by simp,show(hK (S.set i (x,b))).toArray[m]?=(hK (S.set i (x,b)))[m]? from by simp,g1,a];by_cases an:m / 61=i
  .rw[aD I];subst an;rw[Cz]
   congr 1
   omega
  rw[az I,zn I]
 rw[az I,show(hK S).toArray[m]?=(hK S)[m]? from by simp,show(hK (S.set i (x,b))).toArray[m]?=(hK (S.set i (x,b)))[m]? from by simp,uX (by rw[yU];omega),uX (by rw[yU,r3];omega)]
structure fL(w:aj)(r B size first:J)(S:ai ((J->U)×aY)):ae where
 head:w.heap[r]?=some (ab #[aa first,au (some (eo B 0 db)) size size] 233 (0,0))
 body:w.heap[B]?=some (ab (hK S).toArray 237 (0,0))
 ha:S.length=size
 pos:0<size
 most:size<=4096
 fst:first<=1073741824
 ne:r≠B
namespace fL
variable{w w':aj}{r B size first:J}{S:ai ((J->U)×aY)}
theorem keeps(h:fL w r B size first S)(hk:ag T w w')(h1:¬ T r)(h2:¬ T B):fL w' r B size first S:=
 ⟨hk.heap h.head h1,hk.heap h.body h2,h.ha,h.pos,h.most,h.fst,h.ne⟩
def drew(h:fL w r B size first S)(n:J):fL (w.drewN n) r B size first S:=⟨h.head,h.body,h.ha,h.pos,h.most,h.fst,h.ne⟩
def bw(h:fL w r B size first S):w.cell? (ah r 0)=some (aa first):=bb h.head rfl
def bP(h:fL w r B size first S):w.cell? (ah r 1)=some (au (bT B) size size):=bb h.head rfl
end fL
section
variable{w w':aj}{r B size first:J}{S:ai ((J->U)×aY)}
def OK(h:fL w r B size first S)(f:U)(a:¬ gB first size f)(d:-9223372036854775808<=f/\f<=9223372036854775807):aB 126 #[r,aa f] w λe w'=>e=.returned (.pointer none)/\∃ q,w'=w.drewN q:=by
 have bw:=h.bw;have bP:=h.bP;have bS:=h.fst;have c:=h.most;unfold gB at a;by_cases h1:f<first
 .clear a;exact zP
 exact Tm
def BQ(h:fL w r B size first S)(n k:J)(f:U)(a:f=n)(b:gB first size f)(hk:n%size=k):aB 126 #[r,aa f] w λe w'=>e=.returned (.pointer (dk B (k*61)))/\∃ q,w'=w.drewN q:=by
 have bw:=h.bw;have bP:=h.bP;have bS:=h.fst;have c:=h.most;have⟨h1,h2,g⟩:=b;have i:f-first<size:=I
 have l:IntKind.i64.wrap (f-first)=f-first:=e0 _ I
 have j:k<size:=hk▸gb _ h.pos;have aW:f.tmod (size:U)=(k:U):=by
  rw[a,oW I,<-hk];simp
 have m:((size:U) == 0)=false:=by have:=h.pos;rw[ep];omega
 have d:0<=f:=I;clear hk a
 go_in
 go_wp2;go_quiet (fail);go_wp2;go_quiet (fail);go_wp2;go_ret;exact⟨rfl,_,by rw[Hm]⟩
end
end
section
variable{w w':aj}{r B size first:J}{S:ai ((J->U)×aY)}
def oD(v:J->U):∀ u∈(aQ v).toList,u.oneCell'=true:=by
 intro u a;simp only[aQ,gO]at a;obtain⟨j,_,rfl⟩:=a;rfl
def ahq(v:J->U)(b:aY):∀ u∈(iL v b).toList,u.oneCell'=true:=by
 intro u a;simp only[iL,Array.toList_push,gd,kD]at a;rcases a with a|rfl
 .exact oD v u a
 rfl
def fL.has(h:fL w r B size first S){x:J->U}{b:aY}(hk:S[k]?=some (x,b)):w.cell? (ah B (k*61+60))=some (.bool b):=by
 have⟨a,D⟩:=ir.1 hk;have N:=agn S k a;refine ed;exact bb h.body (by simpa using N)
def fL.load(h:fL w r B size first S){x:J->U}{b:aY}(hk:S[k]?=some (x,b)):(Instr.loadAt 99 (.pointer (dk B (k*61)))).run prog w=.ok (.agg (aQ x)) w:=by
 have⟨d,ak⟩:=ir.1 hk;refine fS (P:=prog) 99 60 B (k*61) (aQ x) _ _ isAgg99 sizeOf99 (dX x) h.body (λj v a=>?_);have c:j<60:=by
  refine DM;rw[dX]at this;exact this
 have h1:=yT S k d j I;rw[ak,aho x b j c,a]at h1;simpa using h1
theorem fL.yZ(h:fL w r B size first S)(k:J)(hk:k<S.length)(x:J->U)(b:aY):fL (w.setRow B (fz (hK S).toArray (k*61) (iL x b))) r B size first (S.set k (x,b)):=
 ⟨(jw w B _).heap h.head h.ne,by rw[ago S k hk];exact fb w B _ _ _ h.body,by simpa using h.ha,h.pos,h.most,h.fst,h.ne⟩
def fL.store(h:fL w r B size first S)(k:J)(hk:k<S.length)(x:J->U)(b:aY):(Instr.storeAt 237 (.pointer (dk B (k*61))) (.agg (iL x b))).run prog w=.ok () (w.setRow B (fz (hK S).toArray (k*61) (iL x b))):=by
 have aA:(hK S).toArray.size=S.length*61:=by rw[iw,yU]
 exact rK (P:=prog) 237 61 B (k*61) (iL x b) _ _ sizeOf237 (wZ x b) h.body I (ahq x b)
def bW:J->U:=λ_=>0
def kh(w:aj):(Instr.alloc 99 true (aV #[])).run prog w=.ok w (w.alloc (ab (aQ bW) 99)):=bc
theorem ks{w:aj}{b:J}{v:J->U}{t:TypeId}(c:w.heap[b]?=some (ab (aQ v) t (0,0))):(Instr.loadAt 99 b).run prog w=.ok (.agg (aQ v)) w:=
 fS (P:=prog) 99 60 b 0 (aQ v) _ _ isAgg99 sizeOf99 (dX v) c (λj u a=>km)
def rr(v:J->U):(aQ v).toList.all (λu=>u.oneCell')=true:=fJ.2 (oD v)
structure Ae(w w':aj):ae where
 res:w'.heap[w.heap.size]?=some (ab (aQ bW) 99 (0,0))
 none:w'.heap[w.heap.size+1]?=some (ab (aQ bW) 99 (0,0))
 keep:ag aH w w'
def KF(w:aj):Ae w ((w.alloc (ab (aQ bW) 99)).alloc (ab (aQ bW) 99)):=by
 refine⟨b2 (aP w _) _,?_,((ag.refl _ w).alloc _).alloc _⟩
 have:=aP (w.alloc (ab (aQ bW) 99)) (ab (aQ bW) 99)
 rwa [ft]at this
def Ae.keeps{w aq aF:aj}(h:Ae w aq)(hk:ag aH aq aF):Ae w aF:=⟨hk.heap h.res id,hk.heap h.none id,h.keep.trans hk⟩
def agr(h:fL w r B size first S)(f:U)(g:¬ gB first size f)(k:-9223372036854775808<=f/\f<=9223372036854775807):aB 271 #[r,aa f] w λe w'=>e=aV #[.agg (aQ bW),false]/\ag aH w w':=by
 have d:=kh w;have b:=kh (w.alloc (ab (aQ bW) 99));have m:(w.alloc (ab (aQ bW) 99)).heap.size=w.heap.size+1:=ft _ _;have al:=KF w;rw[m]at b;generalize (w.alloc (ab (aQ bW) 99)).alloc (ab (aQ bW) 99)=aq at *;generalize w.alloc (ab (aQ bW) 99)=bo at *
 go_in
 go_wp2_with first|refine eL d rfl rfl ?_|refine eL b rfl rfl ?_
 refine aS ((OK (h.keeps al.keep id id) f g k)) ?_;rintro aF ⟨q,c⟩;have a:=al.keeps (show ag aH aq aF by rw[c];exact(ag.refl _ _).drewN q);obtain⟨l,j,i⟩:=dT aF 99 60 w (aQ bW) (aQ bW) sizeOf99 (dX _) (dX _) a.res (rr _);generalize aF.setRow w (aQ bW)=br at *;clear c;go_wp2_with first|refine dg (ks a.none) rfl rfl rfl ?_|refine c' l rfl rfl rfl rfl ?_
 refine dj (v:=aV #[.agg (aQ bW),false]) j ?_;exact⟨rfl,c1 a.keep i a1⟩
def OJ(h:fL w r B size first S)(n k:J)(f:U)(m:f=n)(j:gB first size f)(hk:n%size=k)(x:J->U)(b:aY)(ax:S[k]?=some (x,b)):aB 271 #[r,aa f] w λe w'=>e=aV #[.agg (aQ (if b then x else bW)),.bool b]/\ag aH w w':=by
 have A:=kh w;have u:=kh (w.alloc (ab (aQ bW) 99));have p:(w.alloc (ab (aQ bW) 99)).heap.size=w.heap.size+1:=ft _ _;have al:=KF w;rw[p]at u;generalize (w.alloc (ab (aQ bW) 99)).alloc (ab (aQ bW) 99)=aq at *;have h1:=h.keeps al.keep id id;have z:=ad (BQ h1 n k f m j hk);generalize w.alloc (ab (aQ bW) 99)=bo at *;have y:=ad al;have t:=ad h1;clear j m hk al p h h1;cases b with
 | false=>
  refine WS;have l:=ks a.none;obtain⟨g,i,d⟩:=dT aF 99 60 w (aQ bW) (aQ bW) sizeOf99 (dX _) (dX _) a.res (rr _);generalize aF.setRow w (aQ bW)=br at *;refine UC;refine dj (v:=aV #[.agg (aQ bW),false]) i ?_;exact⟨rfl,c1 a.keep d a1⟩
 | true=>
  refine WS;have l:=(t.o.keeps c id id).load ax;obtain⟨g,i,d⟩:=dT aF 99 60 w (aQ x) (aQ bW) sizeOf99 (dX _) (dX _) a.res (rr _);generalize aF.setRow w (aQ x)=br at *;refine UC;refine dj (v:=aV #[.agg (aQ x),true]) i ?_;exact⟨rfl,c1 a.keep d a1⟩
def ahg(z:a6 ay)(c:a6 ay)(b:z.size=61)(an:c.size=60):fz (fz z 0 c) 60 #[true]=c.push (.bool true):=by
 have h1:(fz z 0 c).size=61:=by rw[y1 _ _ _ I,b]
 refine vt;rw[s5 _ _ _ (by simp[h1]),s5 _ _ _ I,qM];simp only[iw,eA,gN,gM,an];by_cases h2:k<60
 .rw[az I,aD I,az I];simp
 by_cases a:k=60
 .subst a;simp
 rw[az I,az I,az a,l4 I,l4 I]
def afT(c:a6 ay)(an:c.size=60)(w:aj):(Instr.build 237 #[(0,.agg c),(1,.bool true)]).run prog w=.ok (.agg (c.push (.bool true))) w:=by
 have u:=tb underlying237;have s2:=sizeOf4;unfold Instr.build;simp only[iO,(zeroValue237 w),iu,u];rw[show ∀ (g:a6 Field),g=#[{name:="x",type:=99,offset:=0,embedded:=false,tag:="",pkgPath:="promptbook/ring",byteOffset:=0},{name:="has",type:=4,offset:=60,embedded:=false,tag:="",pkgPath:="promptbook/ring",byteOffset:=352}]->Sem.run prog (Array.mapM (λf:Field=>do let k <-Go.sizeOf f.type;pure (f.offset,k)) g) w=.ok #[(0,60),(60,1)] w from λg a7=>by subst a7;simp[sizeOf99,s2]];rotate_left
 .rfl
 simp only[iu];generalize b:(Value.agg _).cells=gP;have a:gP.size=61:=by rw[<-b];rfl
 rw[LF _ _ 0 0 (.agg c) _ (by simp[Value.cells,an]) (by simp[Value.cells,an,a]),LF _ _ 1 60 (.bool true) _ (by simp[Value.cells]) (by rw[y1 _ _ _ (by simp[Value.cells,an,a]),a];simp[Value.cells])];simp only[Instr.fill,jm];rw[show fz (fz gP 0 (Value.agg c).cells) 60 (Value.bool true).cells=c.push (.bool true)from ahg gP c a an]
def agt(h:fL w r B size first S)(n k:J)(f:U)(j:f=n)(g:gB first size f)(hk:n%size=k)(y:J->U):aB 192 #[r,aa f,.agg (aQ y)] w λe w'=>e=aa 0/\fL w' r B size first (S.set k (y,true))/\ag (λb=>b=B) w w':=by
 have i:ag aH w (w.alloc (ab (aQ y) 99)):=(ag.refl _ w).alloc _;have d:=h.keeps i id id;have x:=ad (BQ d n k f j g hk);have m:k<S.length:=by rw[h.ha,<-hk];exact gb _ h.pos
 have h1:=g.1;have s:=ad d;have t:=ad (aP w (ab (aQ y) 99));have u:=ad i;clear h d i j g hk
 go_in
 go_wp2_with fail;refine aS x.o ?_;rintro aq ⟨q,p⟩;have c:ag aH (w.alloc (ab (aQ y) 99)) aq:=by rw[p];exact(ag.refl _ _).drewN q
 have a:=s.o.keeps c id id;have l:=u.o.trans c;have bw:=a.bw;have z:=ks (c.heap t.o id);have A:=a.store k m y true;have hfin:=(mr l (S:=λb=>b=B)).trans (jw aq B (fz (hK S).toArray (k*61) (iL y true)));have hE:=a.yZ k m y true;generalize aq.setRow B (fz (hK S).toArray (k*61) ((aQ y).push (.bool true)))=aF at *;have v:=ad hE;clear p c l hE a;go_wp2_with (first|(refine dg z rfl rfl rfl ?_)|(refine uO (afT (aQ y) (dX y) aq) rfl rfl rfl rfl ?_)|(refine c' A rfl rfl rfl rfl ?_));go_ret;exact⟨rfl,v.o,hfin⟩
end
def abC:(prog.info? 237).map (λi=>(i.zero,i.size,i.bytes))=some (some (.agg (iL bW false)),61,360):=bc
def agp(n:J):madeCells (Value.agg (iL bW false)).cells (n*61)=(hK (replicate n (bW,false))).toArray:=by
 apply y_;intro m;by_cases hm:m<n*61
 .have a:m / 61<(replicate n (bW,false)).length:=b_;have h1:=yT (replicate n (bW,false)) (m / 61) a (m%61) (gb m (show 0<61 by omega));simp only[getElem_replicate]at h1;rw[show m / 61*61+m%61=m by omega]at h1;rw[show(hK (replicate n (bW,false))).toArray[m]?=(hK (replicate n (bW,false)))[m]? from by simp,h1];simp only[Value.cells];have aA:=wZ bW false;unfold madeCells;simp[hm,aA];rw[(uQ (xs:=iL bW false) (i:=m%61) I),l9 (iL bW false) (m%61) I]
 rw[l4 (by simp[madeCells];omega),l4 (by rw[iw,yU];simp;omega)]
def ags(size:J)(h1:1<=size)(h2:size<=4096)(w:aj):aB 190 #[aa size,aa 0] w λe w'=>e=aV #[bM (w+1),aa 0]/\fL w' (w.heap.size+1) w size 0 (replicate size (bW,false))/\Below w w w'/\w'.heap.size=w.heap.size+2:=by
 have⟨h,av,f,g,d⟩:=pY abC;have hd:decide (1<=(size:U)/\(size:U)<=4096)=true:=b_;have b:=run_make (P:=prog) w 231 237 h (.agg (iL bW false)) underlying231 av f .i64 .i64 size size I (kA _) xt I;rw[g,rY,agp]at b;have⟨Z,a⟩:=c8 (replicate size (bW,false));have c:=ad a;rw[<-a]at b;rw[<-a];clear a
 go_in
 go_wp2_with fail;refine bJ (BJ size w) ?_;rw[hd];go_wp2;go_ret2;refine⟨rfl,⟨?_,?_,by rw[c.o];simp,h1,h2,I,I⟩,((b9 _ w).alloc bu _).alloc aM _,aM⟩
 .have:=aP (w.alloc (ab (hK Z).toArray 237)) (ab #[aa 0,au (bT w) size size] 233)
  exact mO
 have:=b2 (aP w (ab (hK Z).toArray 237)) (ab #[aa 0,au (bT w) size size] 233)
 exact mO
section
attribute [local go_sem] Oper.semAt_some
def rL(S:ai ((J->U)×aY))(size f:J):aY:=decide (f<=1073741824)&&((S[f%size]?).map (·.2)).getD false
def kT(S:ai ((J->U)×aY))(size first:J)(fr:U)(k:J):ai J:=((range k).map (first+·)).filter λf=>decide (fr<=(f:U))&&rL S size f
def Gd(S:ai ((J->U)×aY))(size first:J)(fr:U)(k:J):kT S size first fr (k+1)=kT S size first fr k++if (decide (fr<=((first+k:J):U))&&rL S size (first+k))=true then [first+k]else []:=by
 unfold kT;exact TK
def agh(S:ai ((J->U)×aY))(size first:J)(fr:U)(k:J)(hk:k<size)(h:(decide (fr<=((first+k:J):U))&&rL S size (first+k))=true):∃ rest,kT S size first fr size=kT S size first fr k++(first+k) :: rest:=by
 have:∀ d,∃ rest,kT S size first fr (k+1+d)=kT S size first fr k++(first+k) :: rest:=by
  intro d
  induction d with
  | zero=>exact⟨[],by rw[tj,Gd,if_pos h]⟩
  | succ d b=>
   have⟨r,a⟩:=b;exact⟨r++_,by rw[<-jZ,Gd,a,eh,l5]⟩
 have⟨r,a⟩:=this (size-(k+1));exact⟨r,by rw[<-a];congr 1;omega⟩
section
variable{w w':aj}{r B size first:J}{S:ai ((J->U)×aY)}
def agx(r:J)(f:U)(w:aj):aB 79 #[r,aa f] w λe w'=>e=.returned (.func (.func 125) #[] #[w.heap.size,bM (w+1)])/\(w.alloc (ab #[r] 127)).alloc (ab #[aa f] 3)=w':=by
 exact er
def agi(h:fL w r B size first S)(n:J):rL S size n=(decide (n<=1073741824)&&(S[n%size]'(CS)).2):=by
 unfold rL;exact Vs
def age(h:fL w r B size first S)(a c:J)(fr:U)(an:w.cell? (ah a 0)=some (bM r))(X:w.cell? (ah c 0)=some (aa fr))(o:J->ae)(g:¬ o a/\¬ o c/\¬ o r/\¬ o B)(l':a<w.heap.size/\c<w.heap.size):q1 prog 125 #[a,c] (λf:J=>#[aa f]) (kT S size first fr size) o (λ_=>False) w:=by
 intro l Q W Z hk m' A T R;subst Z;have lp:=bZ h.head;have ps:=bZ h.body;have bS:=h.fst;have h2:=h.most;refine h0.2 ?_;have V:=hk.cell an id;have p:=h.keeps hk id id;have lb:=p.bP
 go_in
 go_wp2_with fail
 go_loopw [14] (λv wr=>∃ k:J,k<=size/\v=aa k/\wr.cell? (ah a 0)=some (bM r)/\wr.cell? (ah c 0)=some (aa fr)/\fL wr r B size first S/\Q (kT S size first fr k) wr/\w.heap.size+2<=wr.heap.size)
  (λv _=>size-(intOf v).toNat)
 case atStart=>exact⟨0,c3 _,rfl,V,hk.cell X id,p,by simpa[kT]using R,I⟩
 obtain⟨k,mv,rfl,u,y,b,s,z⟩:=hrel;by_cases a':k<size
 .have bw:=b.bw;have j:=Gd S size first fr k
  have e:=agi b (first+k);have n:(first:U)+(k:U)=((first+k:J):U):=I;by_cases P:1073741824<first+k
  .have E:=ad (OK b ((first:U)+k) vf I);have aT:rL S size (first+k)=false:=by rw[e];simp;omega
   refine U0;by_cases Y:fr<=(first:U)+k
   .refine IQ;exact DZ
   refine aK;refine aS E.out ?_;rintro aF ⟨q,rfl⟩;exact DZ
  refine S6;have C:=ad (BQ b (first+k) d ((first:U)+k) n vf m);have ax:=gW L;have s1:=b.has ax;have aT:rL S size (first+k)=S[d].2:=by rw[e];simp only[m];rw[show decide (first+k<=1073741824)=true from dh I,r_]
  have H:=agh S size first fr k a'
  refine S7;by_cases Y:fr<=(first:U)+k
  .cases M with
   | false=>
    refine tD;rintro aF ⟨q,rfl⟩;exact WZ
   | true=>
    refine tD;rintro aF ⟨q,rfl⟩;refine Uk;obtain⟨fn,tmps,assign,body,a8,t⟩:=T (kT S size first fr k) (first+k) rest (wr.drewN q) G N;exact Ss
  refine tD;rintro aF ⟨q,rfl⟩;exact WR
 exact Va
end
end
def agf(S:ai ((J->U)×aY))(size first:J)(fr:U)(k:J):(kT S size first fr k).length<=k:=by
 exact Je
section
variable{w w':aj}{r B size first:J}{S:ai ((J->U)×aY)}
def agu(h:fL w r B size first S)(fr:U):aB 78 #[.func (.func 125) #[] #[w.heap.size,bM (w+1)]] ((w.alloc (ab #[r] 127)).alloc (ab #[aa fr] 3)) λe w'=>
   ∃ v,e=.returned v/\w'.ownsRow (w.heap.size+5) 3 1 v (kT S size first fr size).length (mq (ji (kT S size first fr size)))/\Below w w w':=by
 obtain⟨aF,a⟩:∃ aF,(w.alloc (ab #[r] 127)).alloc (ab #[aa fr] 3)=aF:=⟨_,rfl⟩;have hk:ag aH w aF:=by rw[<-a];exact((ag.refl _ w).alloc _).alloc _
 have aA:aF.heap.size=w.heap.size+2:=by rw[<-a];simp
 have an:aF.cell? (ah w 0)=some (bM r):=by rw[<-a];exact sE (pn _ _ _) _
 have d:aF.cell? (ah (w+1) 0)=some (aa fr):=by rw[<-a];have:=pn (w.alloc (ab #[r] 127)) (aa fr) 3;rw[ft]at this;exact this
 have lp:=bZ h.head;have g:=bZ h.body;rw[a]
 have al:=OV (w:=aF) (λf:J=>(f:U)) 125 #[w.heap.size,bM (w+1)] (enters_of func125 bc rfl) (kT S size first fr size) (cu (agf _ _ _ _ _) h.most)
  (age ((h.keeps hk id id).keeps ((bd aF).alloc _) id id) w (w.heap.size+1) fr (sE an _) (sE d _) _ ⟨I,I,I,I⟩ ⟨b_,b_⟩)
 rw[aA]at al;exact al.mono λe w' ⟨v,h1,b,c⟩=>⟨v,h1,b,(hk.below bu (λ_ _=>id)).trans (c.mono I)⟩
def agq(h:fL w r B size first S):aB 52 #[r] w λe w'=>
   ∃ v,e=.returned v/\w'.ownsRow (w.heap.size+5) 3 1 v (kT S size first 0 size).length (mq (ji (kT S size first 0 size)))/\Below w w w':=by
 go_in
 go_wp2_with fail;refine bJ (agx r 0 w) ?_;go_wp2_with fail;refine(agu h 0).mono ?_;rintro e br ⟨v,rfl,h1,h2⟩;go_wp2;go_ret;exact⟨_,rfl,h1,h2⟩
end
section
structure pe(S:ai ((J->U)×aY))(size first:J)(L:ai (J×(J->U))):ae where
 ha:S.length=size
 pos:0<size
 eV:qY L
 ik:∀ p∈L,first<=p.1/\p.1<first+size/\p.1<=1073741824
 nZ:∀ f x,eu L f=some x->S[f%size]?=some (x,true)
 oE:∀ f,first<=f->f<first+size->f<=1073741824->eu L f=none->∃ y,S[f%size]?=some (y,false)
def mF(S:ai ((J->U)×aY))(size:J)(a:ai J):ai ((J->U)×aY):=a.foldl (λS f=>S.set (f%size) (bW,false)) S
def agc(S:ai ((J->U)×aY))(size:J)(a:ai J):(mF S size a).length=S.length:=by
 unfold mF
 induction a generalizing S with
 | nil=>rfl
 | cons f a b=>rw[r1,b];simp
def agd(S:ai ((J->U)×aY))(size:J)(a:ai J)(f:J):mF S size (a++[f])=(mF S size a).set (f%size) (bW,false):=by
 unfold mF;exact Ab
def OG(S:ai ((J->U)×aY))(size first:J)(a:ai J)(aA:S.length=size)(b:∀ f∈a,first<=f/\f<first+size)(g:J)(a7:first<=g/\g<first+size):(mF S size a)[g%size]?=if g∈a then some (bW,false)else S[g%size]?:=by
 have ao:0<size:=I
 induction a generalizing S with
 | nil=>rfl
 | cons f a c=>
  have e:mF S size (f :: a)=mF (S.set (f%size) (bW,false)) size a:=rfl;exact Q6
namespace pe
variable{S:ai ((J->U)×aY)}{size first:J}{L:ai (J×(J->U))}
def put(h:pe S size first L)(f:J)(x:(J->U))(a:first<=f/\f<first+size/\f<=1073741824):pe (S.set (f%size) (x,true)) size first (fR L f x) where
 ha:=by simpa using h.ha
 pos:=h.pos
 eV:=Kr h.eV f x
 ik p ao:=by
  exact Rv
 nZ g y a7:=by
  exact Q7
 oE g h1 h2 b a7:=by
  exact Rf
def has(h:pe S size first L)(f:J)(h1:first<=f)(h2:f<first+size):rL S size f=(eu L f).isSome:=by
 unfold rL;exact Ra
def wh(h:pe S size first L)(fr:U):kT S size first fr size=(L.map (·.1)).filter λf:J=>decide (fr<=(f:U)):=by
 exact Q9
def drop(h:pe S size first L)(p:J->aY):pe (mF S size ((L.map (·.1)).filter p)) size first (L.filter λq=>!p q.1):=by
 refine Q5;refine⟨by rw[agc,h.ha],h.pos,Kq h.eV _,λq b=>h.ik q (hN.1 b).1,λf x a=>?_,λf h1 h2 g a=>?_⟩
 .rw[Bn (p:=λn=>!p n)]at a;split at a
  .rename_i ao;have av:=h.ik _ (wA a);rw[OG S size first _ h.ha d f ⟨av.1,av.2.1⟩,az (λc=>by have:=((e f).1 c).2;simp[this]at ao)];exact h.nZ f x a
  cases a
 rw[OG S size first _ h.ha d f ⟨h1,h2⟩];exact Q8
def move(h:pe S size first L)(n:J)(aw:first<=n)(a:∀ p∈L,n<=p.1):pe S size n L where
 ha:=h.ha
 pos:=h.pos
 eV:=h.eV
 ik p ao:=⟨a p ao,by have:=h.ik p ao;omega,(h.ik p ao).2.2⟩
 nZ:=h.nZ
 oE f h1 h2 b c:=by
  exact Q4
end pe
end
section
variable{w w':aj}{r B size first:J}{S:ai ((J->U)×aY)}
def ajo(w:aj):(Instr.build 237 #[]).run prog w=.ok (.agg (iL bW false)) w:=bc
def agv(h:fL w r B size first S)(a:ai J)(A:cr Addr)(cap:J)(a_:ey w 1 A a.length cap (mq (ji a)))(s:0<a.length->∀ x,A=some x->x.block≠B)(u:∀ f∈a,gB first size (f:U)):aB 224 #[r,au A a.length cap] w λe w'=>e=aa (a.length:U)/\fL w' r B size first (mF S size a)/\ag (λb=>b=B) w w':=by
 have z:a.length<=9223372036854775807:=cu a_.2.1 a_.2.2.1
 go_in
 go_wp2;go_loopw [9] (λi wr=>∃ k:J,k<=a.length/\i=aa k/\fL wr r B size first (mF S size (a.take k))/\ag (λb=>b=B) w wr) (λi _=>a.length-(intOf i).toNat)
 case atStart=>exact⟨0,c3 _,rfl,h,ag.refl _ w⟩
 obtain⟨k,hk,rfl,c,j⟩:=hrel;by_cases g:k<a.length
 .refine Ue;have H:=ad (BQ c a[k] (a[k]%size) _ rfl (u _ (oY g)) rfl);have v:mF S size (a.take (k+1))=(mF S size (a.take k)).set (a[k]%size) (bW,false):=by rw[l7 g,agd]
  have p:a[k]%size<(mF S size (a.take k)).length:=by rw[c.ha];exact gb _ c.pos
  generalize a[k]=f at *;generalize f%size=d at *;generalize mF S size (a.take k)=D at *;refine xF;rintro aF ⟨q,m⟩;have l:=c.drew q;rw[<-m]at l;have n:ag (λb=>b=B) w aF:=by rw[m];exact j.drewN q
  have y:=l.store d p bW false;have hfin:=n.trans (jw aF B (fz (hK D).toArray (d*61) (iL bW false)));have hE:=l.yZ d p bW false;generalize aF.setRow B (fz (hK D).toArray (d*61) (iL bW false))=br at *;have t:=ad hE;clear hE m l n;go_wp2_with first|refine Ca (ajo _) rfl rfl rfl ?_|refine c' y rfl rfl rfl rfl ?_
  go_roundw
  case rel=>exact⟨k+1,I,cT,by rw[v];exact t.o,hfin⟩
  simp[intOf];omega
 exact TE
def lg(w:aj)(r B size first:J)(L:ai (J×(J->U))):ae:=∃ S,fL w r B size first S/\pe S size first L
def lg.keeps{L:ai (J×(J->U))}(h:lg w r B size first L)(hk:ag T w w')(h1:¬ T r)(h2:¬ T B):lg w' r B size first L:=by
 exact VH
variable{L:ai (J×(J->U))}
def lg.le(h:lg w r B size first L):L.length<=size/\0<size/\size<=4096/\first<=1073741824/\r<w.heap.size/\B<w.heap.size/\r≠B:=by
 exact Wj
def agj(h:lg w r B size first L):aB 52 #[r] w λe w'=>∃ v,e=.returned v/\w'.ownsRow (w.heap.size+5) 3 1 v (L.map (·.1)).length (mq (ji (L.map (·.1))))/\Below w w w':=by
 have⟨S,h,b⟩:=h;have a:=agq h;rw[b.wh 0,pZ.2 (λn _=>aM)]at a;exact a
def OI(h:lg w r B size first L)(n:J)(f:U)(d:f=n)(a:gB first size f)(x:(J->U)):aB 192 #[r,aa f,(Value.agg (aQ x))] w λe w'=>e=aa 0/\lg w' r B size first (fR L n x)/\ag (λb=>b=B) w w':=by
 obtain⟨S,h,c⟩:=h;refine aS (agt h n _ f d a rfl x) ?_;rintro w' ⟨h1,h2⟩;exact⟨rfl,⟨_,h1,c.put n x zD⟩,h2⟩
end
section
variable{w w':aj}{r B size first:J}{L:ai (J×(J->U))}
def OH(h:lg w r B size first L)(f:U)(g:-9223372036854775808<=f/\f<=9223372036854775807):aB 271 #[r,aa f] w λe w'=>e=aV #[.agg (aQ ((h_ L f).getD bW)),.bool (h_ L f).isSome]/\ag aH w w':=by
 have⟨S,h,b⟩:=h;by_cases a:gB first size f
 .refine UG;rcases c:eu L n with _|x
  .refine S_;exact OJ h n _ n rfl a rfl y false a8
  exact OJ h n _ n rfl a rfl x true (b.nZ n x c)
 rw[M_ (λp ao e=>a (by have:=b.ik p ao;unfold gB;omega))];exact agr h f a g
def agl(h:lg w r B size first L)(f:U)(a:f<first\/1073741824<f):aB 150 #[r,aa f] w λe w'=>e=aa 0/\lg w' r B size first L/\ag aH w w':=by
 have⟨S,h,b⟩:=h;have h1:=(h.keeps (T:=aH) ((ag.refl _ w).alloc (ab #[aa f] 3)) id id);have bw:=h1.bw;have po:(w.alloc (ab #[aa f] 3)).cell? (ah w 0)=some (aa f):=pn _ _ _;have hk:ag aH w (w.alloc (ab #[aa f] 3)):=(ag.refl _ w).alloc _;by_cases h2:f<first
 .exact RH
 exact Rc
def agm(a:J)(n x:U)(W:aj)(an:W.cell? (ah a 0)=some (aa n)):aB 223 #[aa x,a] W λe w'=>e=.returned (.bool (decide (n<=x)))/\∃ q,w'=W.drewN q:=by
 go_in
 go_wp2
 all_goals
  go_ret;exact⟨by simp_all,0,rfl⟩
theorem fL.ux{S:ai ((J->U)×aY)}(h:fL w r B size first S)(n:J)(aw:n<=1073741824):fL (w.setCell (ah r 0) (aa (n:U))) r B size n S:=
 ⟨by simpa using bX h.head 0 (aa (n:U)),eB h.body (h4 h.ne) _,h.ha,h.pos,h.most,aw,h.ne⟩
def agk(h:lg w r B size first L)(n:J)(f:U)(q:f=n)(m:first<=n/\n<=1073741824):aB 150 #[r,aa f] w λe w'=>e=aa (((L.filter λp=>decide (p.1<n)).length:J):U)/\lg w' r B size n (L.filter λp=>!decide (p.1<n))/\ag (λb=>b=r\/b=B) w w':=by
 obtain⟨S,h,a⟩:=h;have s:ag aH w (w.alloc (ab #[aa f] 3)):=(ag.refl _ w).alloc _;have h1:=h.keeps s id id;have bw:=h1.bw;have po:(w.alloc (ab #[aa f] 3)).cell? (ah w 0)=some (aa f):=pn _ _ _;have Y:(w.alloc (ab #[aa f] 3)).heap.size=w.heap.size+1:=aM;have lp:=bZ h.head;have Z:=bZ h.body;have d:(first:U)<=f:=I;have j:f<=1073741824:=I;have hm:=(a.drop λk=>decide (k<n)).move n m.1 (λp ao=>QU);have u:((L.map (·.1)).filter λk:J=>decide (k<n)).length=(L.filter λp=>decide (p.1<n)).length:=by rw[tc,iP];rfl
 have G:∀ k∈(L.map (·.1)).filter λk:J=>decide (k<n),gB first size (k:U):=λk hk=>by
  exact TN
 have F:((ji (L.map (·.1))).filter λx=>!decide (f<=x))=ji ((L.map (·.1)).filter λk:J=>decide (k<n)):=by
  unfold ji;rw[tc]
  congr 1
  exact TU
 rw[<-u];have z:=ad q;clear u q;generalize ((L.map (·.1)).filter λk:J=>decide (k<n))=i at *;have M:(ji i).length=i.length:=by simp[ji]
 have C:=ad M;have N:(L.map (·.1)).length<=4096:=by simpa using(cu (lg.le ⟨S,h,a⟩).1 h.most)
 go_in
 go_upto_region 1 with fail
 generalize w.alloc (ab #[aa f] 3)=aq at *;generalize w.heap.size=g at *;go_quiet (fail);go_wp2_with fail;refine(agj ⟨S,h1.drew nq,a⟩).mono ?_;rintro e br ⟨v,rfl,c,E⟩;have t:ag aH aq br:=((ag.refl _ aq).drewN nq).ga E;have O:(aq.drewN nq).heap.size=aq.heap.size:=rfl;rw[O]at c;go_wp2_with fail
 refine(Lc (ji (L.map (·.1))) c N (λx=>decide (f<=x)) 223 #[g] (enters_of func223 bc rfl)
  (λW x hk=>agm g f x W (hk.cell (t.cell po id) (λe=>by have:=(c.lt g e).1;omega)))).mono ?_
 rintro e P ⟨v4,rfl,y,H⟩;rw[F,C.o]at y;have X:∀ b,b<aq.heap.size->¬ v.ownBlock=some b:=λb al e=>by have:=(c.lt b e).1;omega
 obtain⟨A,cap,rfl,a_,al⟩:=dA y;have l:ag (λb=>aq.heap.size<=b) aq P:=(t.mono (λ_ _ h=>h.elim)).trans (H.mono λb _ e=>(c.lt b e).1 |> λh=>I);have D:=h1.keeps l I I;go_wp2_with fail;refine aS (agv D i A cap a_ (λ_ x ak=>CT) G) ?_;rintro Q ⟨d,j⟩;have T:=j.cell (l.cell po b_) b_;have R:=d.bw;have V:=bV d.head;have hE:=d.ux n m.2;rw[<-z.o]at hE
 have K:ag (λb=>b=r\/b=B) w (Q.setCell (ah r 0) (aa f)):=
  (((mr s).trans (l.mono λb al e=>I)).trans (j.mono λb _ e=>.inr e)).setCell (p:=ah r 0) (.inl rfl) _
 go_wp2_with fail;go_ret;exact⟨rfl,⟨_,hE,hm⟩,K⟩
end
section
structure Fd where
 first:J
 next:J
 last:U
 K:ai (J×U)
 de:ai (J×U)
def qZ(w:aj)(D:J)(x:Fd):ae:=e1 w D x.first x.next x.last x.K x.de
structure hs where
 c:J
 D:J->J
 r:J
 B:J
structure cO where
 aN:U
 e_:J
 eg:J
 aL:J
 f:J->Fd
 fG:J
 L:ai (J×(J->U))
 now:J
def hs.S(b:hs)(j:J):ae:=j=b.c\/(b.D 0<=j/\j<=b.D 0+4)\/(b.D 1<=j/\j<=b.D 1+4)\/j=b.r\/j=b.B
structure hs.ok(b:hs):ae where
 K6:b.c≠b.r
 Ee:b.c≠b.B
 bw:¬ (b.D 0<=b.c/\b.c<=b.D 0+4)
 bP:¬ (b.D 1<=b.c/\b.c<=b.D 1+4)
 dq:¬ (b.D 0<=b.r/\b.r<=b.D 0+4)
 gD:¬ (b.D 1<=b.r/\b.r<=b.D 1+4)
 iQ:¬ (b.D 0<=b.B/\b.B<=b.D 0+4)
 Jt:¬ (b.D 1<=b.B/\b.B<=b.D 1+4)
 YT:b.D 0+4<b.D 1\/b.D 1+4<b.D 0
structure c5(w:aj)(b:hs)(x:cO):ae where
 head:w.heap[b.c]?=ab #[bz x.aN,aa x.e_,aa x.eg,aa x.aL,.pointer (some (eo (b.D 0+4) 0 db)),.pointer (some (eo (b.D 1+4) 0 db)),b.r,aa x.now] 129 (0,0)
 fd:∀ k,k<2->qZ w (b.D k) (x.f k)
 st:lg w b.r b.B 81 x.fG x.L
 ok:b.ok
 aL:x.aL<2
 fq:x.now<=1000000
 eZ:∀ k,k<2->(x.f k).next<=1000000
 wn:x.eg<=1000
namespace c5
variable{w w':aj}{b:hs}{x:cO}
theorem keeps(h:c5 w b x)(hk:ag T w w')(a:∀ j,b.S j->¬ T j):c5 w' b x:=by
 refine⟨hk.heap h.head (a _ (.inl rfl)),λk c=>?_,h.st.keeps hk (a _ (.inr (.inr (.inr (.inl rfl))))) (a _ (.inr (.inr (.inr (.inr rfl))))),h.ok,h.aL,h.fq,h.eZ,h.wn⟩;refine oc;rcases this with rfl|rfl
 .exact(h.fd 0 I).keeps hk (λj h1 h2=>a _ (.inr (.inl ⟨h1,h2⟩)))
 exact(h.fd 1 I).keeps hk (λj h1 h2=>a _ (.inr (.inr (.inl ⟨h1,h2⟩))))
def keep(h:c5 w b x)(hk:ag aH w w'):c5 w' b x:=h.keeps hk (λ_ _=>id)
theorem lt(h:c5 w b x)(a:b.S j):j<w:=by
 have h1:=bZ h.head;have h2:=(h.fd 0 I).lt;have c:=(h.fd 1 I).lt;have d:=h.st.le;rcases a with e|e|e|e|e<;>omega
def mY(h:c5 w b x)(hk:k<2):w.cell? (ah b.c (4+k))=some (bM (b.D k+4)):=by
 have:k=0\/k=1:=I
 rcases this with rfl|rfl<;>exact bb h.head rfl
def bP(h:c5 w b x):w.cell? (ah b.c 1)=aa x.e_:=bb h.head rfl
def bB(h:c5 w b x):w.cell? (ah b.c 2)=aa x.eg:=bb h.head rfl
def e3(h:c5 w b x):w.cell? (ah b.c 3)=aa x.aL:=bb h.head rfl
def eI(h:c5 w b x):w.cell? (ah b.c 6)=some (bM b.r):=bb h.head rfl
def dv(h:c5 w b x):w.cell? (ah b.c 7)=aa x.now:=bb h.head rfl
end c5
variable{w w':aj}{b:hs}{x:cO}
def x'(h:c5 w b x):aB 22 #[b.c] w λe w'=>e=aa x.now/\w=w':=by
 have dv:=h.dv;exact er
def ya(h:c5 w b x):aB 56 #[b.c] w λe w'=>e=.returned (bM (b.D x.aL+4))/\∃ q,w'=w.drewN q:=by
 have e3:=h.e3;have mY:=h.mY h.aL;have hm:(x.aL:U)<2:=by have:=h.aL;omega
 exact zP
def vU(h:c5 w b x):aB 151 #[b.c] w λe w'=>e=.returned (bM (b.D (1-x.aL)+4))/\∃ q,w'=w.drewN q:=by
 have e3:=h.e3;obtain⟨k,hk,a,d⟩:∃ k:J,1-x.aL=k/\k<2/\(1:U)-(x.aL:U)=(k:U):=⟨1-x.aL,rfl,I,by have:=h.aL;omega⟩;rw[hk];have mY:=h.mY a;exact zP
def mi(x:cO):J:=min (x.f 0).next (x.f 1).next
def KY(h:c5 w b x):aB 24 #[b.c] w λe w'=>e=aa (mi x)/\∃ q,w'=w.drewN q:=by
 have d0:=h.mY (k:=0) I;have d1:=h.mY (k:=1) I;have a:=ad (λn=>sK ((h.fd 0 I).drew n));have d:=ad (λn=>sK ((h.fd 1 I).drew n));have bS:=h.eZ 1 I;unfold mi;generalize (x.f 0).next=m at *;generalize (x.f 1).next=n at *;by_cases an:m<=n
 focus
  rw[o3 an];have g:min (m:U) (n:U)=(m:U):=I
 rotate_left
 focus
  rw[HN I];have g:min (m:U) (n:U)=(n:U):=I
 rotate_left
 all_goals
  go_in
  go_wp2;go_quiet ((go_at_call 49;first|(with_reducible exact Calls.quiet_of (oJ (a.o _)))|(with_reducible exact ke (oJ (a.o _)))|(with_reducible exact Calls.quiet_of (oJ (d.o _)))|(with_reducible exact ke (oJ (d.o _)))));go_wp2;go_ret;exact⟨rfl,_,rfl⟩
end
variable{w w':aj}{b:hs}{x:cO}
def c5.drew(h:c5 w b x)(n:J):c5 (w.drewN n) b x:=h.keep ((ag.refl _ w).drewN n)
def kO(x:cO):aY:=decide ((x.eg:U)<=(x.now:U)-(mi x:U))
def YH(h:c5 w b x):mi x<=1000000:=by
 have:=h.eZ 0 I
 unfold mi;omega
def AE(h:c5 w b x):aB 216 #[b.c] w λe w'=>e=.returned (.bool (kO x))/\∃ q,w'=w.drewN q:=by
 have bB:=h.bB;have dv:=h.dv;have aU:=ad (λn=>KY (h.drew n));have al:=YH h;have aw:=h.fq;unfold kO;generalize mi x=m at *
 go_in
 go_wp2;refine VT;exact xI
def YD(h:c5 w b x):aB 156 #[b.c] w λe w'=>e=aa (x.f (1-x.aL)).next/\∃ q,w'=w.drewN q:=by
 refine cg;refine aS (vU h) ?_;rintro _ ⟨q,rfl⟩;refine aK;refine bJ (((λn=>sK ((h.fd (1-x.aL) I).drew n))) q) ?_;exact xI
def Ek(h:c5 w b x):aB 32 #[b.c] w λe w'=>e=aa (x.f x.aL).next/\∃ q,w'=w.drewN q:=by
 refine cg;refine aS (ya h) ?_;rintro _ ⟨q,rfl⟩;refine aK;refine bJ (((λn=>sK ((h.fd x.aL h.aL).drew n))) q) ?_;exact xI
def gK(x:cO):Fd:=x.f (1-x.aL)
def hc(x:cO):cr J:=kl (gK x).K (gK x).de
def dx(x:cO):U:=match hc x with
 | none=>(min (mi x) x.now:J)-1
 | some g=>min ((min (mi x) x.now:J)-1:U) ((g:U)-1)
def AB(h:c5 w b x)(a:hc x=none):aB 91 #[b.c] w λe w'=>e=aa (dx x)/\ag aH w w':=by
 have aw:=h.fq;have aU:=ad (λn=>KY (h.drew n));have aA:dx x=(min (mi x) x.now:J)-1:=by unfold dx;rw[a]
 rw[aA];refine SL;unfold hc gK at a;rw[a]at s';have dv:=h.dv;generalize mi x=dz at *;generalize x.now=fq at *;by_cases an:dz<=fq
 .rw[o3 an];have i:min (dz:U) (fq:U)=(dz:U):=I;have j:IntKind.i64.wrap ((dz:U)-1)=(dz:U)-1:=e0 _ I;refine cg;refine VT;refine aK;refine aS (s.o _ ((ag.refl _ w).drewN _)) ?_;refine Sj;have y:=d.trans f;refine I_;go_ret;exact o8
 rw[HN I];have i:min (dz:U) (fq:U)=(fq:U):=I;refine cg;go_quiet ((go_at_call 24;first|exact Calls.quiet_of (aU.out _)|exact ke (aU.out _)));refine aK;refine aS (s.out _ ((ag.refl _ w).drewN _)) ?_;refine Sj;refine I_;go_ret;exact⟨rfl,(d.trans f)⟩
def K0(h:c5 w b x)(f:U)(p:-9223372036854775808<=f/\f<=9223372036854775807):aB 208 #[b.c,aa f] w λe w'=>e=aV #[.agg (aQ ((h_ x.L f).getD bW)),.bool (h_ x.L f).isSome]/\ag aH w w':=by
 have k:=kh w;have i:=aP w (ab (aQ bW) 99);have a:ag aH w (w.alloc (ab (aQ bW) 99)):=(ag.refl _ w).alloc _;generalize w.alloc (ab (aQ bW) 99)=aq at *;have h1:=h.keep a;have eI:=h1.eI;have j:=ad (OH h1.st f p);have g:=ad i;generalize (h_ x.L f).getD bW=v at *;generalize (h_ x.L f).isSome=b6 at *
 go_in
 go_wp2_with refine eL k rfl rfl ?_
 refine aS j.o λaF d=>?_;have l:=a.trans d;obtain⟨q,n,m⟩:=dT aF 99 60 w (aQ v) (aQ bW) sizeOf99 (dX _) (dX _) (d.heap g.o id) (rr _);generalize aF.setRow w (aQ v)=br at *;go_wp2_with refine c' q rfl rfl rfl rfl ?_
 refine dj (v:=aV #[.agg (aQ v),.bool b6]) n ?_;exact⟨rfl,c1 l m a1⟩
def fy(f:J->Fd)(k:J)(y:Fd):J->Fd:=λj=>if j=k then y else f j
def s0(f:J->Fd)(k:J)(y:Fd):fy f k y k=y:=by simp[fy]
def sZ(f:J->Fd)(y:Fd)(h:j≠k):fy f k y j=f j:=by simp[fy,h]
def c5.feed(h:c5 w b x)(m:k<2){y:Fd}(a8:qZ w' (b.D k) y)(hk:ag (λj=>lE (b.D k) j) w w')(aw:y.next<=1000000):c5 w' b {x with f:=fy x.f k y}:=by
 have ok:=h.ok;have an:¬ lE (b.D k) b.c:=by
  refine oc;rcases this with rfl|rfl
  .exact ok.bw
  exact ok.bP
 have l:¬ lE (b.D k) b.r:=by
  refine oc;rcases this with rfl|rfl
  .exact ok.dq
  exact ok.gD
 have g:¬ lE (b.D k) b.B:=by
  refine oc;rcases this with rfl|rfl
  .exact ok.iQ
  exact ok.Jt
 refine⟨hk.heap h.head an,λi av=>?_,h.st.keeps hk l g,ok,h.aL,h.fq,λi av=>?_,h.wn⟩
 .by_cases e:i=k
  .subst e;show qZ w' (b.D i) (fy x.f i y i);rw[s0];exact a8
  show qZ w' (b.D i) (fy x.f k y i);rw[sZ _ _ e];refine e1.keeps (h.fd i av) hk λj h1 h2 d=>?_;have hd:=ok.YT;unfold lE at d;have a:(i=0/\k=1)\/(i=1/\k=0):=I;rcases a with⟨rfl,rfl⟩|⟨rfl,rfl⟩<;>omega
 by_cases e:i=k
 .subst e;show(fy x.f i y i).next<=_;rw[s0];exact aw
 show(fy x.f k y i).next<=_;rw[sZ _ _ e];exact h.eZ i av
def wa(c:k<2)(a:lE (b.D k) j):b.S j:=by
 refine oc;rcases this with rfl|rfl
 .exact .inr (.inl a)
 exact .inr (.inr (.inl a))
def c5.w7(h:c5 w b x){fG:J}{L:ai (J×(J->U))}(a8:lg w' b.r b.B 81 fG L)(hk:ag (λj=>j=b.r\/j=b.B) w w'):c5 w' b {x with fG:=fG,L:=L}:=by
 have ok:=h.ok;have c:=ok.K6;have d:=ok.Ee;have e:=ok.dq;have f:=ok.gD;have g:=ok.iQ;have k:=ok.Jt;refine⟨hk.heap h.head I,λi av=>e1.keeps (h.fd i av) hk λj h1 h2 a=>?_,a8,ok,h.aL,h.fq,h.eZ,h.wn⟩;exact We
def hI(x:cO)(k:J)(v:U):cO:={x with f:=fy x.f k {x.f k with next:=(x.f k).next+1,last:=v,K:=fR (x.f k).K (x.f k).next v}}
def Yt(h:c5 w b x)(v:U)(a_:v<=63)(f:U)(d:f=(x.f (1-x.aL)).next)(aw:(x.f (1-x.aL)).next<1000000)(g:(x.f (1-x.aL)).first<=(x.f (1-x.aL)).next/\(x.f (1-x.aL)).next<(x.f (1-x.aL)).first+64):aB 103 #[b.c,aa f,bf v] w λe w'=>e=aa 0/\c5 w' b (hI x (1-x.aL) v)/\ag b.S w w':=by
 have a:1-x.aL<2:=I;have l:=ad (vU h);have i:=ad (λn=>EF ((h.fd (1-x.aL) a).drew n) v a_ f d I g);have H:=ad h;clear h a_ d g;generalize 1-x.aL=k at *
 go_in
 go_wp2_with fail;refine aS l.o ?_;rintro _ ⟨q,rfl⟩;go_wp2_with fail;refine aS (i.out q) ?_;rintro aF ⟨h2,hk⟩;have hfin:=(H.o.drew q).feed a (y:={x.f k with next:=(x.f k).next+1,last:=v,K:=fR (x.f k).K (x.f k).next v}) h2 hk xp;go_wp2;go_ret;exact⟨rfl,hfin,(((ag.refl _ w).drewN q).trans (hk.mono λj _ m=>wa a m))⟩
def Yz(h:c5 w b x)(D:hc x=none):aB 138 #[b.c] w λe w'=>e=aV #[au none 0 0,aa 0]/\ag aH w w':=by
 have N:=ad (λ(W:aj) (hk:ag aH w W)=>AO ((h.keep hk).fd (1-x.aL) I));unfold hc gK at D;refine ed;have d:ag aH w ((w.alloc (ab #[au none 0 0] 267)).alloc (ab #[aa 0] 36)):=((ag.refl _ w).alloc _).alloc _;have cp:(((w.alloc (ab #[au none 0 0] 267)).alloc (ab #[aa 0] 36))).heap[w.heap.size]?=some (ab #[au none 0 0] 267 (0,0)):=b2 (aP w _) _;have bS:(((w.alloc (ab #[au none 0 0] 267)).alloc (ab #[aa 0] 36))).heap[w.heap.size+1]?=some (ab #[aa 0] 36 (0,0)):=by
  have:=aP (w.alloc (ab #[au none 0 0] 267)) (ab #[aa 0] 36)
  rwa [ft]at this
 refine cg;generalize ((w.alloc (ab #[au none 0 0] 267)).alloc (ab #[aa 0] 36))=bo at *;refine aS (((λ(W:aj) (hk:ag aH w W)=>vU (h.keep hk))) _ d) ?_;rintro aq ⟨q,C⟩;have f:ag aH bo aq:=by rw[C];exact(ag.refl _ bo).drewN q
 refine qW;refine aS (N.out _ (d.trans f)) λaF j=>?_;have a:=f.trans j;have d0:=bb (k:=0) (a.heap cp id) rfl;have d1:=bb (k:=0) (a.heap bS id) rfl;have g0:=bV (a.heap cp id);have g1:=bV (a.heap bS id);refine I_;have g:((aF.setCell (ah w 0) (au none 0 0)).setCell (ah (w+1) 0) (aa 0)).cell? (ah w 0)=some (au none 0 0):=by
  rw[Hl _ _ _ _ aM,zf _ _ _ d0]
 have i:((aF.setCell (ah w 0) (au none 0 0)).setCell (ah (w+1) 0) (aa 0)).cell? (ah (w+1) 0)=some (aa 0):=
  zf _ _ _ (by rw[Hl _ _ _ _ aM];exact d1)
 refine dH (v:=aV #[au none 0 0,aa 0]) (by simp[results,results138,asAddr,loadVar,isAgg267,isAgg36,go_sem,g,i]) rfl ?_;exact⟨rfl,((d.trans a).pL (p:=ah w 0) bu _).pL (p:=ah (w+1) 0) aM _⟩
def OX(f:J->Fd)(k:J):fy f k (f k)=f:=by
 funext j
 unfold fy;split
 .rename_i h;rw[h]
 rfl
def AP(p q:cr Addr)(w:aj):(Instr.index 126 (aG #[.pointer p,.pointer q]) (aa 0)).run prog w=.ok (.pointer p) w:=bc
def AQ(p q:cr Addr)(w:aj):(Instr.index 126 (aG #[.pointer p,.pointer q]) (aa 1)).run prog w=.ok (.pointer q) w:=bc
def Ys(h:c5 w b x)(v:hc x=none)(fr:U)(t:fr=-1)(aA:dx x=-1)(A:∀ k,k<2->(x.f k).first<=(x.f k).next):aB 90 #[b.c,aa fr] w λe w'=>(∃ n:U,e=aa n)/\c5 w' b x/\ag b.S w w':=by
 subst t;have ax:=ad (AB h v);rw[aA]at ax;have C:=AP;have D:=AQ
 go_in
 go_wp2_with fail;refine aS ax.o λaq p=>?_;have h1:=h.keep p;have e4:=h1.mY (k:=0) I;have hA:=h1.mY (k:=1) I;go_wp2_with fail;go_loopg [18] 2 (λg i wr=>∃ k:J,g=2-k/\k<=2/\i=aa k/\c5 wr b x/\ag b.S w wr)
 case atStart=>exact⟨0,rfl,I,rfl,h1,mr p⟩
 obtain⟨k,a7,hk,rfl,aU,m⟩:=hrel;by_cases d:k<2
 .have z:=ad (ZR (aU.fd k d) (A k d) (-1) I);have j:=ad aU;have u:k=0\/k=1:=I;rcases u with rfl|rfl
  .refine Dl;have hfin:=j.o.feed d (y:=x.f 0) q a (j.o.eZ 0 I);rw[OX]at hfin;exact RY
  refine Dl;have hfin:=j.o.feed d (y:=x.f 1) q a (j.o.eZ 1 I);rw[OX]at hfin;exact R3
 obtain rfl:k=2:=I;have eI:=aU.eI;have s:=ad (λn=>agl (aU.drew n).st (-1) I);refine aK;refine aS (s.o 0) ?_;rintro aF ⟨B,a⟩;have hfin:=aU.keep a;refine fB;exact⟨⟨_,rfl⟩,hfin,m.trans (mr a)⟩
variable{α:Type}
def fh(g:J->α)(f n:J):ai (J×α):=(range (n-f)).map λi=>(f+i,g (f+i))
def uu(g:J->α)(h:n<=f):fh g f n=[]:=by
 unfold fh;rw[show n-f=0 by omega];rfl
def yY(g:J->α)(h:f<=n):fh g f (n+1)=fh g f n++[(n,g n)]:=by
 unfold fh;rw[show n+1-f=(n-f)+1 by omega,th,k3,CA,show f+(n-f)=n by omega]
def wV{g:J->α}{p:J×α}(h:p∈fh g f n):f<=p.1/\p.1<n/\p.2=g p.1:=by
 obtain⟨i,av,rfl⟩:=gO.1 h
 have:=p1.1 av
 exact⟨xp,xp,rfl⟩
theorem NS:∀ (L:ai (J×α)) (n:J) (x:α),(∀ p∈L,p.1<n)->fR L n x=L++[(n,x)]
 | [],n,x,_=>rfl
 | (g,y) :: r,n,x,h=>by
  have h1:=h (g,y) aM;unfold fR;rw[az I,NS r n x (λp ao=>h p (by simp[ao]))];rfl
def yX(g:J->α)(h:f<=n):fR (fh g f n) n (g n)=fh g f (n+1):=by
 rw[yY g h,NS _ _ _ (λp ao=>(wV ao).2.1)]
theorem Nb:∀ (L:ai (J×α)) (n j:J) (x:α),(∀ p∈L,p.1<n)->eu (L++[(n,x)]) j=if j=n then some x else eu L j
 | [],n,j,x,_=>by
  simp only[p2,eu];by_cases e:n=j
  .rw[aD e,aD e.symm]
  rw[az e,az (λc=>e c.symm)]
 | (g,y) :: r,n,j,x,h=>by
  have h1:=h (g,y) aM;simp only[l5,eu];by_cases e:g=j
  .rw[aD e,aD e,az I]
  rw[az e,az e,(Nb r n j x (λp ao=>h p (by simp[ao])))]
theorem rN(g:J->α)(f j:J):∀ n,eu (fh g f n) j=if f<=j/\j<n then some (g j)else none
 | 0=>by rw[uu g b4,if_neg b4];rfl
 | n+1=>by
  by_cases h:f<=n
  .rw[yY g h,Nb _ _ _ _ (λp ao=>(wV ao).2.1),rN g f j n];by_cases e:j=n
   .subst e;rw[aD rfl,aD I]
   rw[az e];by_cases c:f<=j/\j<n
   .rw[aD c,aD I]
   rw[az c,az I]
  rw[uu g I,az I];rfl
def OU(g:J->α)(f n:J)(j:J):h_ (fh g f n) (j:U)=if f<=j/\j<n then some (g j)else none:=by
 rw[yy,rN]
theorem Gh(g:J->α){f m:J}(h:f<=m):∀ d,fh g f (m+d)=fh g f m++fh g m (m+d)
 | 0=>by rw[uu g (show m+0<=m by omega),gq];rfl
 | d+1=>by
  rw[show m+(d+1)=(m+d)+1 by omega,yY g (show f<=m+d by omega),yY g (show m<=m+d by omega),Gh g h d,eh]
def wU(g:J->α){m:J}(h:f<=m)(aw:m<=n):((fh g f n).filter λp=>!decide (p.1<m))=fh g m n:=by
 obtain⟨d,rfl⟩:∃ d,n=m+d:=⟨n-m,I⟩;rw[Gh g h d,rZ,filter_eq_nil_iff.2 (λp ao=>by have:=(wV ao).2.1;simp;omega),p2,pZ.2 (λp ao=>by have:=(wV ao).1;simp;omega)]
theorem Qh(K:ai (J×U)):∀ de:ai (J×U),(∀ p∈de,eu K p.1=none\/eu K p.1=some p.2)->kl K de=none
 | [],_=>rfl
 | (g,y) :: r,h=>by
  have h1:=h (g,y) aM;have a:=Qh K r (λp ao=>h p (by simp[ao]));unfold kl;rcases h1 with h1|h1
  .simp only at h1;rw[h1];exact a
  simp only at h1;rw[h1];simp[a]
def gZ(f n:J):ai (J×U):=fh (λ_=>0) f n
def G_(f n a m:J):kl (gZ f n) (gZ a m)=none:=by
 refine Qh _ _ λp ao=>?_;unfold gZ;rw[rN];split
 .exact .inr (by rw[(wV ao).2.2])
 exact .inl rfl
def oA{w w':aj}{q:J}(h:w'=w.drewN q):ag aH w w':=by rw[h];exact(ag.refl _ w).drewN q
def Yw(h:c5 w b x)(v:U)(a_:v<=63)(u:kO x=false)(hd:(x.f x.aL).next<=x.now+x.e_)(F:x.e_<=1000)(aw:(x.f x.aL).next<1000000)(B:(x.f x.aL).first<=(x.f x.aL).next/\(x.f x.aL).next<(x.f x.aL).first+64):aB 144 #[b.c,bf v] w λe w'=>e=aV #[aa (x.f x.aL).next,aa 0]/\c5 w' b (hI x x.aL v)/\ag b.S w w':=by
 have a:=h.aL;have G:=h.fq;have n:=ad (λ(W:aj) (hk:ag aH w W)=>ya (h.keep hk));have m:=ad (λ(W:aj) (hk:ag aH w W)=>AE (h.keep hk));rw[u]at m;have t:=ad (λ(W:aj) (hk:ag aH w W)=>EF ((h.keep hk).fd x.aL a) v a_ ((x.f x.aL).next:U) rfl I B);have bP:=λ(W:aj) (hk:ag aH w W)=>(h.keep hk).bP;have dv:=λ(W:aj) (hk:ag aH w W)=>(h.keep hk).dv;have D:=ad bP;have E:=ad dv;unfold hI;generalize A:(x.f x.aL).next=eZ at *
 go_in
 go_wp2_with fail;refine aS (n.o _ (ag.refl _ w)) ?_;rintro aq ⟨bI,p⟩;have g:=oA p;clear p;go_wp2_with fail;refine bJ (((λ(W:aj) (hk:ag aH w W)=>sK ((h.keep hk).fd x.aL a))) _ g) ?_;go_wp2_with fail;refine aS (m.out _ g) ?_;rintro aF ⟨H,q⟩;have bK:=g.trans (oA q);clear q;go_wp2_with fail;go_quiet (fail);have i:=bK.drewN nq;generalize aF.drewN nq=br at *;go_wp2_with fail;refine aS (n.out _ i) ?_;rintro M ⟨L,r⟩;have d:=i.trans (oA r);clear r i;go_wp2_with fail;refine aS (t.out _ d) ?_;rintro N ⟨l,k⟩;have hfin:=(h.keep d).feed a (y:={x.f x.aL with next:=eZ+1,last:=v,K:=fR (x.f x.aL).K eZ v}) l k xp;have s:=ad hfin;have C:=(d.mono λ_ _ x=>x.elim).trans (k.mono λj _ z=>wa a z);clear l hfin k d;go_wp2;go_ret2;exact⟨rfl,by have:=s.o;rw[<-A]at this⊢;exact this,C⟩
def qn(y:Fd)(k:J):Fd:={y with first:=k,K:=pq k y.K,de:=pq k y.de}
def tO(x:cO)(k:J):cO:={x with f:=λj=>if j<2 then qn (x.f j) k else x.f j,fG:=k,L:=x.L.filter λp=>!decide (p.1<k)}
def q9(x:cO)(k j:J):cO:={x with f:=λi=>if i<j then qn (x.f i) k else x.f i}
def YO(x:cO)(k:J):q9 x k 0=x:=by simp[q9]
def K'(x:cO)(k j:J):{q9 x k j with f:=fy (q9 x k j).f j (qn (x.f j) k)}=q9 x k (j+1):=by
 unfold q9 fy;exact R'
def Yq(h:c5 w b x)(G:hc x=none)(k:J)(fr:U)(E:fr=k)(aA:(k:U)<=dx x+1)(Q:dx x<=1000000)(C:∀ j,j<2->(x.f j).first<=k/\k<=(x.f j).next)(K:x.fG<=k)(M:k<=1000000):aB 90 #[b.c,aa fr] w λe w'=>(∃ n:U,e=aa n)/\c5 w' b (tO x k)/\ag b.S w w':=by
 subst E;have ax:=ad (AB h G);have H:=ad h;have P:min (k:U) (dx x+1)=(k:U):=I;generalize dx x=s at *;have R:=AP;have V:=AQ
 go_in
 go_wp2_with fail;refine aS ax.o λaq t=>?_;have h1:=H.o.keep t;have e4:=h1.mY (k:=0) I;have hA:=h1.mY (k:=1) I;go_wp2_with fail
 all_goals try (exfalso;omega)
 go_loopg [18] 2 (λg i wr=>∃ j:J,g=2-j/\j<=2/\i=aa j/\c5 wr b (q9 x k j)/\ag b.S w wr)
 case atStart=>exact⟨0,rfl,I,rfl,by rw[YO];exact h1,mr t⟩
 obtain⟨j,a7,l,rfl,aU,m⟩:=hrel;by_cases d:j<2
 .have D:(q9 x k j).f j=x.f j:=by simp[q9]
  have N:=aU.fd j d;refine ed;have v:=C j d;have z:=ad (ZQ N k (k:U) ⟨v.1,I⟩ (.inl ⟨rfl,v.2⟩));have u:(x.f j).next<=1000000:=by have:=H.o.eZ j d;exact this
  have p:=ad aU;have F:j=0\/j=1:=I;rcases F with rfl|rfl
  .refine Dl;have hfin:=p.o.feed d (y:=qn (x.f 0) k) q a u;rw[K']at hfin;exact RY
  refine Dl;have hfin:=p.o.feed d (y:=qn (x.f 1) k) q a u;rw[K']at hfin;exact R3
 obtain rfl:j=2:=I;have eI:=aU.eI;refine aK;refine aS ((agk aU.st k (k:U) rfl ⟨K,I⟩)) ?_;rintro aF ⟨B,a⟩;have hfin:=aU.w7 B a;have A:=ad hfin;refine fB;exact⟨⟨_,rfl⟩,A.o,(m.trans (a.mono (T:=b.S) λj _ l=>by rcases l with e|e;(· exact .inr (.inr (.inr (.inl e))));(· exact .inr (.inr (.inr (.inr e))))))⟩
end Go.Proofs.YtalagblioepadaaGreatDoor
