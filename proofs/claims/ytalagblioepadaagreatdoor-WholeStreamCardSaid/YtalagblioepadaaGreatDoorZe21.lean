/- The proof, part 21. -/
import Derived.DeepKeys5
import Derived.Shelf.Bits.Mul64
import Derived.Test.YtalagblioepadaaGreatDoorZe20
import Derived.Test.YtalagblioepadaaGreatDoorZe19
namespace Go.Proofs.YtalagblioepadaaGreatDoor
set_option linter.all false
open Proofs.Tryz List Go.RowKit Go.Maps Go.Shelf
set_option maxRecDepth 100000
set_option maxHeartbeats 1000000
variable{ww:Prop}
def tq(h:ww:=by show w<=w.heap.size+1;omega):=h
def CQ(h:ww:=by show w<=w.heap.size+1+1;omega):=h
def QY(h:ww:=by have:=aP ((w.alloc (ab #[af a,af b] 91)).alloc (ab #[af c,af d] 91)) (ab cH 91);simpa using this):=h
variable{K:J}{T:J->ae}{m x:Operand}{e t:TypeId}{key mv v:ay}
section
variable{H:Type}{P:Program}{k:TypeId}{R:ay->cr (DataW H×ai MemPlace)}{w w':aj}{b n:J}{D:DataW H}
def acL(h:w.ownsMap P k R b n D)(hk:ag T w w')(al:¬ T b):w'.ownsMap P k R b n D:=by
 have⟨es,a,h1,F,h2,c⟩:=h;exact⟨es,a,hk.heap h1 al,F,h2,c⟩
def Nd(h:w.mapTurned w' b):ag (λj=>j=b) w w':=by
 have a7:=h.grown;exact⟨a7.os,a7.tape,a7.output,a7.size,λj a aA=>a7.block j a (λe=>aA (by cases e;rfl))⟩
variable{ops:a6 Oper}{rest:ai Oper}{o:Oper}{a:Act}{Q:Exit->Act->aj->ae}
def y9{c:aY}(hrun:(Instr.lookup t mv key c).run P w=.ok v w')(a7:o.guard=none)(ar:o.op=.lookup t m x c)(hm:a.eval m=mv)(ak:a.eval x=key)(h:wpList P ops Q rest (a.put o.dst v) w'):wpList P ops Q (o :: rest) a w:=by
 refine oV a7 λla b=>?_;unfold Oper.wp;simp only[execOp,ar,hm,ak,iO,hrun,iu,jm];exact b _ _ h
def P_{y:Operand}(hrun:(Instr.mapUpdate t mv key v).run P w=.ok () w')(a7:o.guard=none)(ar:o.op=.mapUpdate t m x y)(hm:a.eval m=mv)(ak:a.eval x=key)(a8:a.eval y=v)(h:wpList P ops Q rest (a.put o.dst undef) w'):wpList P ops Q (o :: rest) a w:=by
 refine oV a7 λla b=>?_;unfold Oper.wp;simp only[execOp,ar,hm,ak,a8,iO,hrun,iu,jm];exact b _ _ h
def G5{b:TypeId}(hrun:(Builtin.delete_ #[t,b] o.type #[mv,key]).run P w=.ok (aV #[]) w')(a7:o.guard=none)(ar:o.op=Op.call {callee:=Callee.builtin Builtin.delete,args:=#[m,x],argTypes:=#[t,b]})(hm:a.eval m=mv)(ak:a.eval x=key)(h:wpList P ops Q rest (a.put o.dst (aV #[])) w'):wpList P ops Q (o :: rest) a w:=by
 refine oV a7 λla c=>?_;unfold Oper.wp;simp[execOp,ar,resolve,invoke,builtin,hm,ak,hrun,Result.andThen];exact c _ _ h
def P9(hrun:(Builtin.len_ #[t] o.type #[mv]).run P w=.ok v w')(a7:o.guard=none)(ar:o.op=Op.call {callee:=Callee.builtin Builtin.len,args:=#[m],argTypes:=#[t]})(hm:a.eval m=mv)(h:wpList P ops Q rest (a.put o.dst v) w'):wpList P ops Q (o :: rest) a w:=by
 refine oV a7 λla b=>?_;unfold Oper.wp;simp[execOp,ar,resolve,invoke,builtin,hm,hrun,Result.andThen];exact b _ _ h
end
section
variable{P:Program}{k:TypeId}{w w':aj}
def pH(v:ay):cr (DataW Value×ai MemPlace):=some (.held v,[])
structure mS(P:Program)(k:TypeId)(ei:Type) where
 enc:ei->ay
 lit:ei->Lit
 ok:ei->ae
 law:∀ x,ok x->keyOf P k (enc x)=some (lit x)
 inj:∀ a b,ok a->ok b->enc a=enc b->a=b
variable{ei:Type}{C:mS P k ei}
def mS.Bm(K:Keyed P k){a b:ei}(bg:C.ok a)(al:C.ok b)(h:C.lit a=C.lit b):a=b:=C.inj a b bg al (K.inj (C.law a bg) (by rw[h];exact C.law b al))
structure gv(w:aj)(C:mS P k ei)(b:J)(M:ai (ei×ay)):ae where
 own:∃ es,w.ownsMap P k pH b M.length (.map es)/\es.Perm (M.map λp=>(C.lit p.1,DataW.held p.2))
 ok:∀ p∈M,C.ok p.1
 q_:M.Pairwise λp q=>p.1≠q.1
def je[DecidableEq ei](M:ai (ei×ay))(x:ei):cr ay:=(M.find? λp=>decide (p.1=x)).map Prod.snd
def mj[DecidableEq ei](M:ai (ei×ay))(x:ei):ai (ei×ay):=M.filter λp=>!decide (p.1=x)
def nm[DecidableEq ei](M:ai (ei×ay))(x:ei)(v:ay):ai (ei×ay):=mj M x++[(x,v)]
def tight{b n:J}{D:DataW Value}(h:w.ownsMap P k pH b n D):w.ownsMap P k pH b (Maps.size D) D:=by
 have⟨es,c,h1,h2,d,a⟩:=h;refine⟨es,c,h1,h2,?_,a⟩;rw[a];simp[Maps.size,length_sorted]
namespace gv
variable{b:J}{M:ai (ei×ay)}
theorem lt(h:gv w C b M):b<w.heap.size:=by have⟨es,h1,_⟩:=h.own;exact h1.lt
def keeps(h:gv w C b M)(hk:ag T w w')(al:¬ T b):gv w' C b M:=by
 have⟨es,h1,h2⟩:=h.own;exact⟨⟨es,acL h1 hk al,h2⟩,h.ok,h.q_⟩
theorem perm{hv:ai (ei×ay)}(h:gv w C b M)(ao:M.Perm hv):gv w C b hv:=by
 have⟨es,h1,h2⟩:=h.own;refine⟨⟨es,by rw[<-ao.length_eq];exact h1,h2.trans (ao.map _)⟩,λp a=>h.ok p (ao.mem_iff.2 a),?_⟩;exact h.q_.perm ao (λh=>h4 h)
theorem made(w:aj)(P:Program)(k:TypeId)(C:mS P k ei):gv (w.alloc (.map #[] 0)) C w.heap.size []:=
 ⟨⟨[],World.ownsMap_made w P k pH,Cp _⟩,(λ_ h=>nomatch h),Pairwise.nil⟩
def EJ[DecidableEq ei](h:gv w C b M){p:ei×ay}(ao:p∈M):je M p.1=some p.2:=by
 unfold je;have hd:=h.q_;clear h
 induction M with
 | nil=>cases ao
 | cons q l a=>
  obtain⟨h1,h2⟩:=k4.1 hd;rcases fW.1 ao with rfl|ao
  .simp
  have hne:=h1 p ao;rw[find?_cons_of_neg (by simpa using hne)];exact a ao h2
def look[DecidableEq ei](K:Keyed P k)(h:gv w C b M){x:ei}(ak:C.ok x)(aW:P.underlying t=some (.map k e)){z:ay}(y:∀ w,(zeroValue e).run P w=.ok z w):(Instr.lookup t (.map (some b)) (C.enc x) true).run P w=.ok (aV #[(je M x).getD z,.bool (je M x).isSome]) w:=by
 obtain⟨es,h1,h2⟩:=h.own;obtain⟨v,ps,hrun,a_⟩:=h1.look_ok K aW (y w) (zd:=.held z) (zp:=[]) rfl (C.law x ak);simp only[pH,jn,mM]at a_;have j:=K.key (C.law x ak);rw[hrun];by_cases d:∃ u,(x,u)∈M
 .obtain⟨u,m⟩:=d;have hm:=h2.mem_iff.2 (gO.2 ⟨(x,u),m,rfl⟩);have g:Maps.has (.map es) (C.lit x)=true:=Cr.2 ⟨_,hm,Cj j⟩;have i:=h.EJ m;rw[g,i];have n:(DataW.map es).atKey (C.lit x) (.held z)=.held u:=by
   unfold DataW.atKey;simp only;cases f:es.find? (λp=>p.1.sameKey (C.lit x))with
   | none=>exact absurd (Cw.1 f _ hm) (by simpa using WideAt.sameKey_self j)
   | some p=>
    have s:=find?_some f;obtain⟨q,a,rfl⟩:=gO.1 (h2.mem_iff.1 (CB f));have o:=mS.Bm K (h.ok q a) ak (Hk s);have c:=h.EJ a;rw[o,i]at c;simp only[jn]at c;simp[c]
  exact Ru
 have l:∀ p∈es,p.1.sameKey (C.lit x)=false:=λp ao=>by
  obtain⟨q,a,rfl⟩:=gO.1 (h2.mem_iff.1 ao);refine sameKey_ne λe=>d ⟨q.2,?_⟩
  have:=mS.Bm K (h.ok q a) ak e
  rw[<-this];exact a
 have g:Maps.has (.map es) (C.lit x)=false:=by
  rw[Maps.has_eq,Cq];exact λp ao=>by simp[l p ao]
 have n:(DataW.map es).atKey (C.lit x) (.held z)=.held z:=by
  unfold DataW.atKey;simp only;rw[Cw.2 (λp ao=>by simp[l p ao])]
 have r:je M x=none:=by
  unfold je;rw[Cw.2 (λp ao=>by
   simp only[hf];intro e;exact d ⟨p.2,by rw[<-e];exact ao⟩)]
  rfl
 rw[g,r];exact Ru
def Le[DecidableEq ei](K:Keyed P k)(h:gv w C b M){x:ei}(ak:C.ok x){es:ai (Lit×DataW Value)}(h2:es.Perm (M.map λp=>(C.lit p.1,DataW.held p.2))):(es.filter (ChangeMaps.notKey (C.lit x))).Perm ((mj M x).map λp=>(C.lit p.1,DataW.held p.2)):=by
 have a:=h2.filter (ChangeMaps.notKey (C.lit x));rw[tc]at a;have e:M.filter (ChangeMaps.notKey (C.lit x) ∘ λp=>(C.lit p.1,(DataW.held p.2:DataW Value)))=M.filter λp=>!decide (p.1=x):=by
  refine zl λp ao=>?_;show(!(C.lit p.1).sameKey (C.lit x))=!decide (p.1=x);by_cases e:p.1=x
  .rw[e,Cj (K.key (C.law x ak))];simp
  rw[sameKey_ne (λc=>e (mS.Bm K (h.ok p ao) ak c))];simp[e]
 rwa [e]at a
theorem drop[DecidableEq ei](K:Keyed P k)(h:gv w C b M){x:ei}(ak:C.ok x)(aW:P.underlying t=some (.map k e))(ty:TypeId):∃ w',(Builtin.delete_ #[t,k] ty #[.map (some b),C.enc x]).run P w=.ok (aV #[]) w'/\gv w' C b (mj M x)/\ag (λj=>j=b) w w':=by
 have⟨es,h1,h2⟩:=h.own;have⟨w',hrun,ar,hk⟩:=h1.drop K aW (C.law x ak) ty;have ao:=h.Le K ak h2;refine⟨w',hrun,⟨⟨_,?_,ao⟩,λp c=>h.ok p (hN.1 c).1,h.q_.filter _⟩,Nd hk⟩
 have:=tight ar
 rw[DataW.del_eq]at this;have a:(mj M x).length=(ChangeMaps.delKey (C.lit x) es).length:=by have:=ao.length_eq;simpa[ChangeMaps.delKey]using this.symm
 rw[a];exact this
theorem store[DecidableEq ei](K:Keyed P k)(h:gv w C b M){x:ei}(ak:C.ok x)(aW:P.underlying t=some (.map k e))(aw:M.length<maxLen)(v:ay):∃ w',(Instr.mapUpdate t (.map (some b)) (C.enc x) v).run P w=.ok () w'/\gv w' C b (nm M x v)/\ag (λj=>j=b) w w':=by
 obtain⟨es,h1,h2⟩:=h.own;obtain⟨w',hrun,ar,hk⟩:=h1.store K aW aw (val:=v) (d:=.held v) (ps:=[]) (C.law x ak) rfl;have ao:=h.Le K ak h2;have a:(ChangeMaps.putKey (C.lit x) (DataW.held v) es).Perm ((nm M x v).map λp=>(C.lit p.1,DataW.held p.2)):=by
  unfold ChangeMaps.putKey nm;rw[k3];refine(WideShapes.insert_perm _ _).trans ?_;refine(Perm.cons _ ao).trans ?_;exact(perm_append_singleton _ _).symm
 refine⟨w',hrun,⟨⟨_,?_,a⟩,λp a=>?_,?_⟩,Nd hk⟩
 .have:=tight ar
  rw[DataW.put_eq]at this;have c:(nm M x v).length=(ChangeMaps.putKey (C.lit x) (DataW.held v) es).length:=by have:=a.length_eq;simpa using this.symm
  rw[c];exact this
 .rcases gd.1 a with a|a
  .exact h.ok p (hN.1 a).1
  simp at a;subst a;exact ak
 refine tg.2 ⟨h.q_.filter _,HG _ _,λp ao q a=>?_⟩;simp at a;subst a
 have:=(hN.1 ao).2
 simpa using this
theorem len(h:gv w C b M)(aW:P.underlying t=some (.map k e))(ty:TypeId):(Builtin.len_ #[t] ty #[.map (some b)]).run P w=.ok (aa M.length) w:=by
 have⟨es,h1,h2⟩:=h.own
 have:=h1.len aW ty
 rw[Maps.size_eq,h2.length_eq,iP]at this;exact this
end gv
end
def sO:Keyed prog 43:=Keyed.of_law (deep_law_gate bc (r8 bc) (r8 bc) bc bc)
def wu:Keyed prog 3:=int_keyed underlying3
def Mx(k:J)(n:U)(m:U)(hk:k<63)(hm:m=((2 ^ k-1:J):U)):bits .and .i64 n m=n%((2 ^ k:J):U):=by
 have b:2 ^ k<=2 ^ 62:=tl I I;have h1:(BitVec.ofInt 64 m).toNat=2 ^ k-1:=by
  rw[hm,Qo]
  have:((2 ^ 64:J):U)=18446744073709551616:=bs
  omega
 have key:(BitVec.ofInt 64 n &&& BitVec.ofInt 64 m).toNat=(n%((2 ^ 64:J):U)).toNat%2 ^ k:=by
  rw[BitVec.toNat_and,h1,Qo,Nat.and_two_pow_sub_one_eq_mod]
 show IntKind.i64.wrap ((BitVec.ofInt 64 n &&& BitVec.ofInt 64 m).toNat:J)=_;rw[key,Hf];have hd:((2 ^ k:J):U) ∣ ((2 ^ 64:J):U):=by
  refine⟨((2 ^ (64-k):J):U),?_⟩;rw[<-HA,<-Nat.pow_add]
  congr 2
  omega
 have a:(((n%((2 ^ 64:J):U)).toNat%2 ^ k:J):U)=n%((2 ^ k:J):U):=by
  rw[Int.natCast_emod,Int.toNat_of_nonneg (zj _ bs),Int.emod_emod_of_dvd _ hd]
 rw[a];omega
def D'(n:U):bits .and .i64 n 65535=n%65536:=Mx 16 n 65535 I bs
def Xs(n:U):bits .and .i64 n 32767=n%32768:=Mx 15 n 32767 I bs
def kV(b:U):U:=
 let a:=b%65536
 let x:=a%32768
 let p:=x*(32768-x)
 let n:=gU ((p*1048576).tdiv (5368709120-4*p))
 if 32768<=a then nO n else n
def sG(a:U):U:=kV (a%65536+16384)
def BY(a:U):aZ (kV a):=by
 unfold kV;simp only;split<;>exact gE _
def Gt{x:U}(a:0<=x)(h1:x<32768):0<=x*(32768-x)/\x*(32768-x)<=268435456:=by
 obtain⟨n,rfl⟩:=mJ a;refine⟨Hy a I,?_⟩;have h2:((n:U)-16384)*((n:U)-16384) >= 0:=by
  rcases Hv ((n:U)-16384) 0 with h|h
  .exact Qz h h
  exact Hy h h
 have b:((n:U)-16384)*((n:U)-16384)=(n:U)*n-32768*n+268435456:=by
  rw[Int.sub_mul,Hz,Hz];omega
 have c:(n:U)*(32768-(n:U))=32768*n-(n:U)*n:=by
  rw[Hz,Int.mul_comm]
 omega
def Py(b:U)(w:aj):aB 373 #[aa b] w λe w'=>e=af (kV b)/\w=w':=by
 have g:=D' b;unfold kV;simp only;generalize b%65536=a at *;have h1:=Xs a;have c:0<=a%32768/\a%32768<32768:=I;generalize a%32768=x at *;have ao:=Gt c.1 c.2;have d:IntKind.i64.wrap (5368709120-4*(x*(32768-x)))=5368709120-4*(x*(32768-x)):=e0 _ I;have hne:¬ 5368709120-4*(x*(32768-x))=0:=I;have al:((x*(32768-x)*1048576).tdiv (5368709120-4*(x*(32768-x)))).natAbs<=(x*(32768-x)*1048576).natAbs:=by rw[Int.natAbs_tdiv];exact HK _ _
 have f:IntKind.i64.wrap ((x*(32768-x)*1048576).tdiv (5368709120-4*(x*(32768-x))))=(x*(32768-x)*1048576).tdiv (5368709120-4*(x*(32768-x))):=e0 _ I;by_cases an:32768<=a
 .rw[aD an];refine cg;refine bJ (sN _ _) ?_;refine aK;refine bJ (LX _ (gE _) _) ?_;exact iZ
 rw[az an];refine cg;refine bJ (sN _ _) ?_;exact tA
def ah3(b:U)(w:aj):aB 372 #[aa b] w λe w'=>e=af (sG b)/\w=w':=by
 have d:=D' b;have c:IntKind.i64.wrap (b%65536+16384)=b%65536+16384:=e0 _ I;unfold sG;generalize b%65536=a at *;refine cg;refine bJ (Py (a+16384) w) ?_;exact iZ
def rb{a:U}(bg:aZ a):0<=a*a/\a*a<=4611686018427387904:=by
 have h:=EK bg bg;refine⟨?_,h.2⟩;rcases Hv a 0 with h|h
 .exact Qz h h
 exact Hy h h
def y5(a:U)(bg:aZ a)(w:aj):aB 280 #[af a] w λe w'=>e=.returned (.int .u64 (a*a))/\w=w':=by
 have h:=rb bg;have b:=wq bg;exact er
def jj(x y r:U):aY:=decide (0<=r)&&decide (x*x+y*y<=r*r)
def ah4(x y r:U)(ak:aZ x)(a8:aZ y)(b:aZ r)(w:aj):aB 365 #[af x,af y,af r] w λe w'=>e=.returned (.bool (jj x y r))/\w=w':=by
 have h1:=rb ak;have h2:=rb a8;by_cases h:0<=r
 .by_cases a:x*x+y*y<=r*r
  .rw[show jj x y r=true by simp[jj,h,a]];exact V4
  rw[show jj x y r=false by simp[jj];omega];exact V4
 rw[show jj x y r=false by simp[jj];omega]
 go_in
 exact tA
def ab':Go.Shelf.Ren:=⟨fun|129=>188|n=>n,fun|3=>3|4=>4|5=>5|9=>9|46=>227|53=>217|n=>n,fun|n=>n⟩
def ab_:Lays.n129 prog ab':={
 mixed:=bc
 f129:=func188.trans (c6 some bc)
 t3:=underlying3
 a3:=isAgg3
 z3:=sizeOf3
 v3:=zeroValue3
 t4:=underlying4
 a4:=isAgg4
 z4:=sizeOf4
 v4:=zeroValue4
 t5:=underlying5
 a5:=isAgg5
 z5:=sizeOf5
 v5:=zeroValue5
 t9:=underlying9
 a9:=isAgg9
 z9:=sizeOf9
 v9:=zeroValue9
 t46:=underlying227
 a46:=isAgg227
 z46:=sizeOf227
 v46:=zeroValue227
 t53:=underlying217
 a53:=isAgg217
 z53:=sizeOf217
 v53:=zeroValue217}
def ada:Go.Shelf.Ren:=⟨fun|264=>320|n=>n,fun|46=>227|53=>217|n=>n,fun|n=>n⟩
def ac':Lays.n264 prog ada:={
 mixed:=bc
 f264:=func320.trans (c6 some bc)
 t46:=underlying227
 a46:=isAgg227
 z46:=sizeOf227
 v46:=zeroValue227
 t53:=underlying217
 a53:=isAgg217
 z53:=sizeOf217
 v53:=zeroValue217}
theorem KH(x:J)(h:x<18446744073709551616)(w:aj):aB 188 #[.int .u64 x] w λe w'=>e=aa (Lib.bitLen x)/\w=w':=
 (Any.bits_Len64 ab_ x w I I).mono λ_ _ h=>⟨by rw[h.1];simp,h.2.symm⟩
theorem X3(x y:J)(ak:x<18446744073709551616)(a8:y<18446744073709551616)(w:aj):aB 320 #[.int .u64 x,.int .u64 y] w λe w'=>e=aV #[.int .u64 ((x*y / 18446744073709551616:J):U),.int .u64 ((x*y%18446744073709551616:J):U)]/\w=w':=
 (Any.bits_Mul64 ac' x y ak a8 w).mono λ_ _ h=>⟨h.1,h.2.symm⟩
def lr:J->J->J->J
 | 0,r,_=>r
 | k+1,r,n=>if (r+2 ^ k)*(r+2 ^ k)<=n then lr k (r+2 ^ k) n else lr k r n
def kx(n:J):J:=lr (Lib.bitLen n / 2+1) 0 n
theorem KC:∀ (f x:J),x<2 ^ f->x<2 ^ Lib.bitLenAux f x
 | 0,x,h=>by simpa[Lib.bitLenAux]using h
 | f+1,x,h=>by
  unfold Lib.bitLenAux;split
  .rename_i a;subst a;simp
  have:=KC f (x / 2) (by rw[n']at h;omega)
  rw[r4,n'];omega
theorem bitLenAux_le:∀ (f x:J),Lib.bitLenAux f x<=f
 | 0,x=>by simp[Lib.bitLenAux]
 | f+1,x=>by
  unfold Lib.bitLenAux;split
  .omega
  have:=bitLenAux_le f (x / 2)
  omega
theorem F6:∀ (k r n:J),r*r<=n->n<(r+2 ^ k)*(r+2 ^ k)->lr k r n*lr k r n<=n/\n<(lr k r n+1)*(lr k r n+1)
 | 0,r,n,h1,h2=>⟨h1,by rw[Nat.pow_zero]at h2;exact h2⟩
 | k+1,r,n,h1,h2=>by
  unfold lr;split
  .rename_i h;refine F6 k _ n h ?_;rw[n']at h2;rw[show r+2 ^ k+2 ^ k=r+2 ^ k*2 by omega];exact h2
  exact F6 k r n h1 I
def On(n:J)(aw:n<18446744073709551616):kx n*kx n<=n/\n<(kx n+1)*(kx n+1):=by
 refine F6 _ 0 n I ?_;rw[gM,<-Nat.pow_add];refine o2 (KC 64 n tv) (tl I ?_);show Lib.bitLen n<=_;omega
def Oo(n:J)(aw:n<=9223372036854775808):kx n<4294967296:=by
 have h:=(On n I).1;by_cases e:kx n<4294967296
 .exact e
 have:4294967296*4294967296<=kx n*kx n:=zt I I
 omega
def vP(k:J):J:=if k=0 then 0 else 2 ^ (k-1)
structure x2(n K k r:J):ae where
 go:lr k r n=lr (K+1) 0 n
 mod:r%2 ^ k=0
 le:r+2 ^ k<=2 ^ (K+1)
def ad_(h:K<=32):2 ^ (K+1)<=8589934592:=cu (tl I (show K+1<=33 by omega)) bs
def afv{n j r:J}(h:x2 n K (j+1) r):(if (r+2 ^ j)*(r+2 ^ j)<=n then x2 n K j (r+2 ^ j)else x2 n K j r):=by
 have⟨h1,h2,b⟩:=h;have hm:r%2 ^ j=0:=by
  have:2 ^ j ∣ 2 ^ (j+1):=⟨2,(n' 2 j)⟩
  exact Nat.mod_eq_zero_of_dvd (Nat.dvd_trans this (Nat.dvd_of_mod_eq_zero h2))
 rw[show lr (j+1) r n=if (r+2 ^ j)*(r+2 ^ j)<=n then lr j (r+2 ^ j) n else lr j r n from rfl]at h1;split
 .rename_i c;have a:lr j (r+2 ^ j) n=lr (K+1) 0 n:=by rw[<-h1,aD c]
  exact⟨a,by rw[Nat.add_mod_right];exact hm,I⟩
 rename_i c;have a:lr j r n=lr (K+1) 0 n:=by rw[<-h1,az c]
 exact⟨a,hm,I⟩
def ah5(n:J)(aw:n<18446744073709551616)(w:aj):aB 279 #[.int .u64 n] w λe w'=>e=.returned (.int .u64 (kx n))/\w=w':=by
 have al:Lib.bitLen n<=64:=bitLenAux_le 64 n;have a:=KH n aw;unfold kx;generalize Lib.bitLen n=b at *;obtain⟨K,gf,u⟩:∃ K,b / 2=K/\K<=32:=⟨b / 2,rfl,I⟩;rw[gf];have A:=ad_ u;have L:=(n' 2 K).symm;have B:IntKind.u64.wrap (1*2 ^ (K:U).toNat)=((2 ^ K:J):U):=by
  rw[Int.one_mul,rY,show((2:U) ^ K)=((2 ^ K:J):U)by simp,qN];omega
 have hk:IntKind.u64.wrap (2 ^ K)=((2 ^ K:J):U):=by
  rw[show((2:U) ^ K)=((2 ^ K:J):U)by simp,qN];omega
 have c:x2 n K (K+1) 0:=⟨rfl,aM,I⟩;refine z6;refine bJ (m.o w) ?_;simp only;refine aK;refine ob;clear gf hk B;go_loopg [3,4] (K+1) (λg v p wr=>∃ k r:J,g=k/\v=.int .u64 r/\p=.int .u64 (vP k)/\x2 n K k r/\w=wr)
 case atStart=>exact⟨K+1,0,rfl,rfl,by rw[g'.o,lb.o];simp[vP],c,rfl⟩
 obtain⟨k,r,a7,rfl,rfl,ax,rfl⟩:=hrel;cases k with
 | zero=>
  simp only[vP,if_true];have h:=ad ax.go;refine aK;go_ret;exact⟨by rw[<-h.o];rfl,rfl⟩
 | succ j=>
  have d:=afv ax;have y:=ax.le;have M:=n' 2 j;have N:0<2 ^ j:=Nat.pos_of_ne_zero aM;simp only[vP,Nat.add_eq_zero_iff,Nat.one_ne_zero,and_false,if_false,HJ];have H:bits .or .u64 (r:U) ((2 ^ j:J):U)=((r+2 ^ j:J):U):=by
   have G:r+2 ^ (j+1)<=8589934592:=cu y A;refine(bits_join .u64 64 bs (λn c h1=>?_) (j+1) (r:U) ((2 ^ j:J):U) I ?_ ?_ I ?_ ?_).trans I
   .rw[qN];exact IY
   .have:=c6 (λz:J=>(z:U)) ax.mod
    exact mO
   .exact IY
   .have:(2:U) ^ (j+1)=((2 ^ (j+1):J):U):=aM
    rw[this];omega
   exact IY
  have f:r+2 ^ j<18446744073709551616:=I;have q:((2 ^ j:J):U) / 2=(vP j:U):=by
   unfold vP;cases j with
   | zero=>decide
   | succ i=>rw[if_neg b4,HJ,n'];omega
  have b5:=ad (X3 (r+2 ^ j) (r+2 ^ j) f f);generalize P:2 ^ j=c4 at *;have F:(0:U)<((c4:J):U):=I;by_cases an:(r+c4)*(r+c4)<=n
  .rw[aD an]at d;have s:(r+c4)*(r+c4) / 18446744073709551616=0:=Nat.div_eq_of_lt I;refine VY;rw[s,l]at b5;have x:(((r+c4)*(r+c4):J):U)<=(n:U):=I;generalize (r+c4)*(r+c4)=C at *;generalize r+c4=eZ at *;refine tC;refine bJ (b5.o _) ?_;simp only;refine aK;go_roundg j
   case rel=>exact⟨j,eZ,rfl,rfl,by rw[<-q],D.o,rfl⟩
   omega
  rw[az an]at d;have D:=ad d;by_cases t:(r+c4)*(r+c4) / 18446744073709551616=0
  .refine VY;rw[t,l]at b5;have x:¬ (((r+c4)*(r+c4):J):U)<=(n:U):=I;exact WU
  generalize (r+c4)*(r+c4) / 18446744073709551616=av at *;generalize (r+c4)*(r+c4)%18446744073709551616=bt at *;have E:((av:U) == 0)=false:=by rw[ep];omega
  exact WU
def mw(x y:U):U:=gU (kx (x*x+y*y).toNat)
def GF(x y:U)(ak:aZ x)(a8:aZ y)(w:aj):aB 212 #[af x,af y] w λe w'=>e=af (mw x y)/\w=w':=by
 have h1:=rb ak;have h2:=rb a8;have c:IntKind.u64.wrap (x*x+y*y)=x*x+y*y:=by rw[qN];omega
 have⟨n,C⟩:=mJ (show 0<=x*x+y*y by omega);have d:n<=9223372036854775808:=I;have b:=ah5 n I;have g:=Oo n d;unfold mw;rw[C]at c⊢;rw[rY];generalize kx n=r at *;have f:IntKind.i64.wrap (r:U)=(r:U):=e0 _ I;have a:=ad b;refine dU;clear b;refine cg;refine(y5 x ak w).mono ?_;refine tB;refine(y5 y a8 w).mono ?_;refine To;refine aK;refine(sN r w).mono ?_;refine mN;exact tA
def MW(x y:U):aZ (mw x y):=gE _
def rP(x y s:U):U:=if mw x y=0 then 0 else lK (dE x s) (mw x y)
def rQ(x y s:U):U:=if mw x y=0 then 0 else lK (dE y s) (mw x y)
def Lg(a b:U):aZ (lK a b):=by
 unfold lK;split
 .exact gE _
 split
 .unfold aZ;omega
 split<;>(unfold aZ;omega)
def ah6(x y s:U)(ak:aZ x)(a8:aZ y)(aA:aZ s)(w:aj):aB 384 #[af x,af y,af s] w λe w'=>e=aV #[af (rP x y s),af (rQ x y s)]/\w=w':=by
 have C:=GF x y ak a8;have a:=MW x y;unfold rP rQ;generalize mw x y=l at *;refine tE;by_cases h:l=0
 focus
  rw[aD h,aD h];subst h
 rotate_left
 focus
  rw[az h,az h];have b:((l:U) == 0)=false:=by rw[ep];exact h
 rotate_left
 all_goals
  go_in
  go_wp2_with fail;refine bJ (D.o w) ?_;simp only;go_wp2_with fail
 .exact qX
 refine(yi x s ak aA w).mono ?_;refine tB;refine(LW (dE x s) l (gE _) a w).mono ?_;refine tB;refine(yi y s a8 aA w).mono ?_;refine tB;refine(LW (dE y s) l (gE _) a w).mono ?_;refine tB;exact qX
def ag3(a b c d x y:U)(h1:∀ w,aB 278 #[af a,af c] w λe w'=>e=af x/\w=w')(h2:∀ w,aB 278 #[af b,af d] w λe w'=>e=af y/\w=w')(w:aj):aB 277 #[aG #[af a,af b],aG #[af c,af d],.func (.func 278) #[] #[]] w λe w'=>e=aG #[af x,af y]/\Below w w w':=by
 go_in
 go_wp2_with fail;refine jE 13 bc bc ?_;simp only[lC,mL,lz,k2]
 repeat (go_big_quiet_step ((first|(with_reducible exact(h1 _).mono λ_ _ h=>⟨h.1,_,h.2.symm⟩)|(with_reducible exact(h2 _).mono λ_ _ h=>⟨h.1,_,h.2.symm⟩))))
 refine wpQuiet_nil ?_;intro _ g;obtain⟨nq,i⟩:=g;subst i;go_wp2_with fail;refine dH (v:=aG #[af x,af y]) zy rfl ?_;have f:=(((b9 w w).alloc bu (ab #[af a,af b] 91)).alloc aM (ab #[af c,af d] 91)).alloc b_ (ab cH 91);refine⟨rfl,k1 (k1 ?_ ?_ _) ?_ _⟩
 .exact vo
 all_goals show w<=w.heap.size+1+1
 all_goals omega
def ag5(a b c d x y:U)(h1:∀ w,aB 281 #[af a,af c] w λe w'=>e=af x/\w=w')(h2:∀ w,aB 281 #[af b,af d] w λe w'=>e=af y/\w=w')(w:aj):aB 277 #[aG #[af a,af b],aG #[af c,af d],.func (.func 281) #[] #[]] w λe w'=>e=aG #[af x,af y]/\Below w w w':=by
 go_in
 go_wp2_with fail;refine jE 13 bc bc ?_;simp only[lC,mL,lz,k2]
 repeat (go_big_quiet_step ((first|(with_reducible exact(h1 _).mono λ_ _ h=>⟨h.1,_,h.2.symm⟩)|(with_reducible exact(h2 _).mono λ_ _ h=>⟨h.1,_,h.2.symm⟩))))
 refine wpQuiet_nil ?_;intro _ g;obtain⟨nq,i⟩:=g;subst i;go_wp2_with fail;refine dH (v:=aG #[af x,af y]) zy rfl ?_;have f:=(((b9 w w).alloc bu (ab #[af a,af b] 91)).alloc aM (ab #[af c,af d] 91)).alloc b_ (ab cH 91);refine⟨rfl,k1 (k1 ?_ ?_ _) ?_ _⟩
 .exact vo
 all_goals show w<=w.heap.size+1+1
 all_goals omega
def ag4(a b c d x y:U)(h1:∀ w,aB 371 #[af a,af c] w λe w'=>e=af x/\w=w')(h2:∀ w,aB 371 #[af b,af d] w λe w'=>e=af y/\w=w')(w:aj):aB 277 #[aG #[af a,af b],aG #[af c,af d],.func (.func 371) #[] #[]] w λe w'=>e=aG #[af x,af y]/\Below w w w':=by
 go_in
 go_wp2_with fail;refine jE 13 bc bc ?_;simp only[lC,mL,lz,k2]
 repeat (go_big_quiet_step ((first|(with_reducible exact(h1 _).mono λ_ _ h=>⟨h.1,_,h.2.symm⟩)|(with_reducible exact(h2 _).mono λ_ _ h=>⟨h.1,_,h.2.symm⟩))))
 refine wpQuiet_nil ?_;intro _ g;obtain⟨nq,i⟩:=g;subst i;go_wp2_with fail;refine dH (v:=aG #[af x,af y]) zy rfl ?_;have f:=(((b9 w w).alloc bu (ab #[af a,af b] 91)).alloc aM (ab #[af c,af d] 91)).alloc b_ (ab cH 91);refine⟨rfl,k1 (k1 ?_ ?_ _) ?_ _⟩
 .exact vo
 all_goals show w<=w.heap.size+1+1
 all_goals omega
def kJ{w:aj}{b:J}{x y:ay}(a:w.heap[b]?=ab #[x,y] t (0,0)):(loadCellsFrom (ah b 0) 0 2 #[]).run prog w=.ok #[x,y] w:=by
 have h:=zh (P:=prog) w (ah b 0) [x,y] (λj v d=>by
  rw[iB,gM];exact bb a xq)
 simpa[loadCells]using h
def jq{w:aj}{b:J}{u:ay}(h:w.heap[b]?=ab #[u,v] t (0,0))(x y:ay):((w.setCell (ah b 0) x).setCell (ah b 1) y).heap[b]?=ab #[x,y] t (0,0):=by
 have:=bX (bX h 0 x) 1 y
 exact mO
def wW(a b c d:U)(bg:aZ a)(al:aZ b)(an:aZ c)(hd:aZ d)(w:aj):aB 211 #[aG #[af a,af b],aG #[af c,af d]] w λe w'=>e=aG #[af (cY a c),af (cY b d)]/\Below w w w':=by
 have h:=ag3 a b c d (cY a c) (cY b d) (λw=>AW a c bg an w) (λw=>AW b d al hd w);generalize cY a c=x at *;generalize cY b d=y at *;have i:=ad h;clear h
 go_in
 go_wp2_with fail;refine aS (i.o _) λaq h1=>?_;have f:aq.heap[w.heap.size+1+1]?=ab cH 91 (0,0):=(ag.bU (S:=aH) h1 a1).heap QY id;have j:Below w w aq:=((((b9 w w).alloc bu (ab #[af a,af b] 91)).alloc aM (ab #[af c,af d] 91)).alloc b_ (ab cH 91)).trans (h1.mono b_);have dq:=aX f;have g0:=bV f;clear h1;go_wp2;have g:=kJ (jq f (af x) (af y));refine dH (v:=aG #[af x,af y]) QJ rfl ?_;exact⟨rfl,(j.setCell CQ _).setCell CQ _⟩
def Gq(a b c d:U)(bg:aZ a)(al:aZ b)(an:aZ c)(hd:aZ d)(w:aj):aB 213 #[aG #[af a,af b],aG #[af c,af d]] w λe w'=>e=aG #[af (d_ a c),af (d_ b d)]/\Below w w w':=by
 have h:=ag5 a b c d (d_ a c) (d_ b d) (λw=>EO a c bg an w) (λw=>EO b d al hd w);generalize d_ a c=x at *;generalize d_ b d=y at *;have i:=ad h;clear h
 go_in
 go_wp2_with fail;refine aS (i.o _) λaq h1=>?_;have f:aq.heap[w.heap.size+1+1]?=ab cH 91 (0,0):=(ag.bU (S:=aH) h1 a1).heap QY id;have j:Below w w aq:=((((b9 w w).alloc bu (ab #[af a,af b] 91)).alloc aM (ab #[af c,af d] 91)).alloc b_ (ab cH 91)).trans (h1.mono b_);have dq:=aX f;have g0:=bV f;clear h1;go_wp2;have g:=kJ (jq f (af x) (af y));refine dH (v:=aG #[af x,af y]) QK rfl ?_;exact⟨rfl,(j.setCell CQ _).setCell CQ _⟩
def Gp(a b s:U)(bg:aZ a)(al:aZ b)(aA:aZ s)(w:aj):aB 361 #[aG #[af a,af b],af s] w λe w'=>e=aG #[af (dE a s),af (dE b s)]/\Below w w w':=by
 have d:=ag4 a b s s (dE a s) (dE b s) (λw=>yi a s bg aA w) (λw=>yi b s al aA w);generalize dE a s=x at *;generalize dE b s=y at *;have f:=ad d;clear d
 go_in
 go_wp2_with fail;refine aS (f.o _) λaq h1=>?_;have c:aq.heap[w.heap.size+1]?=ab cH 91 (0,0):=(ag.bU (S:=aH) h1 a1).heap (by have:=aP (w.alloc (ab #[af a,af b] 91)) (ab cH 91);simpa using this) id;have g:Below w w aq:=(((b9 w w).alloc bu (ab #[af a,af b] 91)).alloc aM (ab cH 91)).trans (h1.mono b_);have dq:=aX c;have g0:=bV c;clear h1;go_wp2;have h:=kJ (jq c (af x) (af y));refine dH (v:=aG #[af x,af y]) (by simp[results,results361,asAddr,loadVar,loadCells,isAgg91,sizeOf91,h]) rfl ?_;exact⟨rfl,(g.setCell tq _).setCell tq _⟩
def fI(p v bt av kI iA:U):U×U×U:=
 let q:=cY p v
 let a:=dE (nO v) 32768
 if q<bt then(bt,a,kI)else if av<q then(av,a,iA)else(q,v,0)
def O'(p v bt av kI iA:U)(ao:aZ p)(a_:aZ v)(w:aj):aB 376 #[af p,af v,af bt,af av,aa kI,aa iA] w λe w'=>e=aV #[af (fI p v bt av kI iA).1,af (fI p v bt av kI iA).2.1,aa (fI p v bt av kI iA).2.2]/\w=w':=by
 have c:=AW p v ao a_;have f:=LX v a_;have d:=yi (nO v) 32768 (gE _) eN;unfold fI;simp only;generalize nO v=g at *;generalize dE g 32768=XT at *;generalize cY p v=q at *;have b:=ad c;have a:=ad f;have b5:=ad d;clear c f d;by_cases h1:q<bt
 .simp only[aD h1];refine cg;refine(b.o w).mono ?_;refine To;refine aK;refine(b5.o w).mono ?_;refine mN;go_wp2;go_ret3;exact o9
 simp only[az h1];by_cases h2:av<q
 focus
  simp only[aD h2]
 rotate_left
 focus
  simp only[az h2]
 rotate_left
 all_goals
  go_in
  go_wp2_with fail;refine bJ (b.o w) ?_;go_wp2_with fail;refine bJ (a.o w) ?_;go_wp2_with fail;refine bJ (b5.o w) ?_;go_wp2;go_ret3;exact⟨rfl,rfl⟩
section
def aC.core(b:hs)(x:cO):aC where
 S:=b.S
 P w:=c5 w b x
 lt h al:=h.lt al
 frame h hk aA:=h.keeps hk aA
def aC.link(B:j3)(l:cj):aC where
 S:=B.S
 P w:=cW w B l
 lt h al:=by
  have:=h.lt
  rcases al with e|e|e|e|e<;>omega
 frame h hk aA:=h.keeps hk aA
structure Xf where
 p:J
 c:hs
 L:j3
 ld:J
 dM:J
 iq:J
 gT:J
 e7:J
 e6:J
 dZ:J
 wt:J
structure Xe where
 x:cO
 aJ:cj
 most:U
 aO:U
 MZ:aY
 ajP:J
 ajQ:U
 on:J
 D:DataW Unit
 wn:J
 W:DataW Unit
 cC:U
 cn:aY
 reason:U
namespace IsPeer
variable{w w':aj}{b:Xf}{s:Xe}
end IsPeer
end
section
open Go.Maps
variable{w w':aj}
def Zj(f:ay)(w:aj):aB 339 #[au none 0 0,f] w λe w'=>e=aa (-1)/\w=w':=by
 refine cg;go_loopg [8] 0 (λg i wr=>i=aa 0/\w=wr)
 case atStart=>exact⟨rfl,rfl⟩
 obtain⟨rfl,rfl⟩:=hrel;exact iZ
def Zh(f:ay)(w:aj):aB 316 #[au none 0 0,f] w λe w'=>e=.returned (.bool false)/\w=w':=by
 refine cg;refine bJ (Zj f _) ?_;exact iZ
attribute [local go_sem] Oper.semAt_some
end
section
open Go.Maps
attribute [local go_sem] Oper.semAt_some
variable{w w':aj}
def Zm(f:ay)(w:aj):aB 179 #[au none 0 0,aa 0,aa 0,f] w λe w'=>e=aV #[]/\w=w':=by
 refine cg;go_loopg [8] 0 (λg i wr=>i=aa 1/\w=wr)
 case atStart=>exact⟨rfl,rfl⟩
 obtain⟨rfl,rfl⟩:=hrel;go_wp2;go_end0;exact o9
def Zs(k:U)(f:ay)(w:aj):aB 121 #[au none 0 0,aa 0,aa 0,aa k,f] w λe w'=>e=aV #[]/\w=w':=by
 refine cg;go_loopg [1,2] 0 (λg a b wr=>a=aa 0/\b=aa 0/\w=wr)
 case atStart=>exact⟨rfl,rfl,rfl⟩
 obtain⟨rfl,rfl,rfl⟩:=hrel;refine aK;refine(Zm f _).mono ?_;refine mN;go_wp2;refine vn;exact o9
def X2(w:aj):aB 122 #[.int .u64 0] w λe w'=>e=aa 0/\w=w':=by
 have h:=ad (KH 0 I);refine cg;refine(h.o _).mono ?_;exact VF
def Zv(f:ay)(w:aj):aB 72 #[au none 0 0,f] w λe w'=>e=aV #[]/\w=w':=by
 refine cg;refine(X2 _).mono ?_;refine tB;refine(Zs _ f _).mono ?_;refine mN;go_wp2;go_end0;exact o9
end
variable{w:aj}
def wQ(n:U)(w:aj):aB 176 #[aa n] w λe w'=>e=af (gU n)/\w=w':=by
 by_cases h1:2147483647<n
 .rw[show gU n=2147483647 by unfold gU;omega];exact er
 by_cases h2:n < -2147483648
 .rw[show gU n=-2147483648 by unfold gU;omega];exact er
 have a:IntKind.i32.wrap n=n:=yn ⟨I,I⟩;rw[Ge ⟨I,I⟩];exact er
def Z0{a b:U}(al:0<b):(a-a%b).tdiv b=a / b:=by
 have h:=Qy a b;rw[show a-a%b=b*(a / b)by omega,Int.mul_tdiv_cancel_left _ b4]
def F2(a b:U)(bg:-4611686018427387904<=a/\a<=4611686018427387904)(al:0<b/\b<=2147483648)(w:aj):aB 117 #[aa a,aa b] w λe w'=>e=aa (a / b)/\w=w':=by
 have hm:=zj a (show b≠0 by omega);have g:=zi a al.1;have hne:¬ b=0:=I;have aW:a.tmod b=a%b\/a.tmod b=a%b-b/\¬ a%b=0:=by
  exact Sr
 have f:=Z0 (a:=a) al.1;have i:(a / b).natAbs<=a.natAbs:=by
  rcases Hv 0 a with h|h
  .have h1:=Int.ediv_nonneg h (show 0<=b by omega);have h2:=Int.ediv_le_self b h;omega
  have h1:a / b<=0:=Int.ediv_nonpos_of_nonpos_of_neg h b4;have h2:=Qy a b;by_cases d:a / b=0
  .omega
  have c:=Int.mul_le_mul_of_nonpos_right (show 1<=b by omega) (show a / b+1<=0 by omega);rw[Hw,Int.mul_one,Int.one_mul]at c;omega
 generalize a / b=q at *;generalize a%b=r at *;rcases aW with aW|⟨aW,j⟩
 .have d1:=cN I;exact er
 have d1:=dh I;exact er
def yR(a b:U)(bg:aZ a)(al:aZ b)(w:aj):aB 170 #[af a,af b] w λe w'=>e=af (dE a b)/\w=w':=by
 refine xQ;have hm:=EK bg al;have u:=ad (F2 (a*b) 65536 hm b4 w);refine IN;refine bJ ((wQ (a*b / 65536) w)) ?_;exact iZ
def ae1(n bt av:U)(w:aj):aB 116 #[aa n,aa bt,aa av] w λe w'=>e=aa (if n<bt then bt else if av<n then av else n)/\w=w':=by
 by_cases h1:n<bt
 .rw[aD h1];exact er
 rw[az h1];by_cases h2:av<n
 .rw[aD h2];exact er
 rw[az h2];exact er
def F1(a b:U)(bg:aZ a)(al:aZ b)(w:aj):aB 114 #[af a,af b] w λe w'=>e=af (cY a b)/\w=w':=by
 refine SM;refine bJ (wQ (a+b) w) ?_;exact iZ
def Oi(a b:U)(bg:aZ a)(al:aZ b)(w:aj):aB 175 #[af a,af b] w λe w'=>e=af (d_ a b)/\w=w':=by
 refine SO;refine bJ (wQ (a-b) w) ?_;exact iZ
def Ol(a:U)(bg:aZ a)(w:aj):aB 174 #[af a] w λe w'=>e=af (dE (nO a) 32768)/\w=w':=by
 have c:=wq bg;have d:IntKind.i64.wrap (-a)=-a:=by unfold aZ at bg;exact e0 _ I
 have b:nO a=gU (-a):=by unfold nO;rw[Int.zero_sub]
 rw[b];refine cg;refine bJ (wQ (-a) w) ?_;refine aK;refine bJ (yR _ _ (gE _) eN w) ?_;exact iZ
def ae9(s:U)(aA:0<=s/\s<=4294967295)(w:aj):aB 169 #[bz s] w λe w'=>e=bz (gJ s)/\w=w':=by
 have a:IntKind.u64.wrap (1664525*s)=s*1664525:=by rw[qN];omega
 exact er
def aff(s:U)(aA:0<=s/\s<=4294967295)(w:aj):aB 106 #[bz s,aa 4] w λe w'=>e=aV #[bz (gJ s),aa (gJ s / 65536*4 / 65536)]/\w=w':=by
 have aw:0<=gJ s/\gJ s<=4294967295:=by unfold gJ;omega
 have a:=ae9 s aA;generalize gJ s=x at *;refine cg;refine bJ (a w) ?_;go_wp2;exact qX
end Go.Proofs.YtalagblioepadaaGreatDoor
