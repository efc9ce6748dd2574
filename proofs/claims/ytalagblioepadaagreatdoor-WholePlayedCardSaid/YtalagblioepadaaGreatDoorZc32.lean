/- The proof, part 32. -/
import Derived.Test.YtalagblioepadaaGreatDoorZc31
import Derived.Test.YtalagblioepadaaGreatDoorZc29
namespace Go.Proofs.YtalagblioepadaaGreatDoor
set_option linter.all false
open Proofs.Tryz List Go.RowKit Go.Maps
set_option maxRecDepth 100000
section
variable{H:Type}{P:Program}{k:TypeId}{R:ax->b5 (DataW H×ah MemPlace)}{w w':ai}{b n:J}{D:DataW H}
def Tp{T:J->ak}(h:w.ownsMap P k R b n D)(hk:Keeps T w w')(aj:¬ T b):w'.ownsMap P k R b n D:=by
 have⟨es,a,h1,F,h2,c⟩:=h;exact⟨es,a,hk.heap h1 aj,F,h2,c⟩
def Ix(h:w.mapTurned w' b):Keeps (λj=>j=b) w w':=by
 have aZ:=h.grown;exact⟨aZ.os,aZ.tape,aZ.output,aZ.size,λj a av=>aZ.block j a (λe=>av (by cases e;rfl))⟩
variable{ops:a6 Oper}{rest:ah Oper}{o:Oper}{a:Act}{Q:Exit->Act->ai->ak}
def ow{t:TypeId}{m x:Operand}{c:aY}{mv key v:ax}(hrun:(Instr.lookup t mv key c).run P w=.ok v w')(aZ:o.guard=none)(d:o.op=.lookup t m x c)(hm:a.eval m=mv)(e:a.eval x=key)(h:wpList P ops Q rest (a.put o.dst v) w'):wpList P ops Q (o :: rest) a w:=by
 refine nz aZ λf b=>?_;unfold Oper.wp;simp only[execOp,d,hm,e,hG,hrun,hq,ig];exact b _ _ h
def Le{t:TypeId}{m x y:Operand}{mv key v:ax}(hrun:(Instr.mapUpdate t mv key v).run P w=.ok () w')(aZ:o.guard=none)(c:o.op=.mapUpdate t m x y)(hm:a.eval m=mv)(d:a.eval x=key)(e:a.eval y=v)(h:wpList P ops Q rest (a.put o.dst undef) w'):wpList P ops Q (o :: rest) a w:=by
 refine nz aZ λf b=>?_;unfold Oper.wp;simp only[execOp,c,hm,d,e,hG,hrun,hq,ig];exact b _ _ h
def De{t b:TypeId}{m x:Operand}{mv key:ax}(hrun:(Builtin.delete_ #[t,b] o.type #[mv,key]).run P w=.ok (aV #[]) w')(aZ:o.guard=none)(d:o.op=Op.call {callee:=Callee.builtin Builtin.delete,args:=#[m,x],argTypes:=#[t,b]})(hm:a.eval m=mv)(e:a.eval x=key)(h:wpList P ops Q rest (a.put o.dst (aV #[])) w'):wpList P ops Q (o :: rest) a w:=by
 refine nz aZ λf c=>?_;unfold Oper.wp;simp[execOp,d,resolve,invoke,builtin,hm,e,hrun,Result.andThen];exact c _ _ h
def Ld{t:TypeId}{m:Operand}{mv v:ax}(hrun:(Builtin.len_ #[t] o.type #[mv]).run P w=.ok v w')(aZ:o.guard=none)(c:o.op=Op.call {callee:=Callee.builtin Builtin.len,args:=#[m],argTypes:=#[t]})(hm:a.eval m=mv)(h:wpList P ops Q rest (a.put o.dst v) w'):wpList P ops Q (o :: rest) a w:=by
 refine nz aZ λd b=>?_;unfold Oper.wp;simp[execOp,c,resolve,invoke,builtin,hm,hrun,Result.andThen];exact b _ _ h
end
section
variable{P:Program}{k:TypeId}{w w':ai}
def oc(v:ax):b5 (DataW Value×ah MemPlace):=some (.held v,[])
structure lu(P:Program)(k:TypeId)(dz:Type) where
 enc:dz->ax
 lit:dz->Lit
 ok:dz->ak
 law:∀ x,ok x->keyOf P k (enc x)=some (lit x)
 inj:∀ a b,ok a->ok b->enc a=enc b->a=b
variable{dz:Type}{C:lu P k dz}
def lu.yw(K:Keyed P k){a b:dz}(bd:C.ok a)(aj:C.ok b)(h:C.lit a=C.lit b):a=b:=C.inj a b bd aj (K.inj (C.law a bd) (by rw[h];exact C.law b aj))
structure RMap(w:ai)(C:lu P k dz)(b:J)(M:ah (dz×ax)):ak where
 own:∃ es,w.ownsMap P k oc b M.length (.map es)/\es.Perm (M.map λp=>(C.lit p.1,DataW.held p.2))
 ok:∀ p∈M,C.ok p.1
 pN:M.Pairwise λp q=>p.1≠q.1
def h6[DecidableEq dz](M:ah (dz×ax))(x:dz):b5 ax:=(M.find? λp=>decide (p.1=x)).map Prod.snd
def kX[DecidableEq dz](M:ah (dz×ax))(x:dz):ah (dz×ax):=M.filter λp=>!decide (p.1=x)
def lR[DecidableEq dz](M:ah (dz×ax))(x:dz)(v:ax):ah (dz×ax):=kX M x++[(x,v)]
def tight{b n:J}{D:DataW Value}(h:w.ownsMap P k oc b n D):w.ownsMap P k oc b (Maps.size D) D:=by
 have⟨es,c,h1,h2,d,a⟩:=h;refine⟨es,c,h1,h2,?_,a⟩;rw[a];simp[Maps.size,length_sorted]
namespace RMap
variable{b:J}{M:ah (dz×ax)}
theorem lt(h:RMap w C b M):b<w.heap.size:=by have⟨es,h1,_⟩:=h.own;exact h1.lt
def keeps{T:J->ak}(h:RMap w C b M)(hk:Keeps T w w')(aj:¬ T b):RMap w' C b M:=by
 have⟨es,h1,h2⟩:=h.own;exact⟨⟨es,Tp h1 hk aj,h2⟩,h.ok,h.pN⟩
theorem perm{eK:ah (dz×ax)}(h:RMap w C b M)(au:M.Perm eK):RMap w C b eK:=by
 have⟨es,h1,h2⟩:=h.own;refine⟨⟨es,by rw[<-au.length_eq];exact h1,h2.trans (au.map _)⟩,λp a=>h.ok p (au.mem_iff.2 a),?_⟩;exact h.pN.perm au (λh=>hW h)
theorem made(w:ai)(P:Program)(k:TypeId)(C:lu P k dz):RMap (w.alloc (.map #[] 0)) C w.heap.size []:=
 ⟨⟨[],World.ownsMap_made w P k oc,zB _⟩,(λ_ h=>nomatch h),Pairwise.nil⟩
def A2[DecidableEq dz](h:RMap w C b M){p:dz×ax}(au:p∈M):h6 M p.1=some p.2:=by
 unfold h6;have hd:=h.pN;clear h
 induction M with
 | nil=>cases au
 | cons q l a=>
  obtain⟨h1,h2⟩:=jg.1 hd;rcases e6.1 au with rfl|au
  .simp
  have hne:=h1 p au;rw[find?_cons_of_neg (by simpa using hne)];exact a au h2
def look[DecidableEq dz](K:Keyed P k)(h:RMap w C b M){x:dz}(c:C.ok x){t e:TypeId}(aO:P.underlying t=some (.map k e)){z:ax}(A:∀ w,(zeroValue e).run P w=.ok z w):(Instr.lookup t (.map (some b)) (C.enc x) true).run P w=.ok (aV #[(h6 M x).getD z,.bool (h6 M x).isSome]) w:=by
 obtain⟨es,h1,h2⟩:=h.own;obtain⟨v,ps,hrun,aW⟩:=h1.look_ok K aO (A w) (zd:=.held z) (zp:=[]) rfl (C.law x c);simp only[oc,hr,jA]at aW;have m:=K.key (C.law x c);rw[hrun];by_cases g:∃ u,(x,u)∈M
 .obtain⟨u,o⟩:=g;have hm:=h2.mem_iff.2 (e3.2 ⟨(x,u),o,rfl⟩);have j:Maps.has (.map es) (C.lit x)=true:=wV.2 ⟨_,hm,zw m⟩;have l:=h.A2 o;rw[j,l];have f:(DataW.map es).atKey (C.lit x) (.held z)=.held u:=by
   unfold DataW.atKey;simp only;cases i:es.find? (λp=>p.1.sameKey (C.lit x))with
   | none=>exact absurd (zG.1 i _ hm) (by simpa using WideAt.sameKey_self m)
   | some p=>
    have y:=find?_some i;obtain⟨q,a,rfl⟩:=e3.1 (h2.mem_iff.1 (zJ i));have r:=lu.yw K (h.ok q a) c (Du y);have d:=h.A2 a;rw[r,l]at d;simp only[hr]at d;simp[d]
  rw[f]at aW;simp only[zt]at aW;rw[aW.1];rfl
 have n:∀ p∈es,p.1.sameKey (C.lit x)=false:=λp au=>by
  obtain⟨q,a,rfl⟩:=e3.1 (h2.mem_iff.1 au);refine sameKey_ne λe=>g ⟨q.2,?_⟩
  have:=lu.yw K (h.ok q a) c e
  rw[<-this];exact a
 have j:Maps.has (.map es) (C.lit x)=false:=by
  rw[Maps.has_eq,zC];exact λp au=>by simp[n p au]
 have f:(DataW.map es).atKey (C.lit x) (.held z)=.held z:=by
  unfold DataW.atKey;simp only;rw[zG.2 (λp au=>by simp[n p au])]
 have s:h6 M x=none:=by
  unfold h6;rw[zG.2 (λp au=>by
   simp only[fZ];intro e;exact g ⟨p.2,by rw[<-e];exact au⟩)]
  rfl
 rw[j,s];rw[f]at aW;simp only[zt]at aW;rw[aW.1];rfl
def Gs[DecidableEq dz](K:Keyed P k)(h:RMap w C b M){x:dz}(c:C.ok x){es:ah (Lit×DataW Value)}(h2:es.Perm (M.map λp=>(C.lit p.1,DataW.held p.2))):(es.filter (ChangeMaps.notKey (C.lit x))).Perm ((kX M x).map λp=>(C.lit p.1,DataW.held p.2)):=by
 have a:=h2.filter (ChangeMaps.notKey (C.lit x));rw[rv]at a;have e:M.filter (ChangeMaps.notKey (C.lit x) ∘ λp=>(C.lit p.1,(DataW.held p.2:DataW Value)))=M.filter λp=>!decide (p.1=x):=by
  refine wX λp au=>?_;show(!(C.lit p.1).sameKey (C.lit x))=!decide (p.1=x);by_cases e:p.1=x
  .rw[e,zw (K.key (C.law x c))];simp
  rw[sameKey_ne (λd=>e (lu.yw K (h.ok p au) c d))];simp[e]
 rwa [e]at a
theorem drop[DecidableEq dz](K:Keyed P k)(h:RMap w C b M){x:dz}(a:C.ok x){t e:TypeId}(aO:P.underlying t=some (.map k e))(ty:TypeId):∃ w',(Builtin.delete_ #[t,k] ty #[.map (some b),C.enc x]).run P w=.ok (aV #[]) w'/\RMap w' C b (kX M x)/\Keeps (λj=>j=b) w w':=by
 have⟨es,h1,h2⟩:=h.own;have⟨w',hrun,d,hk⟩:=h1.drop K aO (C.law x a) ty;have au:=h.Gs K a h2;refine⟨w',hrun,⟨⟨_,?_,au⟩,λp f=>h.ok p (eR.1 f).1,h.pN.filter _⟩,Ix hk⟩
 have:=tight d
 rw[DataW.del_eq]at this;have c:(kX M x).length=(ChangeMaps.delKey (C.lit x) es).length:=by have:=au.length_eq;simpa[ChangeMaps.delKey]using this.symm
 rw[c];exact this
theorem store[DecidableEq dz](K:Keyed P k)(h:RMap w C b M){x:dz}(c:C.ok x){t e:TypeId}(aO:P.underlying t=some (.map k e))(ar:M.length<maxLen)(v:ax):∃ w',(Instr.mapUpdate t (.map (some b)) (C.enc x) v).run P w=.ok () w'/\RMap w' C b (lR M x v)/\Keeps (λj=>j=b) w w':=by
 obtain⟨es,h1,h2⟩:=h.own;obtain⟨w',hrun,g,hk⟩:=h1.store K aO ar (val:=v) (d:=.held v) (ps:=[]) (C.law x c) rfl;have au:=h.Gs K c h2;have a:(ChangeMaps.putKey (C.lit x) (DataW.held v) es).Perm ((lR M x v).map λp=>(C.lit p.1,DataW.held p.2)):=by
  unfold ChangeMaps.putKey lR;rw[jy];refine(WideShapes.insert_perm _ _).trans ?_;refine(Perm.cons _ au).trans ?_;exact(perm_append_singleton _ _).symm
 refine⟨w',hrun,⟨⟨_,?_,a⟩,λp a=>?_,?_⟩,Ix hk⟩
 .have:=tight g
  rw[DataW.put_eq]at this;have f:(lR M x v).length=(ChangeMaps.putKey (C.lit x) (DataW.held v) es).length:=by have:=a.length_eq;simpa using this.symm
  rw[f];exact this
 .rcases e5.1 a with a|a
  .exact h.ok p (eR.1 a).1
  simp at a;subst a;exact c
 refine pq.2 ⟨h.pN.filter _,DQ _ _,λp au q a=>?_⟩;simp at a;subst a
 have:=(eR.1 au).2
 simpa using this
theorem len(h:RMap w C b M){t e:TypeId}(aO:P.underlying t=some (.map k e))(ty:TypeId):(Builtin.len_ #[t] ty #[.map (some b)]).run P w=.ok (I M.length) w:=by
 have⟨es,h1,h2⟩:=h.own
 have:=h1.len aO ty
 rw[Maps.size_eq,h2.length_eq,gV]at this;exact this
end RMap
end
section
def ay.core(b:f')(x:ck):ay where
 S:=b.S
 P w:=IsCore w b x
 lt h aj:=h.lt aj
 frame h hk av:=h.keeps hk av
def ay.link(B:iB)(l:b9):ay where
 S:=B.S
 P w:=IsLink w B l
 lt h aj:=by
  have:=h.lt
  rcases aj with e|e|e|e|e<;>omega
 frame h hk av:=h.keeps hk av
structure N' where
 p:J
 c:f'
 L:iB
 ld:J
 db:J
 hn:J
 fe:J
 dU:J
 dS:J
 du:J
 wt:J
structure N_ where
 x:ck
 aE:b9
 most:aa
 aN:aa
 Ih:aY
 ZE:J
 ZF:aa
 on:J
 D:DataW Unit
 wn:J
 W:DataW Unit
 ct:aa
 b1:aY
 reason:aa
namespace IsPeer
variable{w w':ai}{b:N'}{s:N_}
end IsPeer
end
end Go.Proofs.YtalagblioepadaaGreatDoor
