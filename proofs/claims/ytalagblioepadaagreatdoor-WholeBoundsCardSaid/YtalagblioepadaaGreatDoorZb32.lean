/- The proof, part 32. -/
import Derived.Test.YtalagblioepadaaGreatDoorZb31
import Derived.Test.YtalagblioepadaaGreatDoorZb29
namespace Go.Proofs.YtalagblioepadaaGreatDoor
set_option linter.all false
open Proofs.Tryz List Go.RowKit Go.Maps
set_option maxRecDepth 100000
section
variable{H:Type}{P:Program}{k:TypeId}{R:aw->b4 (DataW H×ah MemPlace)}{w w':ai}{b n:J}{D:DataW H}
def SN{T:J->ak}(h:w.ownsMap P k R b n D)(hk:Keeps T w w')(aj:¬ T b):w'.ownsMap P k R b n D:=by
 have⟨es,a,h1,F,h2,c⟩:=h;exact⟨es,a,hk.heap h1 aj,F,h2,c⟩
def H4(h:w.mapTurned w' b):Keeps (λj=>j=b) w w':=by
 have a1:=h.grown;exact⟨a1.os,a1.tape,a1.output,a1.size,λj a ax=>a1.block j a (λe=>ax (by cases e;rfl))⟩
variable{ops:a6 Oper}{rest:ah Oper}{o:Oper}{a:Act}{Q:Exit->Act->ai->ak}
def n_{t:TypeId}{m x:Operand}{c:aY}{bh key v:aw}(hrun:(Instr.lookup t bh key c).run P w=.ok v w')(a1:o.guard=none)(d:o.op=.lookup t m x c)(hm:a.eval m=bh)(e:a.eval x=key)(h:wpList P ops Q rest (a.put o.dst v) w'):wpList P ops Q (o :: rest) a w:=by
 refine nh a1 λf b=>?_;unfold Oper.wp;simp only[execOp,d,hm,e,hz,hrun,hg,h5];exact b _ _ h
def KK{t:TypeId}{m x y:Operand}{bh key v:aw}(hrun:(Instr.mapUpdate t bh key v).run P w=.ok () w')(a1:o.guard=none)(c:o.op=.mapUpdate t m x y)(hm:a.eval m=bh)(d:a.eval x=key)(e:a.eval y=v)(h:wpList P ops Q rest (a.put o.dst undef) w'):wpList P ops Q (o :: rest) a w:=by
 refine nh a1 λf b=>?_;unfold Oper.wp;simp only[execOp,c,hm,d,e,hz,hrun,hg,h5];exact b _ _ h
def CO{t b:TypeId}{m x:Operand}{bh key:aw}(hrun:(Builtin.delete_ #[t,b] o.type #[bh,key]).run P w=.ok (aV #[]) w')(a1:o.guard=none)(d:o.op=Op.call {callee:=Callee.builtin Builtin.delete,args:=#[m,x],argTypes:=#[t,b]})(hm:a.eval m=bh)(e:a.eval x=key)(h:wpList P ops Q rest (a.put o.dst (aV #[])) w'):wpList P ops Q (o :: rest) a w:=by
 refine nh a1 λf c=>?_;unfold Oper.wp;simp[execOp,d,resolve,invoke,builtin,hm,e,hrun,Result.andThen];exact c _ _ h
def KJ{t:TypeId}{m:Operand}{bh v:aw}(hrun:(Builtin.len_ #[t] o.type #[bh]).run P w=.ok v w')(a1:o.guard=none)(c:o.op=Op.call {callee:=Callee.builtin Builtin.len,args:=#[m],argTypes:=#[t]})(hm:a.eval m=bh)(h:wpList P ops Q rest (a.put o.dst v) w'):wpList P ops Q (o :: rest) a w:=by
 refine nh a1 λd b=>?_;unfold Oper.wp;simp[execOp,c,resolve,invoke,builtin,hm,hrun,Result.andThen];exact b _ _ h
end
section
variable{P:Program}{k:TypeId}{w w':ai}
def nU(v:aw):b4 (DataW Value×ah MemPlace):=some (.held v,[])
structure k_(P:Program)(k:TypeId)(dw:Type) where
 enc:dw->aw
 lit:dw->Lit
 ok:dw->ak
 law:∀ x,ok x->keyOf P k (enc x)=some (lit x)
 inj:∀ a b,ok a->ok b->enc a=enc b->a=b
variable{dw:Type}{C:k_ P k dw}
def k_.ya(K:Keyed P k){a b:dw}(bj:C.ok a)(aj:C.ok b)(h:C.lit a=C.lit b):a=b:=C.inj a b bj aj (K.inj (C.law a bj) (by rw[h];exact C.law b aj))
structure RMap(w:ai)(C:k_ P k dw)(b:J)(M:ah (dw×aw)):ak where
 own:∃ es,w.ownsMap P k nU b M.length (.map es)/\es.Perm (M.map λp=>(C.lit p.1,DataW.held p.2))
 ok:∀ p∈M,C.ok p.1
 pz:M.Pairwise λp q=>p.1≠q.1
def hU[DecidableEq dw](M:ah (dw×aw))(x:dw):b4 aw:=(M.find? λp=>decide (p.1=x)).map Prod.snd
def kM[DecidableEq dw](M:ah (dw×aw))(x:dw):ah (dw×aw):=M.filter λp=>!decide (p.1=x)
def lC[DecidableEq dw](M:ah (dw×aw))(x:dw)(v:aw):ah (dw×aw):=kM M x++[(x,v)]
def tight{b n:J}{D:DataW Value}(h:w.ownsMap P k nU b n D):w.ownsMap P k nU b (Maps.size D) D:=by
 have⟨es,c,h1,h2,d,a⟩:=h;refine⟨es,c,h1,h2,?_,a⟩;rw[a];simp[Maps.size,length_sorted]
namespace RMap
variable{b:J}{M:ah (dw×aw)}
theorem lt(h:RMap w C b M):b<w.heap.size:=by have⟨es,h1,_⟩:=h.own;exact h1.lt
def keeps{T:J->ak}(h:RMap w C b M)(hk:Keeps T w w')(aj:¬ T b):RMap w' C b M:=by
 have⟨es,h1,h2⟩:=h.own;exact⟨⟨es,SN h1 hk aj,h2⟩,h.ok,h.pz⟩
theorem perm{fH:ah (dw×aw)}(h:RMap w C b M)(ar:M.Perm fH):RMap w C b fH:=by
 have⟨es,h1,h2⟩:=h.own;refine⟨⟨es,by rw[<-ar.length_eq];exact h1,h2.trans (ar.map _)⟩,λp a=>h.ok p (ar.mem_iff.2 a),?_⟩;exact h.pz.perm ar (λh=>hJ h)
theorem made(w:ai)(P:Program)(k:TypeId)(C:k_ P k dw):RMap (w.alloc (.map #[] 0)) C w.heap.size []:=
 ⟨⟨[],World.ownsMap_made w P k nU,ze _⟩,(λ_ h=>nomatch h),Pairwise.nil⟩
def AI[DecidableEq dw](h:RMap w C b M){p:dw×aw}(ar:p∈M):hU M p.1=some p.2:=by
 unfold hU;have hd:=h.pz;clear h
 induction M with
 | nil=>cases ar
 | cons q l a=>
  obtain⟨h1,h2⟩:=jP.1 hd;rcases e3.1 ar with rfl|ar
  .simp
  have hne:=h1 p ar;rw[find?_cons_of_neg (by simpa using hne)];exact a ar h2
def look[DecidableEq dw](K:Keyed P k)(h:RMap w C b M){x:dw}(c:C.ok x){t e:TypeId}(aN:P.underlying t=some (.map k e)){z:aw}(A:∀ w,(zeroValue e).run P w=.ok z w):(Instr.lookup t (.map (some b)) (C.enc x) true).run P w=.ok (aV #[(hU M x).getD z,.bool (hU M x).isSome]) w:=by
 obtain⟨es,h1,h2⟩:=h.own;obtain⟨v,ps,hrun,aX⟩:=h1.look_ok K aN (A w) (zd:=.held z) (zp:=[]) rfl (C.law x c);simp only[nU,hi,jq]at aX;have m:=K.key (C.law x c);rw[hrun];by_cases g:∃ u,(x,u)∈M
 .obtain⟨u,o⟩:=g;have hm:=h2.mem_iff.2 (fu.2 ⟨(x,u),o,rfl⟩);have j:Maps.has (.map es) (C.lit x)=true:=zg.2 ⟨_,hm,y_ m⟩;have l:=h.AI o;rw[j,l];have f:(DataW.map es).atKey (C.lit x) (.held z)=.held u:=by
   unfold DataW.atKey;simp only;cases i:es.find? (λp=>p.1.sameKey (C.lit x))with
   | none=>exact absurd (zk.1 i _ hm) (by simpa using WideAt.sameKey_self m)
   | some p=>
    have y:=find?_some i;obtain⟨q,a,rfl⟩:=fu.1 (h2.mem_iff.1 (zo i));have r:=k_.ya K (h.ok q a) c (C5 y);have d:=h.AI a;rw[r,l]at d;simp only[hi]at d;simp[d]
  rw[f]at aX;simp only[y7]at aX;rw[aX.1];rfl
 have n:∀ p∈es,p.1.sameKey (C.lit x)=false:=λp ar=>by
  obtain⟨q,a,rfl⟩:=fu.1 (h2.mem_iff.1 ar);refine sameKey_ne λe=>g ⟨q.2,?_⟩
  have:=k_.ya K (h.ok q a) c e
  rw[<-this];exact a
 have j:Maps.has (.map es) (C.lit x)=false:=by
  rw[Maps.has_eq,zf];exact λp ar=>by simp[n p ar]
 have f:(DataW.map es).atKey (C.lit x) (.held z)=.held z:=by
  unfold DataW.atKey;simp only;rw[zk.2 (λp ar=>by simp[n p ar])]
 have s:hU M x=none:=by
  unfold hU;rw[zk.2 (λp ar=>by
   simp only[gg];intro e;exact g ⟨p.2,by rw[<-e];exact ar⟩)]
  rfl
 rw[j,s];rw[f]at aX;simp only[y7]at aX;rw[aX.1];rfl
def FY[DecidableEq dw](K:Keyed P k)(h:RMap w C b M){x:dw}(c:C.ok x){es:ah (Lit×DataW Value)}(h2:es.Perm (M.map λp=>(C.lit p.1,DataW.held p.2))):(es.filter (ChangeMaps.notKey (C.lit x))).Perm ((kM M x).map λp=>(C.lit p.1,DataW.held p.2)):=by
 have a:=h2.filter (ChangeMaps.notKey (C.lit x));rw[q7]at a;have e:M.filter (ChangeMaps.notKey (C.lit x) ∘ λp=>(C.lit p.1,(DataW.held p.2:DataW Value)))=M.filter λp=>!decide (p.1=x):=by
  refine wD λp ar=>?_;show(!(C.lit p.1).sameKey (C.lit x))=!decide (p.1=x);by_cases e:p.1=x
  .rw[e,y_ (K.key (C.law x c))];simp
  rw[sameKey_ne (λd=>e (k_.ya K (h.ok p ar) c d))];simp[e]
 rwa [e]at a
theorem drop[DecidableEq dw](K:Keyed P k)(h:RMap w C b M){x:dw}(a:C.ok x){t e:TypeId}(aN:P.underlying t=some (.map k e))(ty:TypeId):∃ w',(Builtin.delete_ #[t,k] ty #[.map (some b),C.enc x]).run P w=.ok (aV #[]) w'/\RMap w' C b (kM M x)/\Keeps (λj=>j=b) w w':=by
 have⟨es,h1,h2⟩:=h.own;have⟨w',hrun,d,hk⟩:=h1.drop K aN (C.law x a) ty;have ar:=h.FY K a h2;refine⟨w',hrun,⟨⟨_,?_,ar⟩,λp f=>h.ok p (fR.1 f).1,h.pz.filter _⟩,H4 hk⟩
 have:=tight d
 rw[DataW.del_eq]at this;have c:(kM M x).length=(ChangeMaps.delKey (C.lit x) es).length:=by have:=ar.length_eq;simpa[ChangeMaps.delKey]using this.symm
 rw[c];exact this
theorem store[DecidableEq dw](K:Keyed P k)(h:RMap w C b M){x:dw}(c:C.ok x){t e:TypeId}(aN:P.underlying t=some (.map k e))(au:M.length<maxLen)(v:aw):∃ w',(Instr.mapUpdate t (.map (some b)) (C.enc x) v).run P w=.ok () w'/\RMap w' C b (lC M x v)/\Keeps (λj=>j=b) w w':=by
 obtain⟨es,h1,h2⟩:=h.own;obtain⟨w',hrun,g,hk⟩:=h1.store K aN au (val:=v) (d:=.held v) (ps:=[]) (C.law x c) rfl;have ar:=h.FY K c h2;have a:(ChangeMaps.putKey (C.lit x) (DataW.held v) es).Perm ((lC M x v).map λp=>(C.lit p.1,DataW.held p.2)):=by
  unfold ChangeMaps.putKey lC;rw[jO];refine(WideShapes.insert_perm _ _).trans ?_;refine(Perm.cons _ ar).trans ?_;exact(perm_append_singleton _ _).symm
 refine⟨w',hrun,⟨⟨_,?_,a⟩,λp a=>?_,?_⟩,H4 hk⟩
 .have:=tight g
  rw[DataW.put_eq]at this;have f:(lC M x v).length=(ChangeMaps.putKey (C.lit x) (DataW.held v) es).length:=by have:=a.length_eq;simpa using this.symm
  rw[f];exact this
 .rcases ft.1 a with a|a
  .exact h.ok p (fR.1 a).1
  simp at a;subst a;exact c
 refine q_.2 ⟨h.pz.filter _,Dq _ _,λp ar q a=>?_⟩;simp at a;subst a
 have:=(fR.1 ar).2
 simpa using this
theorem len(h:RMap w C b M){t e:TypeId}(aN:P.underlying t=some (.map k e))(ty:TypeId):(Builtin.len_ #[t] ty #[.map (some b)]).run P w=.ok (I M.length) w:=by
 have⟨es,h1,h2⟩:=h.own
 have:=h1.len aN ty
 rw[Maps.size_eq,h2.length_eq,hh]at this;exact this
end RMap
end
section
def ay.core(b:fG)(x:ck):ay where
 S:=b.S
 P w:=IsCore w b x
 lt h aj:=h.lt aj
 frame h hk ax:=h.keeps hk ax
def ay.link(B:ir)(l:b9):ay where
 S:=B.S
 P w:=IsLink w B l
 lt h aj:=by
  have:=h.lt
  rcases aj with e|e|e|e|e<;>omega
 frame h hk ax:=h.keeps hk ax
structure NC where
 p:J
 c:fG
 L:ir
 ld:J
 db:J
 hb:J
 e9:J
 dV:J
 dT:J
 du:J
 wt:J
structure NB where
 x:ck
 aE:b9
 most:aa
 aS:aa
 HO:aY
 Y0:J
 Y1:aa
 on:J
 D:DataW Unit
 wn:J
 W:DataW Unit
 cu:aa
 b':aY
 reason:aa
namespace IsPeer
variable{w w':ai}{b:NC}{s:NB}
end IsPeer
end
end Go.Proofs.YtalagblioepadaaGreatDoor
