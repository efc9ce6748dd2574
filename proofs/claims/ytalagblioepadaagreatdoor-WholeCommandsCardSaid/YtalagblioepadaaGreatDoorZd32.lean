/- The proof, part 32. -/
import Derived.Test.YtalagblioepadaaGreatDoorZd31
import Derived.Test.YtalagblioepadaaGreatDoorZd29
namespace Go.Proofs.YtalagblioepadaaGreatDoor
set_option linter.all false
open Proofs.Tryz List Go.RowKit Go.Maps
set_option maxRecDepth 100000
section
variable{H:Type}{P:Program}{k:TypeId}{R:ay->b_ (DataW H×ah MemPlace)}{w w':aj}{b n:J}{D:DataW H}
def T7{T:J->al}(h:w.ownsMap P k R b n D)(hk:Keeps T w w')(ak:¬ T b):w'.ownsMap P k R b n D:=by
 have⟨es,a,h1,F,h2,c⟩:=h;exact⟨es,a,hk.heap h1 ak,F,h2,c⟩
def Ja(h:w.mapTurned w' b):Keeps (λj=>j=b) w w':=by
 have aZ:=h.grown;exact⟨aZ.os,aZ.tape,aZ.output,aZ.size,λj a aw=>aZ.block j a (λe=>aw (by cases e;rfl))⟩
variable{ops:a7 Oper}{rest:ah Oper}{o:Oper}{a:Act}{Q:Exit->Act->aj->al}
def lC{t:TypeId}{m x:Operand}{c:a1}{bk key v:ay}(hrun:(Instr.lookup t bk key c).run P w=.ok v w')(aZ:o.guard=none)(d:o.op=.lookup t m x c)(hm:a.eval m=bk)(e:a.eval x=key)(h:wpList P ops Q rest (a.put o.dst v) w'):wpList P ops Q (o :: rest) a w:=by
 refine nQ aZ λf b=>?_;unfold Oper.wp;simp only[execOp,d,hm,e,hW,hrun,hE,iD];exact b _ _ h
def zK{t:TypeId}{m x y:Operand}{bk key v:ay}(hrun:(Instr.mapUpdate t bk key v).run P w=.ok () w')(aZ:o.guard=none)(c:o.op=.mapUpdate t m x y)(hm:a.eval m=bk)(d:a.eval x=key)(e:a.eval y=v)(h:wpList P ops Q rest (a.put o.dst undef) w'):wpList P ops Q (o :: rest) a w:=by
 refine nQ aZ λf b=>?_;unfold Oper.wp;simp only[execOp,c,hm,d,e,hW,hrun,hE,iD];exact b _ _ h
def w0{t b:TypeId}{m x:Operand}{bk key:ay}(hrun:(Builtin.delete_ #[t,b] o.type #[bk,key]).run P w=.ok (aY #[]) w')(aZ:o.guard=none)(d:o.op=Op.call {callee:=Callee.builtin Builtin.delete,args:=#[m,x],argTypes:=#[t,b]})(hm:a.eval m=bk)(e:a.eval x=key)(h:wpList P ops Q rest (a.put o.dst (aY #[])) w'):wpList P ops Q (o :: rest) a w:=by
 refine nQ aZ λf c=>?_;unfold Oper.wp;simp[execOp,d,resolve,invoke,builtin,hm,e,hrun,Result.andThen];exact c _ _ h
def LS{t:TypeId}{m:Operand}{bk v:ay}(hrun:(Builtin.len_ #[t] o.type #[bk]).run P w=.ok v w')(aZ:o.guard=none)(c:o.op=Op.call {callee:=Callee.builtin Builtin.len,args:=#[m],argTypes:=#[t]})(hm:a.eval m=bk)(h:wpList P ops Q rest (a.put o.dst v) w'):wpList P ops Q (o :: rest) a w:=by
 refine nQ aZ λd b=>?_;unfold Oper.wp;simp[execOp,c,resolve,invoke,builtin,hm,hrun,Result.andThen];exact b _ _ h
end
section
variable{P:Program}{k:TypeId}{w w':aj}
def oD(v:ay):b_ (DataW Value×ah MemPlace):=some (.held v,[])
structure lK(P:Program)(k:TypeId)(dI:Type) where
 enc:dI->ay
 lit:dI->Lit
 ok:dI->al
 law:∀ x,ok x->keyOf P k (enc x)=some (lit x)
 inj:∀ a b,ok a->ok b->enc a=enc b->a=b
variable{dI:Type}{C:lK P k dI}
def lK.yM(K:Keyed P k){a b:dI}(bh:C.ok a)(ak:C.ok b)(h:C.lit a=C.lit b):a=b:=C.inj a b bh ak (K.inj (C.law a bh) (by rw[h];exact C.law b ak))
structure RMap(w:aj)(C:lK P k dI)(b:J)(M:ah (dI×ay)):al where
 own:∃ es,w.ownsMap P k oD b M.length (.map es)/\es.Perm (M.map λp=>(C.lit p.1,DataW.held p.2))
 ok:∀ p∈M,C.ok p.1
 p7:M.Pairwise λp q=>p.1≠q.1
def hO[DecidableEq dI](M:ah (dI×ay))(x:dI):b_ ay:=(M.find? λp=>decide (p.1=x)).map Prod.snd
def kE[DecidableEq dI](M:ah (dI×ay))(x:dI):ah (dI×ay):=M.filter λp=>!decide (p.1=x)
def lr[DecidableEq dI](M:ah (dI×ay))(x:dI)(v:ay):ah (dI×ay):=kE M x++[(x,v)]
def tight{b n:J}{D:DataW Value}(h:w.ownsMap P k oD b n D):w.ownsMap P k oD b (Maps.size D) D:=by
 have⟨es,c,h1,h2,d,a⟩:=h;refine⟨es,c,h1,h2,?_,a⟩;rw[a];simp[Maps.size,length_sorted]
namespace RMap
variable{b:J}{M:ah (dI×ay)}
theorem lt(h:RMap w C b M):b<w.heap.size:=by have⟨es,h1,_⟩:=h.own;exact h1.lt
def keeps{T:J->al}(h:RMap w C b M)(hk:Keeps T w w')(ak:¬ T b):RMap w' C b M:=by
 have⟨es,h1,h2⟩:=h.own;exact⟨⟨es,T7 h1 hk ak,h2⟩,h.ok,h.p7⟩
theorem perm{fp:ah (dI×ay)}(h:RMap w C b M)(au:M.Perm fp):RMap w C b fp:=by
 have⟨es,h1,h2⟩:=h.own;refine⟨⟨es,by rw[<-au.length_eq];exact h1,h2.trans (au.map _)⟩,λp a=>h.ok p (au.mem_iff.2 a),?_⟩;exact h.p7.perm au (λh=>gE h)
theorem made(w:aj)(P:Program)(k:TypeId)(C:lK P k dI):RMap (w.alloc (.map #[] 0)) C w.heap.size []:=
 ⟨⟨[],World.ownsMap_made w P k oD,zX _⟩,(λ_ h=>nomatch h),Pairwise.nil⟩
def Bv[DecidableEq dI](h:RMap w C b M){p:dI×ay}(au:p∈M):hO M p.1=some p.2:=by
 unfold hO;have hd:=h.p7;clear h
 induction M with
 | nil=>cases au
 | cons q l a=>
  obtain⟨h1,h2⟩:=kb.1 hd;rcases ff.1 au with rfl|au
  .simp
  have hne:=h1 p au;rw[find?_cons_of_neg (by simpa using hne)];exact a au h2
def look[DecidableEq dI](K:Keyed P k)(h:RMap w C b M){x:dI}(c:C.ok x){t e:TypeId}(aK:P.underlying t=some (.map k e)){z:ay}(A:∀ w,(zeroValue e).run P w=.ok z w):(Instr.lookup t (.map (some b)) (C.enc x) true).run P w=.ok (aY #[(hO M x).getD z,.bool (hO M x).isSome]) w:=by
 obtain⟨es,h1,h2⟩:=h.own;obtain⟨v,ps,hrun,aU⟩:=h1.look_ok K aK (A w) (zd:=.held z) (zp:=[]) rfl (C.law x c);simp only[oD,hI,jR]at aU;have m:=K.key (C.law x c);rw[hrun];by_cases g:∃ u,(x,u)∈M
 .obtain⟨u,o⟩:=g;have hm:=h2.mem_iff.2 (e9.2 ⟨(x,u),o,rfl⟩);have j:Maps.has (.map es) (C.lit x)=true:=zZ.2 ⟨_,hm,zS m⟩;have l:=h.Bv o;rw[j,l];have f:(DataW.map es).atKey (C.lit x) (.held z)=.held u:=by
   unfold DataW.atKey;simp only;cases i:es.find? (λp=>p.1.sameKey (C.lit x))with
   | none=>exact absurd (xd.1 i _ hm) (by simpa using WideAt.sameKey_self m)
   | some p=>
    have y:=find?_some i;obtain⟨q,a,rfl⟩:=e9.1 (h2.mem_iff.1 (Ab i));have r:=lK.yM K (h.ok q a) c (DZ y);have d:=h.Bv a;rw[r,l]at d;simp only[hI]at d;simp[d]
  rw[f]at aU;simp only[zP]at aU;rw[aU.1];rfl
 have n:∀ p∈es,p.1.sameKey (C.lit x)=false:=λp au=>by
  obtain⟨q,a,rfl⟩:=e9.1 (h2.mem_iff.1 au);refine sameKey_ne λe=>g ⟨q.2,?_⟩
  have:=lK.yM K (h.ok q a) c e
  rw[<-this];exact a
 have j:Maps.has (.map es) (C.lit x)=false:=by
  rw[Maps.has_eq,zY];exact λp au=>by simp[n p au]
 have f:(DataW.map es).atKey (C.lit x) (.held z)=.held z:=by
  unfold DataW.atKey;simp only;rw[xd.2 (λp au=>by simp[n p au])]
 have s:hO M x=none:=by
  unfold hO;rw[xd.2 (λp au=>by
   simp only[gh];intro e;exact g ⟨p.2,by rw[<-e];exact au⟩)]
  rfl
 rw[j,s];rw[f]at aU;simp only[zP]at aU;rw[aU.1];rfl
def G9[DecidableEq dI](K:Keyed P k)(h:RMap w C b M){x:dI}(c:C.ok x){es:ah (Lit×DataW Value)}(h2:es.Perm (M.map λp=>(C.lit p.1,DataW.held p.2))):(es.filter (ChangeMaps.notKey (C.lit x))).Perm ((kE M x).map λp=>(C.lit p.1,DataW.held p.2)):=by
 have a:=h2.filter (ChangeMaps.notKey (C.lit x));rw[rQ]at a;have e:M.filter (ChangeMaps.notKey (C.lit x) ∘ λp=>(C.lit p.1,(DataW.held p.2:DataW Value)))=M.filter λp=>!decide (p.1=x):=by
  refine xb λp au=>?_;show(!(C.lit p.1).sameKey (C.lit x))=!decide (p.1=x);by_cases e:p.1=x
  .rw[e,zS (K.key (C.law x c))];simp
  rw[sameKey_ne (λd=>e (lK.yM K (h.ok p au) c d))];simp[e]
 rwa [e]at a
theorem drop[DecidableEq dI](K:Keyed P k)(h:RMap w C b M){x:dI}(a:C.ok x){t e:TypeId}(aK:P.underlying t=some (.map k e))(ty:TypeId):∃ w',(Builtin.delete_ #[t,k] ty #[.map (some b),C.enc x]).run P w=.ok (aY #[]) w'/\RMap w' C b (kE M x)/\Keeps (λj=>j=b) w w':=by
 have⟨es,h1,h2⟩:=h.own;have⟨w',hrun,d,hk⟩:=h1.drop K aK (C.law x a) ty;have au:=h.G9 K a h2;refine⟨w',hrun,⟨⟨_,?_,au⟩,λp f=>h.ok p (fx.1 f).1,h.p7.filter _⟩,Ja hk⟩
 have:=tight d
 rw[DataW.del_eq]at this;have c:(kE M x).length=(ChangeMaps.delKey (C.lit x) es).length:=by have:=au.length_eq;simpa[ChangeMaps.delKey]using this.symm
 rw[c];exact this
theorem store[DecidableEq dI](K:Keyed P k)(h:RMap w C b M){x:dI}(c:C.ok x){t e:TypeId}(aK:P.underlying t=some (.map k e))(av:M.length<maxLen)(v:ay):∃ w',(Instr.mapUpdate t (.map (some b)) (C.enc x) v).run P w=.ok () w'/\RMap w' C b (lr M x v)/\Keeps (λj=>j=b) w w':=by
 obtain⟨es,h1,h2⟩:=h.own;obtain⟨w',hrun,g,hk⟩:=h1.store K aK av (val:=v) (d:=.held v) (ps:=[]) (C.law x c) rfl;have au:=h.G9 K c h2;have a:(ChangeMaps.putKey (C.lit x) (DataW.held v) es).Perm ((lr M x v).map λp=>(C.lit p.1,DataW.held p.2)):=by
  unfold ChangeMaps.putKey lr;rw[jx];refine(WideShapes.insert_perm _ _).trans ?_;refine(Perm.cons _ au).trans ?_;exact(Em _ _).symm
 refine⟨w',hrun,⟨⟨_,?_,a⟩,λp a=>?_,?_⟩,Ja hk⟩
 .have:=tight g
  rw[DataW.put_eq]at this;have f:(lr M x v).length=(ChangeMaps.putKey (C.lit x) (DataW.held v) es).length:=by have:=a.length_eq;simpa using this.symm
  rw[f];exact this
 .rcases eJ.1 a with a|a
  .exact h.ok p (fx.1 a).1
  simp at a;subst a;exact c
 refine pJ.2 ⟨h.p7.filter _,El _ _,λp au q a=>?_⟩;simp at a;subst a
 have:=(fx.1 au).2
 simpa using this
theorem len(h:RMap w C b M){t e:TypeId}(aK:P.underlying t=some (.map k e))(ty:TypeId):(Builtin.len_ #[t] ty #[.map (some b)]).run P w=.ok (I M.length) w:=by
 have⟨es,h1,h2⟩:=h.own
 have:=h1.len aK ty
 rw[Maps.size_eq,h2.length_eq,hG]at this;exact this
end RMap
end
section
def az.core(b:gj)(x:ct):az where
 S:=b.S
 P w:=IsCore w b x
 lt h ak:=h.lt ak
 frame h hk aw:=h.keeps hk aw
def az.link(B:iR)(l:cd):az where
 S:=B.S
 P w:=IsLink w B l
 lt h ak:=by
  have:=h.lt
  rcases ak with e|e|e|e|e<;>omega
 frame h hk aw:=h.keeps hk aw
structure OW where
 p:J
 c:gj
 L:iR
 ld:J
 cV:J
 hA:J
 fl:J
 ed:J
 ec:J
 dB:J
 wt:J
structure OV where
 x:ct
 aF:cd
 most:aa
 aP:aa
 IW:a1
 aao:J
 aap:aa
 on:J
 D:DataW Unit
 wn:J
 W:DataW Unit
 cz:aa
 cc:a1
 reason:aa
namespace IsPeer
variable{w w':aj}{b:OW}{s:OV}
end IsPeer
end
end Go.Proofs.YtalagblioepadaaGreatDoor
