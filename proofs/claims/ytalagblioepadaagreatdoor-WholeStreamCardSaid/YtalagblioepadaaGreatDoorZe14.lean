/- The proof, part 14. -/
import Derived.Test.YtalagblioepadaaGreatDoorZe12
import Derived.Shelf.RegionOpen
import Derived.LoopNIn
import Derived.LoopIn
import Derived.Test.YtalagblioepadaaGreatDoorZe08
namespace Go.Proofs.YtalagblioepadaaGreatDoor
set_option linter.all false
open Proofs.Tryz List Go.RowKit
set_option maxRecDepth 100000
set_option maxHeartbeats 1000000
variable{ww:Prop}
def zJ(h:ww:=by rw[ak];simp):=h
def CZ(h:ww:=by simp[dX];omega):=h
def QM(h:ww:=by have:=bX a 0 (.string ⟨(S++L).toArray⟩);simpa[vC]using this):=h
variable{a:Act}{base j o:J}{P:Program}{v:ay}{w':aj}
def eR(bC:J->ay)(i:J)(v:ay):J->ay:=λj=>if j=i then v else bC j
def aix(bC:J->ay)(i:J)(v:ay):eR bC i v i=v:=aD rfl
def aiw(bC:J->ay){i:J}(v:ay)(h:j≠i):eR bC i v j=bC j:=az h
def yk(l:a6 aY)(i j:J)(d:aY):(l.setIfInBounds i true).getD j d=if i=j/\i<l.size then true else l.getD j d:=by
 by_cases h:i=j
 .subst h;by_cases h2:i<l.size
  .simp[h2]
  simp[h2]
 simp[h,y' h]
section
variable{l:ai Oper}{n:J}{tail:Oper}{W:Oper->(Act->aj->ae)->Act->aj->ae}{Q:Act->aj->ae}{Any:J->a6 aY->Act->aj->ae}
def Xu(ax:∀ fuel aI a w,(Region.ready .any l.toArray aI=[]->Q a w)->(∀ i∈Region.ready .any l.toArray aI,∀ o,l[i]?=some o->W o (Any fuel (aI.setIfInBounds i true)) a w)->Any (fuel+1) aI a w)(d:∀ aI a w,Region.ready .any l.toArray aI=[]->Q a w->Any 0 aI a w)(aI:a6 aY)(e:∀ i,aI.getD i true=true)(a:Act)(w:aj)(b:Q a w)(fuel:J):Any fuel aI a w:=by
 have c:Region.ready .any l.toArray aI=[]:=by
  rw[eq_nil_iff_forall_not_mem];intro i av
  have:=(n4.1 av).1
  rw[e i]at this;cases this
 cases fuel with
 | zero=>exact d _ _ _ c b
 | succ f=>exact ax _ _ _ _ (λ_=>b) (λi av=>by rw[c]at av;cases av)
def Kp(aw:l[n]?=some tail)(r':l.length=n+1)(x:∀ i o,l[i]?=some o->∀ e∈o.after,Region.binds .any e=true->e.on<i)(H:∀ i,i<n->∃ e∈tail.after,e.on=i/\Region.binds .any e=true)(E:∀ o K la a w,(∀ a w,K a w->la a w)->W o K a w->W o la a w)(V:∀ aI a w,Region.ready .any l.toArray aI=[]->Q a w->Any 0 aI a w)(ax:∀ fuel aI a w,(Region.ready .any l.toArray aI=[]->Q a w)->(∀ i∈Region.ready .any l.toArray aI,∀ o,l[i]?=some o->W o (Any fuel (aI.setIfInBounds i true)) a w)->Any (fuel+1) aI a w)(F:(J->ay)->Act)(C:aj->ae)(R:J->ay->aj->ae)(hrun:∀ i o bC w,i<n->l[i]?=some o->C w->(∀ e∈o.after,Region.binds .any e=true->R e.on (bC e.on) w)-> W o (λa' w'=>∃ v,a'=F (eR bC i v)/\R i v w'/\C w'/\∀ j u,R j u w->R j u w') (F bC) w)(hfin:∀ bC w,C w->(∀ i,i<n->R i (bC i) w)->W tail Q (F bC) w):∀ (fuel:J) (aI:a6 aY) (bC:J->ay) (w:aj),aI.size=n+1->aI.getD n true=false->C w->(∀ i,i<n->aI.getD i false=true->R i (bC i) w)->
   ((range (n+1)).countP λi=>!aI.getD i true)<=fuel->Any fuel aI (F bC) w:=by
 intro fuel
 induction fuel with
 | zero=>
  intro aI bC w G t aU r an;exfalso
  have:0<(range (n+1)).countP λi=>!aI.getD i true:=by
   rw[countP_pos_iff];exact⟨n,aM,by rw[t];rfl⟩
  omega
 | succ f h2=>
  intro aI bC w G t aU r an
  -- some operation may come up
  have fr:Region.ready .any l.toArray aI≠[]:=by
   have key:∀ m i,i<=m->i<n+1->aI.getD i true=false->Region.ready .any l.toArray aI≠[]:=by
    intro m
    induction m with
    | zero=>
     intro i av y q s;obtain rfl:i=0:=I;have c:0<l.length:=I
     have:0∈Region.ready .any l.toArray aI:=n4.2 ⟨q,l[0],by simp[c],λe b al=>by
      have:=x 0 l[0] (by simp[c]) e b al
      omega⟩
     rw[s]at this;cases this
    | succ m l'=>
     intro i av y q s;have c:i<l.length:=I;have p:∀ e∈l[i].after,Region.binds .any e=true->aI.getD e.on false=true:=by
      intro e b al;have m':=x i l[i] (by simp[c]) e b al;cases a_:aI.getD e.on false with
      | true=>rfl
      | false=>
       have hd:aI.getD e.on true=false:=by
        have:e.on<aI.size:=I
        simp[this]at a_⊢;exact a_
       exact absurd s (l' e.on I I hd)
     have:i∈Region.ready .any l.toArray aI:=n4.2 ⟨q,l[i],by simp[c],p⟩
     rw[s]at this;cases this
   exact key n n bu I t
  refine ax f aI (F bC) w (λh=>absurd h fr) λi av o D=>?_;have⟨q,g,N,p⟩:=n4.1 av;have Z:g=o:=by
   rw[kC]at N;refine ed;exact(l8 N).symm
  subst Z;have ps:=(ir.1 D).1;by_cases y:i<n
  ·-- one of those ahead of the last
   have Y:∀ e∈g.after,Region.binds .any e=true->R e.on (bC e.on) w:=by
    intro e b al
    have:=x i g D e b al
    exact r e.on I (p e b al)
   refine E _ _ _ _ _ ?_ (hrun i g bC w y D aU Y);rintro a' w' ⟨v,rfl,X,M,g'⟩;refine h2 _ _ _ (by simpa using G) ?_ M ?_ ?_
   .rw[yk,az I];exact t
   .intro j d A;by_cases z:j=i
    .subst z;rw[aix];exact X
    rw[aiw _ _ z];rw[yk,az I]at A;exact g' j _ (r j d A)
   have c:((range (n+1)).countP λk=>!(aI.setIfInBounds i true).getD k true)<(range (n+1)).countP λk=>!aI.getD k true:=by
    have gf:∀ (L:ai J),(∀ k∈L,(!(aI.setIfInBounds i true).getD k true)=true->(!aI.getD k true)=true)/\(i∈L->((L.countP λk=>!(aI.setIfInBounds i true).getD k true)+1<=L.countP λk=>!aI.getD k true))/\((L.countP λk=>!(aI.setIfInBounds i true).getD k true)<=L.countP λk=>!aI.getD k true):=by
     intro L
     induction L with
     | nil=>simp
     | cons k L lb=>
      have hk:(!(aI.setIfInBounds i true).getD k true)=true->(!aI.getD k true)=true:=by
       rw[yk];split
       .intro h;cases h
       exact id
      have⟨bI,mv,sd⟩:=lb;refine⟨λm hm=>by
       rcases fW.1 hm with rfl|hm
       .exact hk
       .exact bI m hm,λhm=>?_,?_⟩
      .by_cases B:k=i
       .subst B;have S:(!(aI.setIfInBounds k true).getD k true)=false:=by rw[yk,aD ⟨rfl,I⟩];rfl
        have T:(!aI.getD k true)=true:=by rw[q];rfl
        rw[Ct,Ct,S,T];simp only[if_true,za,if_false];omega
       have:=mv (by rcases fW.1 hm with h|h;exact absurd h.symm B;exact h)
       exact R7
      exact R7
    have:=(gf (range (n+1))).2.1 b_
    omega
   omega
  -- the last
  obtain rfl:i=n:=I;rw[aw]at D;obtain rfl:tail=g:=l8 D;have P:∀ j,j<i->R j (bC j) w:=by
   intro j d;obtain⟨e,b,rfl,al⟩:=H j d;exact r e.on d (p e b al)
  refine E _ _ _ _ _ (λa' w' fo=>?_) (hfin bC w aU P);refine Xu ax V _ (λj=>?_) a' w' fo f;rw[yk];split
  .rfl
  rename_i hne;by_cases d:j<i
  .obtain⟨e,b,rfl,al⟩:=H j d
   have:=p e b al
   have c:e.on<aI.size:=I;simp[c]at this⊢;exact this
  have:¬ j<aI.size:=I
  simp[this]
end
def BE(l:ai Oper)(n:J):aY:=
 decide (l.length=n+1)&&l.all (λo=>o.guard.isNone)&&(range l.length).all (λi=>match l[i]? with|some o=>o.after.all (λe=>!Region.binds .any e || decide (e.on<i))|none=>true) &&
 (range n).all (λi=>match l[n]? with|some o=>o.after.any (λe=>decide (e.on=i)&&Region.binds .any e)|none=>false)
def N_{l:ai Oper}{n:J}(h:BE l n=true):∃ tail,l[n]?=some tail/\l.length=n+1/\(∀ o∈l,o.guard=none)/\(∀ i o,l[i]?=some o->∀ e∈o.after,Region.binds .any e=true->e.on<i)/\∀ i,i<n->∃ e∈tail.after,e.on=i/\Region.binds .any e=true:=by
 simp only[BE,e9,hf]at h;have⟨⟨⟨h1,h2⟩,d⟩,f⟩:=h;have c:n<l.length:=I;refine⟨l[n],by simp[c],h1,λo ar=>?_,λi o ar e b al=>?_,λi av=>?_⟩
 .have:=fJ.1 h2 o ar
  exact mO
 .have g:=(ir.1 ar).1
  have:=fJ.1 d i (p1.2 g)
  rw[ar]at this
  have:=Array.all_eq_true_iff_forall_mem.1 this e b
  simpa[al]using this
 have:=fJ.1 f i (p1.2 av)
 rw[gW c]at this;have⟨e,b,a⟩:=Qj.1 this;refine xM;exact⟨e,b,a.1,a.2⟩
def aiO{o:Oper}(h:o.guard=none)(f:J->cr aY):Region.wanted o f=true:=by simp[Region.wanted,h]
def Ob(n i:J)(h:i<n):(Array.replicate n false).getD i true=false:=by simp[h]
def ajM{id:J}{l:ai Oper}(n:J){Q:Exit->Act->aj->ae}{w:aj}(hm:P.follows .mixedOrders=true)(f:BE l n=true)(F:(J->ay)->Act)(C:aj->ae)(R:J->ay->aj->ae)(bC:J->ay)(bg:a=F bC)(aU:C {w with drawn:=w.drawn+1})(hrun:∀ i o bC w,i<n->l[i]?=some o->C w->(∀ e∈o.after,Region.binds .any e=true->R e.on (bC e.on) w)-> o.wp P (F bC) w (λa' w'=>∃ v,a'=F (eR bC i v)/\R i v w'/\C w'/\∀ j u,R j u w->R j u w') Q)(hfin:∀ tail,l[n]?=some tail->∀ bC w,C w->(∀ i,i<n->R i (bC i) w)->tail.wp P (F bC) w (λa' w'=>Q .normal a' w') Q):(Code.region id l.toArray true).wp P Q a w:=by
 subst bg;have⟨tail,aw,b,d,g,q⟩:=N_ f;refine Hu hm ?_
 refine Kp (W:=λo K a w=>o.wp P a w K Q) (Q:=λa w=>Q .normal a w) (Any:=wpAny P .any l.toArray Q) aw b g q (λ_ _ _ _ _ h aT=>Oper.wp_mono h aT) (λ_ _ _ p m=>⟨p,m⟩)
  (λfuel aI a w h1 h2=>⟨h1,λi av=>?_⟩) F C R hrun (hfin tail aw) _ _ bC _ (by simp[b]) (Ob _ _ (by simp[b])) aU (λi av h=>?_) ?_
 .unfold wpOp;cases ar:l.toArray[i]? with
  | none=>exact absurd (n4.1 av).2 (by rw[ar];rintro⟨_,h,_⟩;cases h)
  | some o=>
   refine Rk;exact .inl (h2 i av o c)
 .have k:i<l.length:=I;simp[k]at h
 refine cu (countP_le_length) ?_;simp[b]
def afx{id:J}{l:ai Oper}(r:J)(n:J){Q:Exit->Act->aj->ae}{w:aj}(hm:P.follows .mixedOrders=true)(f:BE l n=true)(F:(J->ay)->Act)(C:aj->ae)(R:J->ay->aj->ae)(bC:J->ay)(bg:a=F bC)(aU:C {w with drawn:=w.drawn+1})(hrun:∀ i o bC w,i<n->l[i]?=some o->C w->(∀ e∈o.after,Region.binds .any e=true->R e.on (bC e.on) w)-> o.wpIn (Fence.wide.inRound r) 0 P (F bC) w (λa' w'=>∃ v,a'=F (eR bC i v)/\R i v w'/\C w'/\∀ j u,R j u w->R j u w') Q)(hfin:∀ tail,l[n]?=some tail->∀ bC w,C w->(∀ i,i<n->R i (bC i) w)->tail.wpIn (Fence.wide.inRound r) 0 P (F bC) w (λa' w'=>Q .normal a' w') Q):(Code.region id l.toArray true).wpIn (Fence.wide.inRound r) 0 P Q a w:=by
 subst bg;have⟨tail,aw,b,d,g,q⟩:=N_ f;refine wpIn_region_any hm ?_
 refine Kp (W:=λo K a w=>o.wpIn (Fence.wide.inRound r) 0 P a w K Q) (Q:=λa w=>Q .normal a w) (Any:=wpAnyIn (Fence.wide.inRound r) 0 P .any l.toArray Q) aw b g q (λ_ _ _ _ _ h aT=>Oper.wpIn_mono h aT) (λ_ _ _ p m=>⟨p,m⟩)
  (λfuel aI a w h1 h2=>⟨h1,λi av=>?_⟩) F C R hrun (hfin tail aw) _ _ bC _ (by simp[b]) (Ob _ _ (by simp[b])) aU (λi av h=>?_) ?_
 .unfold wpOpIn;cases ar:l.toArray[i]? with
  | none=>exact absurd (n4.1 av).2 (by rw[ar];rintro⟨_,h,_⟩;cases h)
  | some o=>
   refine Rk;exact h2 i av o c
 .have k:i<l.length:=I;simp[k]at h
 refine cu (countP_le_length) ?_;simp[b]
section
attribute [local go_sem] Oper.semAt_some
def ZW(L:ai aR)(k:J)(h:k<L.length)(h2:63<L[k].toNat):fits L=false:=by
 unfold fits
 have:L.all (λc=>decide (c.toNat<=63))=false:=by
  rw[all_eq_false];exact⟨L[k],oY h,b_⟩
 rw[this];rfl
def ZX(L:ai aR)(h:∀ i (av:i<L.length),L[i].toNat<=63):fits L=decide (L.length<=64):=by
 unfold fits
 have:L.all (λc=>decide (c.toNat<=63))=true:=by
  rw[fJ];intro c l;refine I';simpa using h i av
 rw[this];rfl
def NC(w:aj)(a:cr Addr)(cap:J)(L:ai aR)(h:dy w a cap L):aB 266 #[au a L.length cap] w λe w'=>e=.returned (.bool (fits L))/\w=w':=by
 have hm:L.length<=9223372036854775807:=cu h.1 h.2.1
 go_in
 go_wp2
 go_loop [7] (λi=>∃ k:J,k<=L.length/\i=aa k/\Hid (∀ i (av:i<L.length),i<k->L[i].toNat<=63)) (λi=>L.length-(intOf i).toNat)
 case atStart=>exact⟨0,c3 _,rfl,λ_ _ h=>absurd h (lD _)⟩
 obtain⟨k,hk,rfl,d⟩:=hrel;by_cases c:k<L.length
 .obtain⟨b,o,rfl,an⟩:=h.at' (by intro e;rw[e]at c;simp at c);have j:w.cell? (ah b (o+k))=some (bf L[k].toNat):=an k c;clear an;by_cases al:63<L[k].toNat
  .have f:=ad (ZW L k c al);refine fB;exact⟨by rw[f.o];rfl,rfl⟩
  go_wp2
  go_round
  case rel=>exact⟨k+1,I,cT,λi av h2=>by
   by_cases e:i=k
   .subst e;omega
   .exact d i av I⟩
  simp[intOf];omega
 have g:=ad (ZX L λi av=>d i av I);refine fB;exact⟨by rw[g.o];exact yQ (by simp;try omega),rfl⟩
def Ar(w:aj)(l m:ai aR)(h:l.length+m.length<=9223372036854775807):(Op.stringOp .add ⟨l.toArray⟩ ⟨m.toArray⟩).run prog w=.ok (.string ⟨(l++m).toArray⟩) w:=by
 have e:(ByteArray.mk l.toArray)++(ByteArray.mk m.toArray)=⟨(l++m).toArray⟩:=by apply ByteArray.ext;simp[Qr]
 have h2:=run_string_add_sum (P:=prog) w ⟨l.toArray⟩ ⟨m.toArray⟩ (by simpa[ByteArray.size]using h);rw[e]at h2;exact h2
def oM(c:aR)(n:J)(S:ai aR)(i:J)(v:ay)(w:aj):ae:=
 match i with
 | 0=>v=.string ⟨S.toArray⟩
 | 1=>v=.int .u8 c.toNat
 | 2=>∃ B,v=.slice (some ⟨B,0,none⟩) 1 1/\w.cell? ⟨B,0,none⟩=some (.int .u8 c.toNat)
 | 3=>v=.string ⟨#[c]⟩
 | 4=>v=.int .i64 n
 | 5=>v=.int .u64 n
 | 6=>v=.string ⟨(num n).toArray⟩
 | 7=>v=.string ⟨(c :: num n).toArray⟩
 | 8=>v=.string ⟨(S++c :: num n).toArray⟩
 | _=>True
def Oy{c:aR}{n:J}{S:ai aR}{w:aj}(h:ag aH w w')(i:J)(v:ay)(a:oM c n S i v w):oM c n S i v w':=by
 match i,a with
 | 2,⟨B,h1,h2⟩=>exact⟨B,h1,h.cell h2 id⟩
 | 0,a|1,a|3,a|4,a|5,a|6,a|7,a|8,a=>exact a
 | _+9,_=>trivial
def adQ(w:aj)(a:cr Addr)(cap:J)(L:ai aR)(h:dy w a cap L)(m:fits L=true):aB 203 #[au a L.length cap] w λe w'=>e=aV #[.string ⟨(nr L).toArray⟩,aa 0]/\Below w w w':=by
 have y:L.length<=64:=by unfold fits at m;simp at m;exact m.2
 refine(h0 (n:=0)).1 ?_;refine callsIn_of_wp_marks func203 rfl trivial ?_ rfl;simp only[ntmps203,iw,eA,gN,Nat.reduceAdd,Nat.reduceSub,uR,uS,u',uW,p2,l5];have fo:=ad m;gi_wp2_with (fail);refine⟨trivial,rfl,h0.2 ((NC w a cap L h).mono ?_)⟩;rintro e w' ⟨rfl,rfl⟩;rw[m];gi_wp2_with (fail);refine⟨trivial,rfl,h0.2 ((Bt L.length sb _).mono ?_)⟩;rintro e aq ⟨rfl,g⟩;gi_wp2_with (fail);refine⟨trivial,rfl,h0.2 ((adT _ a L.length cap).mono ?_)⟩;rintro e aF ⟨rfl,T⟩;gi_wp2_with (fail);subst T
 have F:dy ((aq.alloc (ab #[.string ⟨(num L.length).toArray⟩] 9)).alloc (ab #[au a L.length cap] 51)) a cap L:=
  h.keeps (S:=λk=>w.heap.size<=k) (((ag.bU g (λ_ _ h=>h)).alloc _).alloc _) (λhne x ak M=>absurd (h.lt hne x ak) (Nat.not_lt.2 M))
 refine GY (gf:=312) (lb:=#[bM (aq+1)]) rfl (enters_of func312 bc rfl)
  (λ_=>rfl) (runs L) (λk=>k=aq.heap.size\/aq.heap.size+3<k) (λk=>k=aq.heap.size+1)
  (ahL _ (aq.heap.size+1) aM a cap L (by go_simp) (by go_simp) F _ I (λhne x ak=>by have:=h.lt hne x ak;have:=g.size;simp;omega))
  b_ b_
  (λpre W=>W.cell? (ah aq 0)=some (.string ⟨(num L.length++im pre).toArray⟩)/\W.frozen? (ah aq 0)=false/\Below w w W/\aq.heap.size+2<=W.heap.size)
  (λpre A B ⟨D,V,E,X⟩ mv hk=>⟨hk.cell D (λh=>tu),(hk.frozen (p:=ah aq 0) (oT A _ D) (λh=>tu)).trans V,E.trans (hk.below E.size (λk h1 h2=>by have:=g.size;simp at h2;omega)),cu X hk.size⟩)
  ⟨by simp only[im,flatMap_nil,gq];exact sE (pn _ _ _) _,aaa (pn _ _ _) (Z' _ _ _) _,(g.alloc g.size _).alloc (by have:=g.size;simp;omega) _,aM⟩
  (λx=>{tmps:=#[au a L.length cap,undef,.string {data:=#[]},aa 0,bM aq,bf x.1.toNat,aa x.2,au a L.length cap,.bool true,.bool false,au a L.length cap,aa L.length,.int .u64 L.length,.string ⟨(num L.length).toArray⟩,au a L.length cap,.func (.func 312) #[] #[bM (aq+1)],bf x.1.toNat,aa x.2,undef,undef,undef,undef,undef,undef,undef,undef,undef,undef],defers:=[]})
  ?assign ?body ?done
 case assign=>
  exact Ji
 case body=>
  rintro l pre ⟨c,n⟩ rest A N ak ⟨an,v,r,R⟩ C;have aw:=cu (Gc _ L bu (c,n) zJ).2 y;have Q:=NN L y pre _ ak;have g':=pD n sb;simp only[cG]at Q;refine dU;clear N C;have z:n<gL:=by unfold gL;omega
  have ps:=PF n z;have P:prog.follows .mixedOrders=true:=bc;gi_wp2;gi_wp2
  refine afx l 9 P bc
   (λbC=>{tmps:=#[au a L.length cap,undef,.string {data:=#[]},aa 0,bM aq,bf c.toNat,aa n,au a L.length cap,.bool true,.bool false,au a L.length cap,aa L.length,.int .u64 L.length,.string ⟨(num L.length).toArray⟩,au a L.length cap,.func (.func 312) #[] #[bM (aq+1)],bf c.toNat,aa n,bC 0,bC 1,bC 2,bC 3,bC 4,bC 5,bC 6,bC 7,bC 8,undef],defers:=[]})
   (λw=>ag aH A w) (oM c n (num L.length++im pre)) (λ_=>undef) rfl ((ag.refl _ A).drew) ?hrun ?hfin
  case hrun=>
   intro i o bC W av ar aU hd;have t:=aU.cell an id
   match i,av,ar,hd with
   | 0,_,ar,hd=>
    refine Jc;exact⟨.string ⟨(num L.length++im pre).toArray⟩,by simp[eR],rfl⟩
   | 1,_,ar,hd=>
    refine Jc;exact⟨bf c.toNat,by simp[eR],rfl⟩
   | 2,_,ar,hd=>
    refine vu;have bI:=hd ⟨1,.data⟩ aM rfl;simp only[oM]at bI;clear hd;go_simp;exact⟨au (bT W) 1 1,by simp[eR,bI],⟨W,rfl,by go_simp⟩,aU.alloc _,λj u h=>Oy ((ag.refl _ W).alloc _) j u h⟩
   | 3,_,ar,hd=>
    refine vu;have b:=hd ⟨2,.data⟩ aM rfl;simp only[oM]at b;obtain⟨B,b,Y⟩:=b;have fr:=YJ W B c Y;clear hd;go_simp;exact⟨.string ⟨#[c]⟩,by simp[eR,b],rfl⟩
   | 4,_,ar,hd=>
    refine Jc;exact⟨aa n,by simp[eR],rfl⟩
   | 5,_,ar,hd=>
    refine vu;have bI:=hd ⟨4,.data⟩ aM rfl;simp only[oM]at bI;clear hd;go_simp;exact⟨.int .u64 n,by simp[eR,bI],rfl⟩
   | 6,_,ar,hd=>
    refine vu;have bI:=hd ⟨5,.data⟩ aM rfl;simp only[oM]at bI;clear hd;go_simp;refine⟨trivial,rfl,CallsIn.inRound l (h0.2 ((Bt n z _).mono ?_))⟩;rintro e br ⟨rfl,q⟩;exact⟨.string ⟨(num n).toArray⟩,by simp[eR,bI],rfl,aU.ga q,λj u h=>Oy ((ag.refl _ W).ga q) j u h⟩
   | 7,_,ar,hd=>
    refine vu;have bI:=hd ⟨3,.data⟩ aM rfl;simp only[oM]at bI;have b:=hd ⟨6,.data⟩ aM rfl;simp only[oM]at b;have H:=Ar W [c] (num n) b_;clear hd;go_simp;exact⟨.string ⟨(c :: num n).toArray⟩,by simp[eR,bI,b],rfl⟩
   | 8,_,ar,hd=>
    refine vu;have bI:=hd ⟨0,.data⟩ aM rfl;simp only[oM]at bI;have b:=hd ⟨7,.data⟩ aM rfl;simp only[oM]at b;have H:=Ar W (num L.length++im pre) (c :: num n) b_;clear hd;go_simp;exact⟨.string ⟨(num L.length++im pre++c :: num n).toArray⟩,by simp[eR,bI,b],rfl⟩
  intro iq aW bC W aU G;obtain rfl:=l8 aW;have Z:=G 8 I;simp only[oM]at Z;have t:=aU.cell an id;have K:=(aU.frozen (p:=ah aq 0) b_ id).trans v;go_simp
  have hk:ag (λk=>k=aq.heap.size\/aq.heap.size+3<k) A (W.setCell (ah aq 0) (.string ⟨(num L.length++(im pre++c :: num n)).toArray⟩)):=
   (aU.mono (λ_ _ h=>h.elim)).setCell (p:=ah aq 0) (.inl rfl) _
  refine⟨rfl,hk,?_,by rw[Qv];exact K,?_,cu R hk.size⟩
  .rw[agb];exact zf _ _ _ t
  exact r.trans (hk.below r.size (λk h1 h2=>by have:=g.size;omega))
 rintro W ⟨an,v,s,l'⟩ f;gi_wp2;refine Dw;refine⟨_,results_tmp2 rfl _ _ _,rfl,?_⟩;refine zY;exact s.trans (((ag.refl (λk=>w.heap.size<=k) W).putObj (by have:=g.size;simp;omega) _).below s.size a1)
end
variable{w:aj}
def vC(w:aj)(r:J)(S:ai aR):ae:=w.heap[r]?=some (ab #[.string ⟨S.toArray⟩] 484 (0,0))
def O4{cs:a6 ay}(h:cs[o]?=some v):cs.setIfInBounds o v=cs:=by
 refine vt;by_cases hk:k=o
 .subst hk
  have:=(mI.1 h).1
  rw[Ce this,h]
 rw[y' (λe=>hk e.symm)]
def ajb(r B o:J)(S:ai aR)(cs:a6 ay)(t:TypeId)(n:J)(h:vC w r S)(c:w.heap[B]?=some (ab cs t (0,0)))(hne:B≠r)(an:cs[o]?=some (aa (n:U)))(aw:n<=9223372036854775807)(aA:S.length+10<=9223372036854775807):aB 424 #[r,.pointer (dk B o)] w λe w'=>e=aV #[]/\vC w' r (S++num n)/\w'.heap[B]?=some (ab cs t (0,0))/\ag (λb=>b=r) w w':=by
 have l:=lQ (S:=aH) (w:=w.drew) (p:=ah r 0) (bb h rfl) id;have h1:=lQ (S:=aH) (w:=w.drew) (p:=ah B o) (bb c an) id;have i:=pD n sb;have m:=λw=>Ar w S (num n) I;have g:=λw=>Bt n sb w;generalize num n=L at *;have j:=ad i
 go_in
 go_wp2_with fail;refine cS 13 ?_;refine hU (λ_=>False) (.range 8) [8,9] 3 ?_;refine iU λK f=>?_;go_simp;refine aS (g _) λaq al=>?_;have hk:ag aH w.drew aq:=ag.bU al a1;refine f _ _ (dB (hk)) ?_;refine qq (dB (hk)) ?_;have a:=hk.heap h id;have d:ag (λb=>b=r) w aq:=⟨hk.os,hk.tape,hk.output,hk.size,λk h _=>hk.block k h id⟩;have q:=aX a;have s:=bV a;refine hU (λ_=>False) [10,11] [] 1 (mx ?_);refine hU (λ_=>True) [] [12] 0 ?_;refine qq (dB ((ag.refl _ aq).setCell trivial _)) ?_;refine kt ?_;go_wp2;refine zg (v:=aV #[]) xm rfl ?_;exact⟨rfl,QM,eB (hk.heap c id) hne _,d.setCell (p:=ah r 0) rfl _⟩
def ajc(r B o:J)(S:ai aR)(cs:a6 ay)(t:TypeId)(n:U)(h:vC w r S)(c:w.heap[B]?=some (ab cs t (0,0)))(hne:B≠r)(an:cs[o]?=some (af n))(aw:-2147483648<=n/\n<=2147483647)(aA:S.length+10<=9223372036854775807):aB 425 #[r,.pointer (dk B o)] w λe w'=>e=aV #[]/\vC w' r (S++num (gP n))/\w'.heap[B]?=some (ab cs t (0,0))/\ag (λb=>b=r) w w':=by
 have l:=lQ (S:=aH) (w:=w.drew) (p:=ah r 0) (bb h rfl) id;have h1:=lQ (S:=aH) (w:=w.drew) (p:=ah B o) (bb c an) id;have i:=pD (gP n) (by unfold gL gP;split<;>omega);have m:=λw=>Ar w S (num (gP n)) I;have g:=λw=>ND n I w;generalize num (gP n)=L at *;have j:=ad i
 go_in
 go_wp2_with fail;refine cS 13 ?_;refine hU (λ_=>False) (.range 8) [8,9] 3 ?_;refine iU λK f=>?_;go_simp;refine aS (g _) λaq al=>?_;have hk:ag aH w.drew aq:=ag.bU al a1;refine f _ _ (dB (hk)) ?_;refine qq (dB (hk)) ?_;have a:=hk.heap h id;have d:ag (λb=>b=r) w aq:=⟨hk.os,hk.tape,hk.output,hk.size,λk h _=>hk.block k h id⟩;have q:=aX a;have s:=bV a;refine hU (λ_=>False) [10,11] [] 1 (mx ?_);refine hU (λ_=>True) [] [12] 0 ?_;refine qq (dB ((ag.refl _ aq).setCell trivial _)) ?_;refine kt ?_;go_wp2;refine zg (v:=aV #[]) xm rfl ?_;exact⟨rfl,QM,eB (hk.heap c id) hne _,d.setCell (p:=ah r 0) rfl _⟩
section
variable{w:aj}
def dw(j:J):IntKind:=if j=1 then .u32 else if j<4 then .i64 else if j<24 then(if (j-4)%10<4 then .i32 else .i64)else if (j-24)%6<4 then .i32 else .i64
def aQ(v:J->U):a6 ay:=((range 60).map λj=>Value.int (dw j) (v j)).toArray
def bn(v:J->U)(o:J)(x:U):J->U:=λj=>if j=o then x else v j
def dX(v:J->U):(aQ v).size=60:=by simp[aQ]
def dO(v:J->U)(h:o<60):(aQ v)[o]?=some (.int (dw o) (v o)):=by simp[aQ,h]
def yB(v:J->U)(o:J)(x:U):(aQ v).setIfInBounds o (.int (dw o) x)=aQ (bn v o x):=by
 refine vt;by_cases hk:k<60
 .rw[dO _ hk,Array.getElem?_setIfInBounds,dX,dO _ hk];by_cases e:o=k
  .subst e;rw[aD rfl,aD hk];simp[bn]
  rw[az e];simp[bn,show ¬ k=o from λh=>e h.symm]
 rw[l4 CZ,l4 CZ]
def ow(k:IntKind)(n:U):ae:=match k with
 | .i32=>-2147483648<=n/\n<=2147483647
 | .u32=>0<=n/\n<=4294967295
 | _=>-9223372036854775808<=n/\n<=9223372036854775807
structure gj(eT:Type) where
 T:TypeId
 r:J
 vZ:FuncId
 v7:FuncId
 fl:eT->J->aj->ae
 aH:eT->U->eT×U
 uo:eT->U->eT×U
 rA:U->ae
variable{eT:Type}
abbrev gj.at(c:gj eT):ay:=.pointer (some (eo c.r 0 db))
abbrev gj.val(c:gj eT):ay:=.iface c.T c.at
structure gj.qf(c:gj eT):ae where
 D8:∀ w,(nilAhead 647 c.T c.at "promptbook/freeze.number").run prog w=.ok (some false) w
 Kl:∀ w,(nilAhead 647 c.T c.at "promptbook/freeze.signed").run prog w=.ok (some false) w
 nf:∀ w,(method 647 c.T c.at "promptbook/freeze.number").run prog w=.ok (c.vZ,c.at) w
 cS:∀ w,(method 647 c.T c.at "promptbook/freeze.signed").run prog w=.ok (c.v7,c.at) w
 AI:∀ x y w,(callFunc c.vZ #[x,y]).run prog w=.ok (.enter c.vZ #[x,y]) w
 Li:∀ x y w,(callFunc c.v7 #[x,y]).run prog w=.ok (.enter c.v7 #[x,y]) w
 keeps:∀ {S:J->ae} {s k w w'},c.fl s k w->ag S w w'->¬ S c.r->c.fl s k w'
 less:∀ {s k j w},c.fl s (k+j) w->c.fl s k w
 there:∀ {s k w},c.fl s k w->c.r<w.heap.size
 num:∀ {s k B o cs t n} (w:aj),c.fl s (k+1) w->w.heap[B]?=some (ab cs t (0,0))->B≠c.r->cs[o]?=some (aa n)->ow .i64 n->c.rA n->
  Calls prog c.vZ #[c.at,.pointer (some (eo B o db))] w λe w'=>e=aV #[]/\c.fl (c.aH s n).1 k w'/\w'.heap[B]?=some (ab (cs.setIfInBounds o (aa (c.aH s n).2)) t (0,0))/\ag (λb=>b=c.r\/b=B) w w'
 O9:∀ {s k B o cs t n} (w:aj),c.fl s (k+1) w->w.heap[B]?=some (ab cs t (0,0))->B≠c.r->cs[o]?=some (af n)->ow .i32 n->
  Calls prog c.v7 #[c.at,.pointer (some (eo B o db))] w λe w'=>e=aV #[]/\c.fl (c.uo s n).1 k w'/\w'.heap[B]?=some (ab (cs.setIfInBounds o (af (c.uo s n).2)) t (0,0))/\ag (λb=>b=c.r\/b=B) w w'
 Lw:∀ s n,ow .i64 n->ow .i64 (c.aH s n).2
 ok:∀ s n,ow .i64 n->c.rA n->c.rA (c.aH s n).2
 okB:∀ n,0<=n->c.rA n
 okW:∀ s n,ow .u32 n->c.rA n->c.rA (IntKind.u32.wrap (c.aH s n).2)
 Lx:∀ s n,ow .i32 n->ow .i32 (c.uo s n).2
def gj.step(c:gj eT)(p:eT×(J->U))(o:J):eT×(J->U):=match dw o with
 | .i32=>((c.uo p.1 (p.2 o)).1,bn p.2 o (c.uo p.1 (p.2 o)).2)
 | .u32=>((c.aH p.1 (p.2 o)).1,bn p.2 o (IntKind.u32.wrap (c.aH p.1 (p.2 o)).2))
 | _=>((c.aH p.1 (p.2 o)).1,bn p.2 o (c.aH p.1 (p.2 o)).2)
structure Fr(c:gj eT)(w:aj)(B:J)(p:eT×(J->U))(k:J):ae where
 st:c.fl p.1 k w
 bh:w.heap[B]?=some (ab (aQ p.2) 99 (0,0))
 ne:B≠c.r
 fit:∀ j,j<60->ow (dw j) (p.2 j)/\(dw j≠.i32->c.rA (p.2 j))
def nh(c:gj eT)(B:J)(b:J):ae:=b=c.r\/b=B
section
variable{c:gj eT}{B:J}{p:eT×(J->U)}{k:J}
theorem Fr.keeps(an:c.qf){S:J->ae}{w:aj}(h:Fr c w B p k)(hk:ag S w w')(h1:¬ S c.r)(h2:¬ S B):Fr c w' B p k:=⟨an.keeps h.st hk h1,hk.heap h.bh h2,h.ne,h.fit⟩
def wg(an:c.qf)(o:J)(ar:o<60)(hk:dw o=.i64)(w:aj)(h:Fr c w B p (k+1)):Calls prog c.vZ #[c.at,.pointer (dk B o)] w λe w'=>e=aV #[]/\Fr c w' B (c.step p o) k/\ag (nh c B) w w':=by
 have a:=h.fit o ar;rw[hk]at a;have a7:=dO p.2 ar;rw[hk]at a7;refine aS (an.num w h.st h.bh h.ne a7 a.1 (a.2 aM)) ?_;rintro w' ⟨h1,h2,b⟩;refine⟨rfl,⟨?_,?_,h.ne,?_⟩,b⟩
 .simpa only[gj.step,hk]using h1
 .have:=yB p.2 o (c.aH p.1 (p.2 o)).2
  exact Wm
 intro j d;simp only[gj.step,hk,bn];by_cases e:j=o
 .subst e;rw[aD rfl,hk];exact⟨an.Lw _ _ a.1,λ_=>an.ok _ _ a.1 (a.2 aM)⟩
 rw[az e];exact h.fit j d
def LM(an:c.qf)(o:J)(ar:o<60)(hk:dw o=.i32)(w:aj)(h:Fr c w B p (k+1)):Calls prog c.v7 #[c.at,.pointer (dk B o)] w λe w'=>e=aV #[]/\Fr c w' B (c.step p o) k/\ag (nh c B) w w':=by
 have a:=h.fit o ar;rw[hk]at a;have a7:=dO p.2 ar;rw[hk]at a7;refine aS (an.O9 w h.st h.bh h.ne a7 a.1) ?_;rintro w' ⟨h1,h2,b⟩;refine⟨rfl,⟨?_,?_,h.ne,?_⟩,b⟩
 .simpa only[gj.step,hk]using h1
 .have:=yB p.2 o (c.uo p.1 (p.2 o)).2
  exact Wm
 intro j d;simp only[gj.step,hk,bn];by_cases e:j=o
 .subst e;rw[aD rfl,hk];exact⟨an.Lx _ _ a.1,λh=>absurd rfl h⟩
 rw[az e];exact h.fit j d
theorem Fr.drew(an:c.qf){w:aj}(h:Fr c w B p k):Fr c w.drew B p k:=h.keeps an (bd w).drew id id
def AV(an:c.qf)(o:J)(ar:o+1<60)(h1:dw o=.i32)(h2:dw (o+1)=.i32)(w:aj)(h:Fr c w B p (k+2)):aB 381 #[c.val,.pointer (dk B o)] w λe w'=>e=aV #[]/\Fr c w' B (c.step (c.step p o) (o+1)) k/\ag (nh c B) w w':=by
 have l:=an.Kl;have n:=an.cS;have m:=an.Li;have j:=λw p k=>LM (B:=B) (p:=p) (k:=k) an o I h1 w
 go_in
 go_wp2_with fail;refine cS 8 ?_;refine hU (λ_=>True) (.range 4) [4,5,6,7] 0 ?_;refine kr (dB (ag.refl _ _)) ?_;refine kr (dB (ag.refl _ _)) ?_;refine kr (dB (ag.refl _ _)) ?_;refine lU λK a=>?_;go_simp;refine aS (j _ _ _ (h.drew an)) ?_;rintro aq ⟨f,b⟩;refine a _ _ (dB (b.mono λ_ _ _=>trivial)) ?_;refine kt ?_;have g:=f.drew an;go_wp2_with fail;refine cS 8 ?_;refine hU (λ_=>True) (.range 4) [4,5,6,7] 0 ?_;refine kr (dB (ag.refl _ _)) ?_;refine kr (dB (ag.refl _ _)) ?_;refine kr (dB (ag.refl _ _)) ?_;refine lU λK a=>?_;go_simp;refine aS ((λw p k=>LM (B:=B) (p:=p) (k:=k) an (o+1) ar h2 w) _ _ _ g) ?_;rintro aF ⟨i,d⟩;refine a _ _ (dB (d.mono λ_ _ _=>trivial)) ?_;refine kt ?_;go_wp2;refine zg (v:=aV #[]) xm rfl ?_;exact⟨rfl,i,((ag.refl _ w).drew.trans b).drew.trans d⟩
def gj.steps(c:gj eT)(p:eT×(J->U))(l:ai J):eT×(J->U):=l.foldl c.step p
def uy(o:J):ai J:=[o,o+1,o+2,o+3,o+4,o+5]
def Z3(an:c.qf)(o:J)(ar:o+5<60)(f:dw o=.i32)(h1:dw (o+1)=.i32)(h2:dw (o+2)=.i32)(g:dw (o+3)=.i32)(i:dw (o+4)=.i64)(j:dw (o+5)=.i64)(w:aj)(h:Fr c w B p (k+6)):aB 368 #[c.val,.pointer (dk B o)] w λe w'=>e=aV #[]/\Fr c w' B (c.steps p (uy o)) k/\ag (nh c B) w w':=by
 have C:=an.D8;have E:=an.nf;have D:=an.AI;have t:=λw p k=>wg (B:=B) (p:=p) (k:=k) an (o+4) I i w;have u:=λw p k=>wg (B:=B) (p:=p) (k:=k) an (o+5) ar j w;have x:=λw p k=>AV (B:=B) (p:=p) (k:=k) an o I f h1 w;have y:=λw p k=>AV (B:=B) (p:=p) (k:=k) an (o+2) I h2 g w
 go_in
 go_wp2_with fail;refine aS (x _ _ _ h) ?_;rintro aq ⟨l,z⟩;go_wp2_with fail;refine aS (y _ _ _ l) ?_;rintro aF ⟨m,A⟩;have n:=m.drew an;go_wp2_with fail;refine cS 8 ?_;refine hU (λ_=>True) (.range 4) [4,5,6,7] 0 ?_;refine kr (dB (ag.refl _ _)) ?_;refine kr (dB (ag.refl _ _)) ?_;refine kr (dB (ag.refl _ _)) ?_;refine lU λK a=>?_;go_simp;refine aS (t _ _ _ n) ?_;rintro br ⟨q,b⟩;refine a _ _ (dB (b.mono λ_ _ _=>trivial)) ?_;refine kt ?_;have r:=q.drew an;go_wp2_with fail;refine cS 8 ?_;refine hU (λ_=>True) (.range 4) [4,5,6,7] 0 ?_;refine kr (dB (ag.refl _ _)) ?_;refine kr (dB (ag.refl _ _)) ?_;refine kr (dB (ag.refl _ _)) ?_;refine lU λK a=>?_;go_simp;refine aS (u _ _ _ r) ?_;rintro F ⟨s,d⟩;refine a _ _ (dB (d.mono λ_ _ _=>trivial)) ?_;refine kt ?_;go_wp2;refine zg (v:=aV #[]) xm rfl ?_;exact⟨rfl,s,(((z.trans A).drew.trans b).drew.trans d)⟩
end
end
variable{eT:Type}{c:gj eT}{B:J}{p:eT×(J->U)}{k:J}
def rE(B o:J):a6 ay:=#[.pointer (some (eo B (o+4) db)),.pointer (some (eo B (o+5) db)),.pointer (some (eo B (o+6) db)),.pointer (some (eo B (o+7) db)),.pointer (some (eo B (o+8) db)),.pointer (some (eo B (o+9) db))]
def aeb(B o j:J)(h:j<6):(rE B o)[j]?=some (.pointer (dk B (o+4+j))):=by
 match j,h with
 | 0,_=>rfl
 | 1,_=>rfl
 | 2,_=>rfl
 | 3,_=>rfl
 | 4,_=>rfl
 | 5,_=>rfl
def sW(o j:J):ai J:=[o,o+1,o+2,o+3]++(range j).map λi=>o+4+i
def ahH(c:gj eT)(p:eT×(J->U))(o j:J):c.steps p (sW o (j+1))=c.step (c.steps p (sW o j)) (o+4+j):=by
 unfold sW gj.steps;rw[th,k3,<-eh,te];rfl
structure An(c:gj eT)(w wr:aj)(B N o k j:J)(p:eT×(J->U)):ae where
 fr:Fr c wr B (c.steps p (sW o j)) (k+(6-j))
 ptr:wr.heap[N]?=some (ab (rE B o) 383 (0,0))
 new:N≠c.r/\N≠B
 keeps:ag (nh c B) w wr
theorem An.cell{w wr:aj}{N:J}(h:An c w wr B N o k j p)(i:J)(av:i<6):wr.cell? (ah N i)=some (.pointer (dk B (o+4+i))):=bb h.ptr (aeb B o i av)
def LL(an:c.qf)(o:J)(ar:o+9<60)(q:dw o=.i32)(h1:dw (o+1)=.i32)(h2:dw (o+2)=.i32)(a:dw (o+3)=.i32)(b:∀ j,j<6->dw (o+4+j)=.i64)(w:aj)(h:Fr c w B p (k+10)):aB 367 #[c.val,.pointer (dk B o)] w λe w'=>e=aV #[]/\Fr c w' B (c.steps p (sW o 6)) k/\ag (nh c B) w w':=by
 have R:=an.nf;have Q:=an.AI;have v:=λj (G:j<6) w p k=>wg (B:=B) (p:=p) (k:=k) an (o+4+j) I (b j G) w;have z:=λw p k=>AV (B:=B) (p:=p) (k:=k) an o I q h1 w;have A:=λw p k=>AV (B:=B) (p:=p) (k:=k) an (o+2) I h2 a w
 go_in
 go_wp2_with fail;refine aS (z _ _ _ h) λaq ⟨s,C⟩=>?_;go_wp2_with fail;refine aS (A _ _ _ s) λaF ⟨g,D⟩=>?_;go_wp2_with fail;refine cS 21 ?_;refine hU (λ_=>False) [0,1,2,3,4,5,6,7,8,9,10,11,12,13,14,15,16,17,20] [18,19] 0 ?_;refine iU λK d=>?_;go_simp;have m:ag aH aF.drew (aF.alloc (ab (rE B o) 383)).drew:=⟨rfl,rfl,rfl,aM,λk hk _=>Ci _ _ _ hk⟩;refine d _ _ (dB (m)) ?_;clear d K;refine lU λK d=>?_;go_simp;refine d _ _ (dB (m)) ?_;clear d K;refine kt ?_;have n:ag aH aF (aF.alloc (ab (rE B o) 383)).drew:=((ag.refl _ aF).alloc _).drew;have y:(aF.alloc (ab (rE B o) 383)).drew.heap[aF.heap.size]?=some (ab (rE B o) 383 (0,0)):=aP aF _;have t:=g.keeps an n id id;have L:=an.there g.st;have M:=bZ g.bh;have F:An c w (aF.alloc (ab (rE B o) 383)).drew B aF o k 0 p:=⟨t,y,⟨I,I⟩,(C.trans D).trans (n.mono λ_ _ x=>x.elim)⟩;have P:=ad F;clear F t y n m s g C D h z A L M q h1 h2 a b;change Exit.then _ _ _ _ (aF.alloc (ab (rE B o) 383)).drew;generalize (aF.alloc (ab (rE B o) 383)).drew=br at *;generalize aF.heap.size=N at *;have H:=ad v;clear v;go_wp2_with fail;go_loopw [5,36] (λ_ i wr=>∃ j:J,j<=6/\i=aa j/\Hid (An c w wr B N o k j p)) (λ_ i _=>6-(intOf i).toNat)
 case atStart=>exact⟨0,I,rfl,P⟩
 refine Tp;by_cases S:(j:U)<6
 .have V:=aU.out.cell j I;have r:=aU.out.fr;rw[show k+(6-j)=(k+(6-(j+1)))+1 by omega]at r;refine aK;refine aS (H.o j I _ _ _ r) λT ⟨u,E⟩=>?_;rw[<-ahH]at u;refine aK;go_roundw
  case rel=>
   have⟨h1,h2,⟨a,b⟩,l⟩:=aU.out;exact⟨j+1,I,cT,⟨u,E.heap h2 (λh=>h.elim a b),⟨a,b⟩,l.trans E⟩⟩
  simp[intOf];omega
 obtain rfl:j=6:=I;obtain⟨h1,h2,a,l⟩:=aU.out;go_wp2;refine Dq;exact⟨rfl,h1,l⟩
def st(l:ai aR)(left:J):J×J×J×U:=
 match l with
 | []=>(0,0,0,3)
 | x :: r=>if 63<x.toNat then(0,0,0,4)else if (cF r).2.2≠0 then(0,0,0,(cF r).2.2)else
  if (cF r).1=0\/left<(cF r).1 then(0,0,0,4)else(x.toNat,(cF r).1,(cF r).2.1+1,0)
def toList_data(s:cl):s.toList=s.data.toList:=ze s
def aeY{fn:Func}{t u v x:Tmp}(h:fn.results=#[.tmp t,.tmp u,.tmp v,.tmp x])(tmps:a6 ay)(P:Program)(w:aj):(results fn tmps).run P w=.ok (aV #[tmps.getD t undef,tmps.getD u undef,tmps.getD v undef,tmps.getD x undef]) w:=by
 simp[results,h]
def adS(s:cl)(aA:s.size<=maxLen)(left:J)(q:left<=64)(w:aj):aB 303 #[.string s,aa left] w λe w'=>
   e=aV #[bf ((st s.data.toList left).1:U),aa ((st s.data.toList left).2.1:U),aa ((st s.data.toList left).2.2.1:U),aa (st s.data.toList left).2.2.2]/\w=w':=by
 unfold maxLen at aA;by_cases d:s.size=0
 .have c:st s.data.toList left=(0,0,0,3):=by
   have:s.data.toList=[]:=p0.1 zG
   rw[this];rfl
  have a:=ad c;have hne:s.toList.isEmpty=true:=by
   rw[toList_data,show s.data.toList=[]from p0.1 zG];rfl
  exact SF
 have p:0<s.size:=I;have hd:s.data.toList=s[0] :: s.data.toList.drop 1:=by
  have h2:0<s.data.toList.length:=by simpa using p
  have:=qO h2
  rw[k2]at this;exact this
 have hne:s.toList.isEmpty=false:=by rw[toList_data,hd];rfl
 have c:st s.data.toList left=if 63<s[0].toNat then(0,0,0,4)else if (cF (s.data.toList.drop 1)).2.2≠0 then(0,0,0,(cF (s.data.toList.drop 1)).2.2)else
   if (cF (s.data.toList.drop 1)).1=0\/left<(cF (s.data.toList.drop 1)).1 then(0,0,0,4)else(s[0].toNat,(cF (s.data.toList.drop 1)).1,(cF (s.data.toList.drop 1)).2.1+1,0):=by
  rw[hd];rfl
 have h:=AN s 1;have i:(s.extract 1 s.size).size<=maxLen:=by simp;unfold maxLen;omega
 have f:=BA (s.data.toList.drop 1);by_cases al:63<s[0].toNat
 .rw[aD al]at c;have a:=ad c;exact SF
 rw[az al]at c;have a:=ad c;have g:=FK (s.extract 1 s.size) i;rw[h]at g;generalize s.data.toList.drop 1=r at *;clear h i;have t:IntKind.u64.wrap (left:U)=(left:U):=PF _ sb;have j:=f.1;unfold gL at j;have m:=f.2.1;have o:=f.2.2;clear f;by_cases b:(cF r).2.2=0
 .rw[az (by simpa using b)]at a;generalize l:cF r=R at *;have⟨n,k,e⟩:=R;simp only at b j m o a g;subst b;clear l;by_cases h1:n=0
  .rw[aD (.inl h1)]at a;subst h1;exact C_
  by_cases h2:left<n
  .rw[aD (.inr h2)]at a;exact C_
  rw[az I]at a;exact C_
 rw[aD b]at a;have u:((cF r).2.2 == 0)=false:=by rw[ep];exact b
 clear b;exact C_
def aeH(l:ai aR)(h:(cF l).2.2≠0):jV l=([],0,(cF l).2.2):=by unfold jV;rw[aD h]
def aeJ(l:ai aR)(h:(cF l).2.2=0)(h2:64<(cF l).1):jV l=([],0,5):=by unfold jV;rw[az j0,aD h2]
def aeI(l:ai aR)(h:(cF l).2.2=0)(h2:¬ 64<(cF l).1):jV l=iJ l (cF l).1 [] (cF l).2.1:=by unfold jV;rw[az j0,az h2]
def ahr(l:ai aR)(count:J)(out:ai aR)(k:J)(h:¬ count<=out.length)(d:∀ x,(l.drop k).head?=some x->out.getLast?≠some x)(b:(st (l.drop k) (count-out.length)).2.2.2≠0):iJ l count out k=([],0,(st (l.drop k) (count-out.length)).2.2.2):=by
 cases hd:l.drop k with
 | nil=>rw[afD _ _ _ _ h hd];rfl
 | cons x r=>
  rw[hd]at b d;have c:=d x rfl;by_cases h1:63<x.toNat
  .rw[Ov _ _ _ _ h x r hd (.inl h1)];simp only[st,aD h1]
  by_cases h2:(cF r).2.2=0
  .by_cases a:(cF r).1=0\/count-out.length<(cF r).1
   .rw[afE _ _ _ _ h x r hd (by simp[c,h1]) h2 a];simp only[st,az h1,az (xj h2),aD a]
   simp only[st,az h1,az (xj h2),az a]at b;exact absurd rfl b
  rw[afB _ _ _ _ h x r hd (by simp[c,h1]) h2];simp only[st,az h1,aD h2]
def aht(l:ai aR)(count:J)(out:ai aR)(k:J)(h:¬ count<=out.length)(c:∀ x,(l.drop k).head?=some x->out.getLast?≠some x)(a:(st (l.drop k) (count-out.length)).2.2.2=0):∃ x n m,st (l.drop k) (count-out.length)=(x.toNat,n,m,0)/\iJ l count out k=iJ l count (out++replicate n x) (k+m)/\1<=n/\n<=count-out.length/\k+m<=l.length:=by
 cases hd:l.drop k with
 | nil=>rw[hd]at a;cases a
 | cons x r=>
  rw[hd]at a c;have d:=c6 length hd;simp only[iv,eA]at d;have e:=(BA r).2.1;by_cases h1:63<x.toNat
  .simp only[st,aD h1]at a;cases a
  by_cases h2:(cF r).2.2=0
  .by_cases b:(cF r).1=0\/count-out.length<(cF r).1
   .simp only[st,az h1,az (xj h2),aD b]at a;cases a
   refine⟨x,(cF r).1,(cF r).2.1+1,?_,?_,I,I,I⟩
   .simp only[st,az h1,az (xj h2),az b]
   rw[Ow _ _ _ _ h x r hd (by simp[(c x rfl),h1]) h2 b,show k+1+(cF r).2.1=k+((cF r).2.1+1)by omega]
  simp only[st,az h1,aD h2]at a;exact absurd a h2
def Ny{w:aj}{L:ai aR}(h:w.ownsRow base 5 1 v L.length (L.map eW)):∃ a cap,v=.slice a L.length cap/\dy w a cap L:=by
 rcases id h.2 with⟨rfl,b⟩|⟨g,cap,c,rfl,_,_,h1,h2,_⟩
 .refine⟨none,0,by rw[b],I,c3 _,.inl (p0.1 b)⟩
 refine⟨_,cap,rfl,h1,h2,.inr ⟨g,0,rfl,λi av=>?_⟩⟩;rw[gM,h.cellAt i I];simp[av]
def Gu:ay->J|.slice _ n _=>n|_=>0
def adK{w:aj}{n:J}{l:ai ay}(h:w.ownsRow base 5 1 v n l):Gu v=n:=by
 rcases id h.2 with⟨rfl,a⟩|⟨g,cap,b,rfl,_⟩
 .exact a.symm
 rfl
def adL{w:aj}{n:J}{a:ai aR}{x:U}(c:aR)(aw:n=a.length+1)(h:w.ownsRow base 5 1 v n (a.map eW++[bf x]))(ak:x=c.toNat):w.ownsRow base 5 1 v (a++[c]).length ((a++[c]).map eW):=by
 subst aw;exact FI c h ak
def Ao(w:aj)(l:ai aR)(e:Ending)(w':aj):ae:=
 ∃ v,e=aV #[v,aa ((jV l).2.1:U),aa (jV l).2.2]/\w'.ownsRow w.heap.size 5 1 v (jV l).1.length ((jV l).1.map eW)/\Below w w w'
theorem FY{w:aj}{l:ai aR}{e:U}(h:jV l=([],0,e))(al:Below w w w'):Ao w l (aV #[au none 0 0,aa 0,aa e]) w':=
 ⟨au none 0 0,by rw[h];rfl,by rw[h];exact Ck _ _ _ _,al⟩
theorem aeS{w:aj}{l out:ai aR}{k:J}(h:jV l=(out,k,0))(ar:w'.ownsRow w 5 1 v out.length (out.map eW))(al:Below w w w'):Ao w l (aV #[v,aa (k:U),aa 0]) w':=
 ⟨v,by rw[h],by rw[h];exact ar,al⟩
def adO(s:cl)(aA:s.size<=maxLen)(w:aj):aB 243 #[.string s] w (Ao w s.data.toList):=by
 have⟨i0,av,X,Y,Z⟩:=pY yq;have j:=FK s aA w;unfold maxLen at aA;have m:=BA s.data.toList;by_cases h1:(cF s.data.toList).2.2=0
 case neg=>
  have d:=ad (aeH _ h1);have A:((cF s.data.toList).2.2 == 0)=false:=by rw[ep];exact h1
  clear h1 m;exact TR
 by_cases h2:64<(cF s.data.toList).1
 .have d:=ad (aeJ _ h1 h2);have Q:=m.1;unfold gL at Q;clear m;rw[h1]at j;exact TR
 have d:=ad (aeI _ h1 h2);rw[h1]at j;have N:(cF s.data.toList).2.1<=s.size:=by simpa using m.2.1
 clear h1 m;generalize (cF s.data.toList).2.1=R at *;generalize (cF s.data.toList).1=count at *
 go_in
 go_wp2_with fail;refine bJ j ?_;clear j;go_wp2_with fail
 go_loopw [6,8] (λat' v wr=>∃ (k:J) (out:ai aR),at'=aa k/\k<=s.size/\out.length<=count/\Hid (jV s.data.toList=iJ s.data.toList count out k)/\wr.ownsRow w 5 1 v out.length (out.map eW)/\Below w w wr)
  (λ_ v _=>count-Gu v)
 case atStart=>exact⟨R,[],rfl,N,c3 _,d,Ck _ _ _ _,b9 _ _⟩
 clear d;obtain⟨k,out,rfl,hk,gf,d,c,al⟩:=hrel;obtain⟨a,cap,rfl,p⟩:=Ny c;have lb:IntKind.i64.wrap (count:U)=(count:U):=e0 _ I;by_cases C:count<=out.length
 .have u:=ad (d.out.trans (Ou _ _ _ _ C));clear p;go_wp2;go_ret3;exact aeS u.o c al
 by_cases ar:out.length=0
 .have t:=ad (show ∀ x,(s.data.toList.drop k).head?=some x->out.getLast?≠some x from λx _ h=>by
   rw[p0.1 ar]at h;cases h)
  have z:wr.ownsRow w 5 1 (au a 0 cap) out.length (out.map eW):=by
   rw[show au a 0 cap=au a out.length cap by rw[ar]];exact c
  clear p;refine RI;rw[AN,show(left:U)=(count:U)by omega]at l;exact Q2
 have P:out≠[]:=λe=>ar (by rw[e];rfl);obtain⟨b,o,rfl,an⟩:=p.at' P;have fo:wr.cell? (ah b (o+(out.length-1)))=some (bf out[out.length-1].toNat):=an _ I;have n:out.getLast?=some out[out.length-1]:=by rw[getLast?_eq_getElem?,gW]
 have fr:(out.length:U)-1=((out.length-1:J):U):=I;clear an p;have z:=c;have g':0<out.length:=I;by_cases M:k<s.size
 .refine SZ;by_cases i:s[k]=out[out.length-1]
  .have u:=ad (d.out.trans (Ov _ _ _ _ C _ _ hd (.inr (by rw[n,i]))));have A:((s[k].toNat:U) == (out[out.length-1].toNat:U))=true:=by rw[iY,i]
   clear hd n i;go_wp2;go_quiet (fail);go_wp2;go_ret3;exact FY u.o ⟨al.1,al.2,al.3,al.4,al.5⟩
  have A:((s[k].toNat:U) == (out[out.length-1].toNat:U))=false:=by
   rw[ep];intro h;exact i (CK.1 I)
  have t:=ad (show ∀ x,(s.data.toList.drop k).head?=some x->out.getLast?≠some x from λx h h2=>by
   rw[hd]at h;rw[n]at h2;exact i (by simp at h h2;rw[h,h2]))
  clear hd n i;exact V9
 have t:=ad (show ∀ x,(s.data.toList.drop k).head?=some x->out.getLast?≠some x from λx h=>by
  rw[Cu b_]at h;cases h)
 clear n;exact V9
def QJ(h:ww:=by simp[results,results211,asAddr,loadVar,loadCells,isAgg91,sizeOf91,g]):=h
def QK(h:ww:=by simp[results,results213,asAddr,loadVar,loadCells,isAgg91,sizeOf91,g]):=h
def zy(h:ww:=by simp[results,results277,go_sem]):=h
end Go.Proofs.YtalagblioepadaaGreatDoor
