/- The proof, part 15. -/
import Derived.Test.YtalagblioepadaaGreatDoorZb13
import Derived.Test.YtalagblioepadaaGreatDoorZb05
import Derived.Shelf.RegionOpen
import Derived.LoopNIn
import Derived.LoopIn
namespace Go.Proofs.YtalagblioepadaaGreatDoor
set_option linter.all false
open Proofs.Tryz List Go.RowKit
set_option maxRecDepth 100000
set_option maxHeartbeats 1000000
def uS{p:ak}(h:p:=by rw[f];simp):p:=h
def DY{p:ak}(h:p:=by
 have⟨x,n,m,F,d,w',Y,P⟩:=W0 s.data.toList count out k y u.o (c▸g);rw[<-c]at F Y;rw[F]at f;have t:=af (l.out.trans d);have E:k+m<=s.size:=by simpa using P
 have q:=af f;have M:=af c;clear F d g P f c;go_wp2_with fail;refine br q.o ?_;clear q;go_wp2
 go_loopw [8,70] (λv i aB=>∃ j:J,j<=n/\i=I j/\aB.ownsRow w.heap.size 5 1 v (out++replicate j x).length ((out++replicate j x).map eg)/\Below w w aB)
  (λ_ i _=>n-(intOf i).toNat)
 case atStart=>exact⟨0,c' _,rfl,by rw[replicate_zero,eX];exact D,⟨aj.1,aj.2,aj.3,aj.4,aj.5⟩⟩
 clear r D aj;obtain⟨j,r',rfl,r,aj⟩:=hrel;have ys:(out++replicate j x).length=out.length+j:=aI;have s':out.length+n<=count:=by have:=M.o;omega
 generalize N:out++replicate j x=W at *;have L:=af N;clear N;by_cases sd:j<n
 .go_wp2_with (at_builtin;refine p8 _ rfl (.tmp 72) (.tmp 74) 51 rfl w.heap.size 5 i0 (aF 0) 1 1 underlying51 av a' fr gf rfl bq _ _ _ rfl (r.alloc _) (ad wr 0 ab) 1 1 [aF (x.toNat:aa)] rfl rfl (oa _ _ _) mw jR U D7 ?_);intro v' an K O _;have X:Below w w an:=(aj.alloc aj.size _).grown O DS (λk e=>((r.alloc (ae #[aF (x.toNat:aa)] 5)).lt k e).1);have Z:=TM x U K rfl;clear K O r;go_wp2;go_roundw
  case rel=>exact⟨j+1,U,by go_num,by rw[Dr,<-dD,L.o];exact Z,X⟩
  simp[intOf];omega
 obtain rfl:j=n:=U;go_wp2;go_roundw
 case rel=>exact⟨k+m,W,by go_num,E,U,t.o.trans (by rw[L.o]),r,aj⟩
 have E:=TL r;have vl:=M.o;simp[Cf]at E⊢;omega
 ):p:=h
def Ed{p:ak}(h:p:=by
 go_wp2_with fail;refine br (g w) ?_;go_wp2
 try simp only[Exit.inBlock,Exit.then]
 refine cU (BW rfl _ _ _) rfl ?_;exact⟨by rw[a.o];rfl,rfl⟩
 ):p:=h
def Nd{p:ak}(h:p:=by
 go_wp2
 try simp only[Exit.inBlock,Exit.then]
 refine cU (BW rfl _ _ _) rfl ?_;exact⟨by rw[a.o];rfl,rfl⟩
 ):p:=h
section
attribute [local go_sem] Oper.semAt_some
def P'(L:ah aQ)(k:J)(h:k<L.length)(h2:63<L[k].toNat):fits L=false:=by
 unfold fits
 have:L.all (λc=>decide (c.toNat<=63))=false:=by
  rw[all_eq_false];exact⟨L[k],og h,bU⟩
 rw[this];rfl
def Qa(L:ah aQ)(h:∀ i (av:i<L.length),L[i].toNat<=63):fits L=decide (L.length<=64):=by
 unfold fits
 have:L.all (λc=>decide (c.toNat<=63))=true:=by
  rw[ff];intro c aq;obtain⟨i,av,rfl⟩:=wG aq;simpa using h i av
 rw[this];rfl
def It(w:ai)(a:b4 Addr)(cap:J)(L:ah aQ)(h:c1 w a cap L):az 266 #[ao a L.length cap] w λe w'=>e=.returned (.bool (fits L))/\w=w':=by
 have hm:L.length<=9223372036854775807:=b7 h.1 h.2.1
 go_in
 go_wp2
 go_loop [7] (λi=>∃ k:J,k<=L.length/\i=I k/\Hid (∀ i (av:i<L.length),i<k->L[i].toNat<=63)) (λi=>L.length-(intOf i).toNat)
 case atStart=>exact⟨0,c' _,rfl,λ_ _ h=>absurd h (k7 _)⟩
 obtain⟨k,hk,rfl,d⟩:=hrel;by_cases c:k<L.length
 .obtain⟨b,o,rfl,aq⟩:=h.at' (by intro e;rw[e]at c;simp at c);have j:w.cell? (ad b (o+k) ab)=some (aF L[k].toNat):=aq k c;clear aq;by_cases aj:63<L[k].toNat
  .have f:=af (P' L k c aj);go_wp2;go_ret;exact⟨by rw[f.o];rfl,rfl⟩
  go_wp2
  go_round
  case rel=>exact⟨k+1,U,by go_num,λi av h2=>by
   by_cases e:i=k
   .subst e;omega
   .exact d i av U⟩
  simp[intOf];omega
 have g:=af (Qa L λi av=>d i av U);go_wp2;go_ret;exact⟨by rw[g.o];exact kY (by simp;try omega),rfl⟩
def xe(w:ai)(l m:ah aQ)(h:l.length+m.length<=9223372036854775807):(Op.stringOp .add ⟨l.toArray⟩ ⟨m.toArray⟩).run prog w=.ok (.string ⟨(l++m).toArray⟩) w:=by
 have e:(ByteArray.mk l.toArray)++(ByteArray.mk m.toArray)=⟨(l++m).toArray⟩:=by apply ByteArray.ext;simp[K3]
 have h2:=run_string_add_sum (P:=prog) w ⟨l.toArray⟩ ⟨m.toArray⟩ (by simpa[ByteArray.size]using h);rw[e]at h2;exact h2
def mV(c:aQ)(n:J)(S:ah aQ)(i:J)(v:aw)(w:ai):ak:=
 match i with
 | 0=>v=.string ⟨S.toArray⟩
 | 1=>v=.int .u8 c.toNat
 | 2=>∃ B,v=.slice (some ⟨B,0,none⟩) 1 1/\w.cell? ⟨B,0,none⟩=some (.int .u8 c.toNat)
 | 3=>v=.string ⟨#[c]⟩
 | 4=>v=.int .i64 n
 | 5=>v=.int .u64 n
 | 6=>v=.string ⟨(num n).toArray⟩
 | 7=>v=.string ⟨(c :: num n).toArray⟩
 | 8=>v=.string ⟨(S++c :: num n).toArray⟩
 | _=>True
def I'{c:aQ}{n:J}{S:ah aQ}{w w':ai}(h:Keeps aG w w')(i:J)(v:aw)(a:mV c n S i v w):mV c n S i v w':=by
 match i,a with
 | 2,⟨B,h1,h2⟩=>exact⟨B,h1,h.cell h2 id⟩
 | 0,a|1,a|3,a|4,a|5,a|6,a|7,a|8,a=>exact a
 | _+9,_=>trivial
def TR(w:ai)(a:b4 Addr)(cap:J)(L:ah aQ)(h:c1 w a cap L)(q:fits L=true):az 203 #[ao a L.length cap] w λe w'=>e=aV #[.string ⟨(lF L).toArray⟩,I 0]/\Below w w w':=by
 have C:L.length<=64:=by unfold fits at q;simp at q;exact q.2
 refine(gD (n:=0)).1 ?_;refine callsIn_of_wp_marks func203 rfl trivial ?_ rfl;simp only[ntmps203,gR,dr,e2,Nat.reduceAdd,Nat.reduceSub,sx,sy,sF,sA,oi,ku];have g':=af q;gi_wp2_with (fail);refine⟨trivial,rfl,gD.2 ((It w a cap L h).mono ?_)⟩;rintro e w' ⟨rfl,rfl⟩;rw[q];gi_wp2_with (fail);refine⟨trivial,rfl,gD.2 ((yk L.length qh _).mono ?_)⟩;rintro e an ⟨rfl,m⟩;gi_wp2_with (fail);refine⟨trivial,rfl,gD.2 ((TU _ a L.length cap).mono ?_)⟩;rintro e aB ⟨rfl,Y⟩;gi_wp2_with (fail);subst Y
 have M:c1 ((an.alloc (ae #[.string ⟨(num L.length).toArray⟩] 9)).alloc (ae #[ao a L.length cap] 51)) a cap L:=
  h.keeps (S:=λk=>w.heap.size<=k) (((Keeps.bE m (λ_ _ h=>h)).alloc _).alloc _) (λhne x f Q=>absurd (h.lt hne x f) (Nat.not_lt.2 Q))
 refine CI (gf:=312) (lb:=#[.pointer (some (ad (an+1) 0 ab))]) rfl (enters_of func312 aH rfl)
  (λ_=>rfl) (runs L) (λk=>k=an.heap.size\/an.heap.size+3<k) (λk=>k=an.heap.size+1)
  (Xf _ (an.heap.size+1) aI a cap L (by go_simp) (by go_simp) M _ U (λhne x f=>by have:=h.lt hne x f;have:=m.size;simp;omega))
  bU bU
  (λpre W=>W.cell? (ad an 0 ab)=some (.string ⟨(num L.length++gN pre).toArray⟩)/\W.frozen? (ad an 0 ab)=false/\Below w w W/\an.heap.size+2<=W.heap.size)
  (λpre A B ⟨F,Z,G,i4⟩ s' hk=>⟨hk.cell F (λh=>mx),(hk.frozen (p:=ad an 0 ab) (mq A _ F) (λh=>mx)).trans Z,G.trans (hk.below G.size (λk h1 h2=>by have:=m.size;simp at h2;omega)),b7 i4 hk.size⟩)
  ⟨by simp only[gN,flatMap_nil,eX];exact qt (nB _ _ _) _,Qo (nB _ _ _) (Qn _ _ _) _,(m.alloc m.size _).alloc (by have:=m.size;simp;omega) _,aI⟩
  (λx=>{tmps:=#[ao a L.length cap,undef,.string {data:=#[]},I 0,.pointer (some (ad an 0 ab)),aF x.1.toNat,I x.2,ao a L.length cap,.bool true,.bool false,ao a L.length cap,I L.length,.int .u64 L.length,.string ⟨(num L.length).toArray⟩,ao a L.length cap,.func (.func 312) #[] #[.pointer (some (ad (an+1) 0 ab))],aF x.1.toNat,I x.2,undef,undef,undef,undef,undef,undef,undef,undef,undef,undef],defers:=[]})
  ?assign ?body ?done
 case assign=>
  intro l x W K H;gi_wp2;exact H
 case body=>
  rintro l pre ⟨c,n⟩ rest A R f ⟨aq,z,t,X⟩ D;have au:=b7 (B4 _ L bA (c,n) uS).2 C;have V:=IC L C pre _ f;have r':=nR n qh;simp only[cx]at V;have l':=af D;clear R D;have E:n<fy:=by unfold fy;omega
  have vl:=Ki n E;have T:prog.follows .mixedOrders=true:=aH;gi_wp2;gi_wp2
  refine U_ l 9 T aH
   (λbt=>{tmps:=#[ao a L.length cap,undef,.string {data:=#[]},I 0,.pointer (some (ad an 0 ab)),aF c.toNat,I n,ao a L.length cap,.bool true,.bool false,ao a L.length cap,I L.length,.int .u64 L.length,.string ⟨(num L.length).toArray⟩,ao a L.length cap,.func (.func 312) #[] #[.pointer (some (ad (an+1) 0 ab))],aF c.toNat,I n,bt 0,bt 1,bt 2,bt 3,bt 4,bt 5,bt 6,bt 7,bt 8,undef],defers:=[]})
   (λw=>Keeps aG A w) (mV c n (num L.length++gN pre)) (λ_=>undef) rfl ((Keeps.refl _ A).drew) ?hrun ?hfin
  case hrun=>
   intro i o bt W av b aU hd;have y:=aU.cell aq id
   match i,av,b,hd with
   | 0,_,b,hd=>
    obtain rfl:=h7 b;clear hd;go_simp;exact⟨.string ⟨(num L.length++gN pre).toArray⟩,by simp[hc],rfl⟩
   | 1,_,b,hd=>
    obtain rfl:=h7 b;clear hd;go_simp;exact⟨aF c.toNat,by simp[hc],rfl⟩
   | 2,_,b,hd=>
    obtain rfl:=h7 b;have d:=hd ⟨1,.data⟩ aI rfl;simp only[mV]at d;clear hd;go_simp;exact⟨ao (some (ad W 0 ab)) 1 1,by simp[hc,d],⟨W,rfl,by go_simp⟩,aU.alloc _,λj u h=>I' ((Keeps.refl _ W).alloc _) j u h⟩
   | 3,_,b,hd=>
    obtain rfl:=h7 b;have g:=hd ⟨2,.data⟩ aI rfl;simp only[mV]at g;obtain⟨B,g,a'⟩:=g;have m':=O2 W B c a';clear hd;go_simp;exact⟨.string ⟨#[c]⟩,by simp[hc,g],rfl⟩
   | 4,_,b,hd=>
    obtain rfl:=h7 b;clear hd;go_simp;exact⟨I n,by simp[hc],rfl⟩
   | 5,_,b,hd=>
    obtain rfl:=h7 b;have d:=hd ⟨4,.data⟩ aI rfl;simp only[mV]at d;clear hd;go_simp;exact⟨.int .u64 n,by simp[hc,d],rfl⟩
   | 6,_,b,hd=>
    obtain rfl:=h7 b;have d:=hd ⟨5,.data⟩ aI rfl;simp only[mV]at d;clear hd;go_simp;refine⟨trivial,rfl,CallsIn.inRound l (gD.2 ((yk n E _).mono ?_))⟩;rintro e bn ⟨rfl,s⟩;exact⟨.string ⟨(num n).toArray⟩,by simp[hc,d],rfl,aU.fE s,λj u h=>I' ((Keeps.refl _ W).fE s) j u h⟩
   | 7,_,b,hd=>
    obtain rfl:=h7 b;have d:=hd ⟨3,.data⟩ aI rfl;simp only[mV]at d;have g:=hd ⟨6,.data⟩ aI rfl;simp only[mV]at g;have O:=xe W [c] (num n) bU;clear hd;go_simp;exact⟨.string ⟨(c :: num n).toArray⟩,by simp[hc,d,g],rfl⟩
   | 8,_,b,hd=>
    obtain rfl:=h7 b;have d:=hd ⟨0,.data⟩ aI rfl;simp only[mV]at d;have g:=hd ⟨7,.data⟩ aI rfl;simp only[mV]at g;have O:=xe W (num L.length++gN pre) (c :: num n) bU;clear hd;go_simp;exact⟨.string ⟨(num L.length++gN pre++c :: num n).toArray⟩,by simp[hc,d,g],rfl⟩
  intro hb aN bt W aU N;obtain rfl:=h7 aN;have fr:=N 8 U;simp only[mV]at fr;have y:=aU.cell aq id;have P:=(aU.frozen (p:=ad an 0 ab) bU id).trans z;go_simp
  have hk:Keeps (λk=>k=an.heap.size\/an.heap.size+3<k) A (W.setCell (ad an 0 ab) (.string ⟨(num L.length++(gN pre++c :: num n)).toArray⟩)):=
   (aU.mono (λ_ _ h=>h.elim)).setCell (p:=ad an 0 ab) (.inl rfl) _
  refine⟨rfl,hk,?_,by rw[K7];exact P,?_,b7 X hk.size⟩
  .rw[VL];exact wz _ _ _ y
  exact t.trans (hk.below t.size (λk h1 h2=>by have:=m.size;omega))
 rintro W ⟨aq,z,v,sd⟩ r;gi_wp2;refine⟨aI,.inl ⟨_,_,rfl,run_takeDeferred r,?_⟩⟩;refine⟨_,results_tmp2 rfl _ _ _,rfl,?_⟩;have ps:=(j8.1 r).1;exact v.trans (((Keeps.refl (λk=>w.heap.size<=k) W).putObj (by have:=m.size;simp;omega) _).below v.size a7)
end
def st(l:ah aQ)(left:J):J×J×J×aa:=
 match l with
 | []=>(0,0,0,3)
 | x :: r=>if 63<x.toNat then(0,0,0,4)else if (cz r).2.2≠0 then(0,0,0,(cz r).2.2)else
  if (cz r).1=0\/left<(cz r).1 then(0,0,0,4)else(x.toNat,(cz r).1,(cz r).2.1+1,0)
def toList_data(s:cc):s.toList=s.data.toList:=wx s
def BW{fn:Func}{t u v x:Tmp}(h:fn.results=#[.tmp t,.tmp u,.tmp v,.tmp x])(tmps:a6 aw)(P:Program)(w:ai):(results fn tmps).run P w=.ok (aV #[tmps.getD t undef,tmps.getD u undef,tmps.getD v undef,tmps.getD x undef]) w:=by
 simp[results,h]
def BE(s:cc)(ax:s.size<=maxLen)(left:J)(t:left<=64)(w:ai):az 303 #[.string s,I left] w λe w'=>
   e=aV #[aF ((st s.data.toList left).1:aa),I ((st s.data.toList left).2.1:aa),I ((st s.data.toList left).2.2.1:aa),I (st s.data.toList left).2.2.2]/\w=w':=by
 unfold maxLen at ax;by_cases d:s.size=0
 .have c:st s.data.toList left=(0,0,0,3):=by
   have:s.data.toList=[]:=jn.1 wZ
   rw[this];rfl
  have a:=af c;have hne:s.toList.isEmpty=true:=by
   rw[toList_data,show s.data.toList=[]from jn.1 wZ];rfl
  go_in
  exact Nd
 have q:0<s.size:=U;have hd:s.data.toList=s[0] :: s.data.toList.drop 1:=by
  have h2:0<s.data.toList.length:=by simpa using q
  have:=p9 h2
  rw[hA]at this;exact this
 have hne:s.toList.isEmpty=false:=by rw[toList_data,hd];rfl
 have c:st s.data.toList left=if 63<s[0].toNat then(0,0,0,4)else if (cz (s.data.toList.drop 1)).2.2≠0 then(0,0,0,(cz (s.data.toList.drop 1)).2.2)else
   if (cz (s.data.toList.drop 1)).1=0\/left<(cz (s.data.toList.drop 1)).1 then(0,0,0,4)else(s[0].toNat,(cz (s.data.toList.drop 1)).1,(cz (s.data.toList.drop 1)).2.1+1,0):=by
  rw[hd];rfl
 have h:=vs s 1;have i:(s.extract 1 s.size).size<=maxLen:=by simp;unfold maxLen;omega
 have f:=yr (s.data.toList.drop 1);by_cases aj:63<s[0].toNat
 .rw[aD aj]at c;have a:=af c
  go_in
  exact Nd
 rw[aA aj]at c;have a:=af c;have g:=BD (s.extract 1 s.size) i;rw[h]at g;generalize s.data.toList.drop 1=r at *;clear h i;have u:IntKind.u64.wrap (left:aa)=(left:aa):=Ki _ qh;have j:=f.1;unfold fy at j;have m:=f.2.1;have p:=f.2.2;clear f;by_cases b:(cz r).2.2=0
 .rw[aA (by simpa using b)]at a;generalize l:cz r=R at *;have⟨n,k,e⟩:=R;simp only at b j m p a g;subst b;clear l;by_cases h1:n=0
  .rw[aD (.inl h1)]at a;subst h1
   go_in
   exact Ed
  by_cases h2:left<n
  .rw[aD (.inr h2)]at a
   go_in
   exact Ed
  rw[aA U]at a
  go_in
  exact Ed
 rw[aD b]at a;have v:((cz r).2.2 == 0)=false:=by rw[er];exact b
 clear b
 go_in
 go_wp2_with fail;refine br (g w) ?_;go_wp2
 try simp only[Exit.inBlock,Exit.then]
 refine cU (BW rfl _ _ _) rfl ?_;exact⟨by rw[a.o];rfl,rfl⟩
def UD(l:ah aQ)(h:(cz l).2.2≠0):iG l=([],0,(cz l).2.2):=by unfold iG;rw[aD h]
def UF(l:ah aQ)(h:(cz l).2.2=0)(h2:64<(cz l).1):iG l=([],0,5):=by unfold iG;rw[aA h8,aD h2]
def UE(l:ah aQ)(h:(cz l).2.2=0)(h2:¬ 64<(cz l).1):iG l=gp l (cz l).1 [] (cz l).2.1:=by unfold iG;rw[aA h8,aA h2]
def Cg(l:ah aQ)(count:J)(out:ah aQ)(k:J)(h:¬ count<=out.length)(d:∀ x,(l.drop k).head?=some x->out.getLast?≠some x)(b:(st (l.drop k) (count-out.length)).2.2.2≠0):gp l count out k=([],0,(st (l.drop k) (count-out.length)).2.2.2):=by
 cases hd:l.drop k with
 | nil=>rw[Ve _ _ _ _ h hd];rfl
 | cons x r=>
  rw[hd]at b d;have c:=d x rfl;by_cases h1:63<x.toNat
  .rw[I8 _ _ _ _ h x r hd (.inl h1)];simp only[st,aD h1]
  by_cases h2:(cz r).2.2=0
  .by_cases a:(cz r).1=0\/count-out.length<(cz r).1
   .rw[Vf _ _ _ _ h x r hd (by simp[c,h1]) h2 a];simp only[st,aA h1,aA (uC h2),aD a]
   simp only[st,aA h1,aA (uC h2),aA a]at b;exact absurd rfl b
  rw[Vc _ _ _ _ h x r hd (by simp[c,h1]) h2];simp only[st,aA h1,aD h2]
def W0(l:ah aQ)(count:J)(out:ah aQ)(k:J)(h:¬ count<=out.length)(c:∀ x,(l.drop k).head?=some x->out.getLast?≠some x)(a:(st (l.drop k) (count-out.length)).2.2.2=0):∃ x n m,st (l.drop k) (count-out.length)=(x.toNat,n,m,0)/\gp l count out k=gp l count (out++replicate n x) (k+m)/\1<=n/\n<=count-out.length/\k+m<=l.length:=by
 cases hd:l.drop k with
 | nil=>rw[hd]at a;cases a
 | cons x r=>
  rw[hd]at a c;have d:=cV length hd;simp only[gd,dr]at d;have e:=(yr r).2.1;by_cases h1:63<x.toNat
  .simp only[st,aD h1]at a;cases a
  by_cases h2:(cz r).2.2=0
  .by_cases b:(cz r).1=0\/count-out.length<(cz r).1
   .simp only[st,aA h1,aA (uC h2),aD b]at a;cases a
   refine⟨x,(cz r).1,(cz r).2.1+1,?_,?_,U,U,U⟩
   .simp only[st,aA h1,aA (uC h2),aA b]
   rw[I9 _ _ _ _ h x r hd (by simp[(c x rfl),h1]) h2 b,show k+1+(cz r).2.1=k+((cz r).2.1+1)by omega]
  simp only[st,aA h1,aD h2]at a;exact absurd a h2
def Iq{w:ai}{base:J}{v:aw}{L:ah aQ}(h:w.ownsRow base 5 1 v L.length (L.map eg)):∃ a cap,v=.slice a L.length cap/\c1 w a cap L:=by
 rcases id h.2 with⟨rfl,b⟩|⟨g,cap,c,rfl,_,_,h1,h2,_⟩
 .refine⟨none,0,by rw[b],U,c' _,.inl (jn.1 b)⟩
 refine⟨_,cap,rfl,h1,h2,.inr ⟨g,0,rfl,λi av=>?_⟩⟩;rw[gv,h.cellAt i U];simp[av]
def Cf:aw->J|.slice _ n _=>n|_=>0
def TL{w:ai}{base n:J}{v:aw}{l:ah aw}(h:w.ownsRow base 5 1 v n l):Cf v=n:=by
 rcases id h.2 with⟨rfl,a⟩|⟨g,cap,b,rfl,_⟩
 .exact a.symm
 rfl
def TM{w:ai}{base n:J}{v:aw}{a:ah aQ}{x:aa}(c:aQ)(au:n=a.length+1)(h:w.ownsRow base 5 1 v n (a.map eg++[aF x]))(b:x=c.toNat):w.ownsRow base 5 1 v (a++[c]).length ((a++[c]).map eg):=by
 subst au;exact BB c h b
def xb(w:ai)(l:ah aQ)(e:Ending)(w':ai):ak:=
 ∃ v,e=aV #[v,I ((iG l).2.1:aa),I (iG l).2.2]/\w'.ownsRow w.heap.size 5 1 v (iG l).1.length ((iG l).1.map eg)/\Below w w w'
theorem tQ{w w':ai}{l:ah aQ}{e:aa}(h:iG l=([],0,e))(aj:Below w w w'):xb w l (aV #[ao none 0 0,I 0,I e]) w':=
 ⟨ao none 0 0,by rw[h];rfl,by rw[h];exact y' _ _ _ _,aj⟩
theorem UO{w w':ai}{l out:ah aQ}{v:aw}{k:J}(h:iG l=(out,k,0))(a:w'.ownsRow w.heap.size 5 1 v out.length (out.map eg))(aj:Below w w w'):xb w l (aV #[v,I (k:aa),I 0]) w':=
 ⟨v,by rw[h],by rw[h];exact a,aj⟩
def TP(s:cc)(ax:s.size<=maxLen)(w:ai):az 243 #[.string s] w (xb w s.data.toList):=by
 have⟨i0,av,a',fr,gf⟩:=ng tw;have i:=BD s ax w;unfold maxLen at ax;have n:=yr s.data.toList;by_cases h1:(cz s.data.toList).2.2=0
 case neg=>
  have l:=af (UD _ h1);have z:((cz s.data.toList).2.2 == 0)=false:=by rw[er];exact h1
  clear h1 n
  go_in
  go_wp2_with fail;refine br i ?_;clear i;go_wp2;go_ret3;exact tQ l.o (bY _ _)
 by_cases h2:64<(cz s.data.toList).1
 .have l:=af (UF _ h1 h2);have T:=n.1;unfold fy at T;clear n;rw[h1]at i
  go_in
  go_wp2_with fail;refine br i ?_;clear i;go_wp2;go_ret3;exact tQ l.o (bY _ _)
 have l:=af (UE _ h1 h2);rw[h1]at i;have Q:(cz s.data.toList).2.1<=s.size:=by simpa using n.2.1
 clear h1 n;generalize (cz s.data.toList).2.1=V at *;generalize (cz s.data.toList).1=count at *
 go_in
 go_wp2_with fail;refine br i ?_;clear i;go_wp2_with fail
 go_loopw [6,8] (λat' v wr=>∃ (k:J) (out:ah aQ),at'=I k/\k<=s.size/\out.length<=count/\Hid (iG s.data.toList=gp s.data.toList count out k)/\wr.ownsRow w.heap.size 5 1 v out.length (out.map eg)/\Below w w wr)
  (λ_ v _=>count-Cf v)
 case atStart=>exact⟨V,[],rfl,Q,c' _,l,y' _ _ _ _,bY _ _⟩
 clear l;obtain⟨k,out,rfl,hk,l',l,r,aj⟩:=hrel;obtain⟨a,cap,rfl,A⟩:=Iq r;have ps:IntKind.i64.wrap (count:aa)=(count:aa):=et _ U;by_cases G:count<=out.length
 .have B:=af (l.out.trans (BZ _ _ _ _ G));clear A;go_wp2;go_ret3;exact UO B.o r aj
 by_cases C:out.length=0
 .have u:=af (show ∀ x,(s.data.toList.drop k).head?=some x->out.getLast?≠some x from λx _ h=>by
   rw[jn.1 C]at h;cases h)
  have D:wr.ownsRow w.heap.size 5 1 (ao a 0 cap) out.length (out.map eg):=by
   rw[show ao a 0 cap=ao a out.length cap by rw[C]];exact r
  clear A;go_wp2;go_quiet (fail);obtain⟨left,c⟩:=cQ (count-out.length);have m:(s.extract k s.size).size<=maxLen:=by simp;unfold maxLen;omega
  have f:=BE (s.extract k s.size) m left U (wr.drewN nq);rw[vs,show(left:aa)=(count:aa)by omega]at f;have y:¬ count<=out.length:=U;have H:IntKind.i64.wrap (count:aa)=(count:aa):=et _ U;by_cases g:(st (s.data.toList.drop k) left).2.2.2=0
  .exact DY
  have d:=Cg s.data.toList count out k y u.o (c▸g);rw[<-c]at d;have t:=af (l.out.trans d);have z:((st (s.data.toList.drop k) left).2.2.2 == 0)=false:=by rw[er];exact g
  have q:=af f;clear d g f c;go_wp2_with fail;refine br q.o ?_;clear q;go_wp2;go_ret3;exact tQ t.o ⟨aj.1,aj.2,aj.3,aj.4,aj.5⟩
 have S:out≠[]:=λe=>C (by rw[e];rfl);obtain⟨b,o,rfl,aq⟩:=A.at' S;have g':wr.cell? (ad b (o+(out.length-1)) ab)=some (aF out[out.length-1].toNat):=aq _ U;have p:out.getLast?=some out[out.length-1]:=by rw[getLast?_eq_getElem?,gb]
 have lb:(out.length:aa)-1=((out.length-1:J):aa):=U;clear aq A;have D:=r;have m':0<out.length:=U;by_cases R:k<s.size
 .have hd:s.data.toList.drop k=s[k] :: s.data.toList.drop (k+1):=by
   rw[p9 (by simpa using R)];rfl
  by_cases j:s[k]=out[out.length-1]
  .have B:=af (l.out.trans (I8 _ _ _ _ G _ _ hd (.inr (by rw[p,j]))));have z:((s[k].toNat:aa) == (out[out.length-1].toNat:aa))=true:=by rw[np,j]
   clear hd p j;go_wp2;go_quiet (fail);go_wp2;go_ret3;exact tQ B.o ⟨aj.1,aj.2,aj.3,aj.4,aj.5⟩
  have z:((s[k].toNat:aa) == (out[out.length-1].toNat:aa))=false:=by
   rw[er];intro h;exact j (zz.1 U)
  have u:=af (show ∀ x,(s.data.toList.drop k).head?=some x->out.getLast?≠some x from λx h h2=>by
   rw[hd]at h;rw[p]at h2;exact j (by simp at h h2;rw[h,h2]))
  clear hd p j;go_wp2;go_quiet (fail);have⟨left,c⟩:=cQ (count-out.length);have m:(s.extract k s.size).size<=maxLen:=by simp;unfold maxLen;omega
  have f:=BE (s.extract k s.size) m left U (wr.drewN nq);rw[vs,show(left:aa)=(count:aa)-(out.length:aa)by omega]at f;have y:¬ count<=out.length:=U;have H:IntKind.i64.wrap (count:aa)=(count:aa):=et _ U;by_cases g:(st (s.data.toList.drop k) left).2.2.2=0
  .exact DY
  have d:=Cg s.data.toList count out k y u.o (c▸g);rw[<-c]at d;have t:=af (l.out.trans d);have z:((st (s.data.toList.drop k) left).2.2.2 == 0)=false:=by rw[er];exact g
  have q:=af f;clear d g f c;go_wp2_with fail;refine br q.o ?_;clear q;go_wp2;go_ret3;exact tQ t.o ⟨aj.1,aj.2,aj.3,aj.4,aj.5⟩
 have u:=af (show ∀ x,(s.data.toList.drop k).head?=some x->out.getLast?≠some x from λx h=>by
  rw[Dj bU]at h;cases h)
 clear p;go_wp2;go_quiet (fail);have⟨left,c⟩:=cQ (count-out.length);have m:(s.extract k s.size).size<=maxLen:=by simp;unfold maxLen;omega
 have f:=BE (s.extract k s.size) m left U (wr.drewN nq);rw[vs,show(left:aa)=(count:aa)-(out.length:aa)by omega]at f;have y:¬ count<=out.length:=U;have H:IntKind.i64.wrap (count:aa)=(count:aa):=et _ U;by_cases g:(st (s.data.toList.drop k) left).2.2.2=0
 .exact DY
 have d:=Cg s.data.toList count out k y u.o (c▸g);rw[<-c]at d;have t:=af (l.out.trans d);have z:((st (s.data.toList.drop k) left).2.2.2 == 0)=false:=by rw[er];exact g
 have q:=af f;clear d g f c;go_wp2_with fail;refine br q.o ?_;clear q;go_wp2;go_ret3;exact tQ t.o ⟨aj.1,aj.2,aj.3,aj.4,aj.5⟩
end Go.Proofs.YtalagblioepadaaGreatDoor
