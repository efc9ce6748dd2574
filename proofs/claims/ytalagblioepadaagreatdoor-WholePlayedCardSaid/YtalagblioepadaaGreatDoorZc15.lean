/- The proof, part 15. -/
import Derived.Test.YtalagblioepadaaGreatDoorZc13
import Derived.Test.YtalagblioepadaaGreatDoorZc05
import Derived.Shelf.RegionOpen
import Derived.LoopNIn
import Derived.LoopIn
namespace Go.Proofs.YtalagblioepadaaGreatDoor
set_option linter.all false
open Proofs.Tryz List Go.RowKit
set_option maxRecDepth 100000
set_option maxHeartbeats 1000000
def vf{p:ak}(h:p:=by rw[f];simp):p:=h
def El{p:ak}(h:p:=by
 have⟨x,n,m,F,d,vl,Y,P⟩:=XA s.data.toList count out k y u.o (c▸g);rw[<-c]at F Y;rw[F]at f;have t:=af (l.out.trans d);have E:k+m<=s.size:=by simpa using P
 have q:=af f;have M:=af c;clear F d g P f c;go_wp2_with fail;refine bA q.o ?_;clear q;go_wp2
 go_loopw [8,70] (λv i aC=>∃ j:J,j<=n/\i=I j/\aC.ownsRow w.heap.size 5 1 v (out++replicate j x).length ((out++replicate j x).map ef)/\Below w w aC)
  (λ_ i _=>n-(intOf i).toNat)
 case atStart=>exact⟨0,c' _,rfl,by rw[replicate_zero,e4];exact D,⟨aj.1,aj.2,aj.3,aj.4,aj.5⟩⟩
 clear r D aj;obtain⟨j,ps,rfl,r,aj⟩:=hrel;have w':(out++replicate j x).length=out.length+j:=aK;have sd:out.length+n<=count:=by have:=M.o;omega
 generalize N:out++replicate j x=W at *;have L:=af N;clear N;by_cases r':j<n
 .go_wp2_with (at_builtin;refine ql _ rfl (.tmp 72) (.tmp 74) 51 rfl w.heap.size 5 i0 (aF 0) 1 1 underlying51 aw a' fr gf rfl bq _ _ _ rfl (r.alloc _) (ad wr 0 ab) 1 1 [aF (x.toNat:aa)] rfl rfl (oy _ _ _) mJ jY U Ew ?_);intro v' ao K O _;have X:Below w w ao:=(aj.alloc aj.size _).grown O Eg (λk e=>((r.alloc (ae #[aF (x.toNat:aa)] 5)).lt k e).1);have Z:=Uo x U K rfl;clear K O r;go_wp2;go_roundw
  case rel=>exact⟨j+1,U,by go_num,by rw[DR,<-dD,L.o];exact Z,X⟩
  simp[intOf];omega
 obtain rfl:j=n:=U;go_wp2;go_roundw
 case rel=>exact⟨k+m,W,by go_num,E,U,t.o.trans (by rw[L.o]),r,aj⟩
 have E:=Un r;have s':=M.o;simp[CE]at E⊢;omega
 ):p:=h
def EF{p:ak}(h:p:=by
 go_wp2_with fail;refine bA (g w) ?_;go_wp2
 try simp only[Exit.inBlock,Exit.then]
 refine cU (Ci rfl _ _ _) rfl ?_;exact⟨by rw[a.o];rfl,rfl⟩
 ):p:=h
def NO{p:ak}(h:p:=by
 go_wp2
 try simp only[Exit.inBlock,Exit.then]
 refine cU (Ci rfl _ _ _) rfl ?_;exact⟨by rw[a.o];rfl,rfl⟩
 ):p:=h
section
attribute [local go_sem] Oper.semAt_some
def QK(L:ah aR)(k:J)(h:k<L.length)(h2:63<L[k].toNat):fits L=false:=by
 unfold fits
 have:L.all (λc=>decide (c.toNat<=63))=false:=by
  rw[all_eq_false];exact⟨L[k],nC h,bT⟩
 rw[this];rfl
def QL(L:ah aR)(h:∀ i (aw:i<L.length),L[i].toNat<=63):fits L=decide (L.length<=64):=by
 unfold fits
 have:L.all (λc=>decide (c.toNat<=63))=true:=by
  rw[fg];intro c al;obtain⟨i,aw,rfl⟩:=w0 al;simpa using h i aw
 rw[this];rfl
def IV(w:ai)(a:b5 Addr)(cap:J)(L:ah aR)(h:c3 w a cap L):aA 266 #[aq a L.length cap] w λe w'=>e=.returned (.bool (fits L))/\w=w':=by
 have hm:L.length<=9223372036854775807:=b7 h.1 h.2.1
 go_in
 go_wp2
 go_loop [7] (λi=>∃ k:J,k<=L.length/\i=I k/\Hid (∀ i (aw:i<L.length),i<k->L[i].toNat<=63)) (λi=>L.length-(intOf i).toNat)
 case atStart=>exact⟨0,c' _,rfl,λ_ _ h=>absurd h (lp _)⟩
 obtain⟨k,hk,rfl,d⟩:=hrel;by_cases c:k<L.length
 .obtain⟨b,o,rfl,al⟩:=h.at' (by intro e;rw[e]at c;simp at c);have j:w.cell? (ad b (o+k) ab)=some (aF L[k].toNat):=al k c;clear al;by_cases aj:63<L[k].toNat
  .have f:=af (QK L k c aj);go_wp2;go_ret;exact⟨by rw[f.o];rfl,rfl⟩
  go_wp2
  go_round
  case rel=>exact⟨k+1,U,by go_num,λi aw h2=>by
   by_cases e:i=k
   .subst e;omega
   .exact d i aw U⟩
  simp[intOf];omega
 have g:=af (QL L λi aw=>d i aw U);go_wp2;go_ret;exact⟨by rw[g.o];exact k_ (by simp;try omega),rfl⟩
def xA(w:ai)(l m:ah aR)(h:l.length+m.length<=9223372036854775807):(Op.stringOp .add ⟨l.toArray⟩ ⟨m.toArray⟩).run prog w=.ok (.string ⟨(l++m).toArray⟩) w:=by
 have e:(ByteArray.mk l.toArray)++(ByteArray.mk m.toArray)=⟨(l++m).toArray⟩:=by apply ByteArray.ext;simp[Lx]
 have h2:=run_string_add_sum (P:=prog) w ⟨l.toArray⟩ ⟨m.toArray⟩ (by simpa[ByteArray.size]using h);rw[e]at h2;exact h2
def nk(c:aR)(n:J)(S:ah aR)(i:J)(v:ax)(w:ai):ak:=
 match i with
 | 0=>v=.string ⟨S.toArray⟩
 | 1=>v=.int .u8 c.toNat
 | 2=>∃ B,v=.slice (some ⟨B,0,none⟩) 1 1/\w.cell? ⟨B,0,none⟩=some (.int .u8 c.toNat)
 | 3=>v=.string ⟨#[c]⟩
 | 4=>v=.int .i64 n
 | 5=>v=.int .u64 n
 | 6=>v=.string ⟨(num n).toArray⟩
 | 7=>v=.string ⟨(c :: num n).toArray⟩
 | 8=>v=.string ⟨(S++c :: num n).toArray⟩
 | _=>True
def JC{c:aR}{n:J}{S:ah aR}{w w':ai}(h:Keeps aI w w')(i:J)(v:ax)(a:nk c n S i v w):nk c n S i v w':=by
 match i,a with
 | 2,⟨B,h1,h2⟩=>exact⟨B,h1,h.cell h2 id⟩
 | 0,a|1,a|3,a|4,a|5,a|6,a|7,a|8,a=>exact a
 | _+9,_=>trivial
def Ut(w:ai)(a:b5 Addr)(cap:J)(L:ah aR)(h:c3 w a cap L)(q:fits L=true):aA 203 #[aq a L.length cap] w λe w'=>e=aV #[.string ⟨(lU L).toArray⟩,I 0]/\Below w w w':=by
 have C:L.length<=64:=by unfold fits at q;simp at q;exact q.2
 refine(gK (n:=0)).1 ?_;refine callsIn_of_wp_marks func203 rfl trivial ?_ rfl;simp only[ntmps203,gW,ds,e_,Nat.reduceAdd,Nat.reduceSub,sJ,sK,sT,sM,nD,kF];have g':=af q;gi_wp2_with (fail);refine⟨trivial,rfl,gK.2 ((IV w a cap L h).mono ?_)⟩;rintro e w' ⟨rfl,rfl⟩;rw[q];gi_wp2_with (fail);refine⟨trivial,rfl,gK.2 ((yG L.length qy _).mono ?_)⟩;rintro e ao ⟨rfl,m⟩;gi_wp2_with (fail);refine⟨trivial,rfl,gK.2 ((Uv _ a L.length cap).mono ?_)⟩;rintro e aC ⟨rfl,Y⟩;gi_wp2_with (fail);subst Y
 have M:c3 ((ao.alloc (ae #[.string ⟨(num L.length).toArray⟩] 9)).alloc (ae #[aq a L.length cap] 51)) a cap L:=
  h.keeps (S:=λk=>w.heap.size<=k) (((Keeps.bD m (λ_ _ h=>h)).alloc _).alloc _) (λhne x f Q=>absurd (h.lt hne x f) (Nat.not_lt.2 Q))
 refine C_ (gf:=312) (lb:=#[.pointer (some (ad (ao+1) 0 ab))]) rfl (enters_of func312 aH rfl)
  (λ_=>rfl) (runs L) (λk=>k=ao.heap.size\/ao.heap.size+3<k) (λk=>k=ao.heap.size+1)
  (XS _ (ao.heap.size+1) aK a cap L (by go_simp) (by go_simp) M _ U (λhne x f=>by have:=h.lt hne x f;have:=m.size;simp;omega))
  bT bT
  (λpre W=>W.cell? (ad ao 0 ab)=some (.string ⟨(num L.length++gR pre).toArray⟩)/\W.frozen? (ad ao 0 ab)=false/\Below w w W/\ao.heap.size+2<=W.heap.size)
  (λpre A B ⟨F,Z,G,i4⟩ sd hk=>⟨hk.cell F (λh=>mK),(hk.frozen (p:=ad ao 0 ab) (mE A _ F) (λh=>mK)).trans Z,G.trans (hk.below G.size (λk h1 h2=>by have:=m.size;simp at h2;omega)),b7 i4 hk.size⟩)
  ⟨by simp only[gR,flatMap_nil,e4];exact qK (nS _ _ _) _,QZ (nS _ _ _) (QY _ _ _) _,(m.alloc m.size _).alloc (by have:=m.size;simp;omega) _,aK⟩
  (λx=>{tmps:=#[aq a L.length cap,undef,.string {data:=#[]},I 0,.pointer (some (ad ao 0 ab)),aF x.1.toNat,I x.2,aq a L.length cap,.bool true,.bool false,aq a L.length cap,I L.length,.int .u64 L.length,.string ⟨(num L.length).toArray⟩,aq a L.length cap,.func (.func 312) #[] #[.pointer (some (ad (ao+1) 0 ab))],aF x.1.toNat,I x.2,undef,undef,undef,undef,undef,undef,undef,undef,undef,undef],defers:=[]})
  ?assign ?body ?done
 case assign=>
  intro l x W K H;gi_wp2;exact H
 case body=>
  rintro l pre ⟨c,n⟩ rest A R f ⟨al,z,t,X⟩ D;have ar:=b7 (Cq _ L bs (c,n) vf).2 C;have V:=I4 L C pre _ f;have ps:=n' n qy;simp only[cx]at V;have l':=af D;clear R D;have E:n<fB:=by unfold fB;omega
  have s':=KO n E;have T:prog.follows .mixedOrders=true:=aH;gi_wp2;gi_wp2
  refine VJ l 9 T aH
   (λbr=>{tmps:=#[aq a L.length cap,undef,.string {data:=#[]},I 0,.pointer (some (ad ao 0 ab)),aF c.toNat,I n,aq a L.length cap,.bool true,.bool false,aq a L.length cap,I L.length,.int .u64 L.length,.string ⟨(num L.length).toArray⟩,aq a L.length cap,.func (.func 312) #[] #[.pointer (some (ad (ao+1) 0 ab))],aF c.toNat,I n,br 0,br 1,br 2,br 3,br 4,br 5,br 6,br 7,br 8,undef],defers:=[]})
   (λw=>Keeps aI A w) (nk c n (num L.length++gR pre)) (λ_=>undef) rfl ((Keeps.refl _ A).drew) ?hrun ?hfin
  case hrun=>
   intro i o br W aw b aT hd;have y:=aT.cell al id
   match i,aw,b,hd with
   | 0,_,b,hd=>
    obtain rfl:=ij b;clear hd;go_simp;exact⟨.string ⟨(num L.length++gR pre).toArray⟩,by simp[ho],rfl⟩
   | 1,_,b,hd=>
    obtain rfl:=ij b;clear hd;go_simp;exact⟨aF c.toNat,by simp[ho],rfl⟩
   | 2,_,b,hd=>
    obtain rfl:=ij b;have d:=hd ⟨1,.data⟩ aK rfl;simp only[nk]at d;clear hd;go_simp;exact⟨aq (some (ad W 0 ab)) 1 1,by simp[ho,d],⟨W,rfl,by go_simp⟩,aT.alloc _,λj u h=>JC ((Keeps.refl _ W).alloc _) j u h⟩
   | 3,_,b,hd=>
    obtain rfl:=ij b;have g:=hd ⟨2,.data⟩ aK rfl;simp only[nk]at g;obtain⟨B,g,a'⟩:=g;have mv:=PE W B c a';clear hd;go_simp;exact⟨.string ⟨#[c]⟩,by simp[ho,g],rfl⟩
   | 4,_,b,hd=>
    obtain rfl:=ij b;clear hd;go_simp;exact⟨I n,by simp[ho],rfl⟩
   | 5,_,b,hd=>
    obtain rfl:=ij b;have d:=hd ⟨4,.data⟩ aK rfl;simp only[nk]at d;clear hd;go_simp;exact⟨.int .u64 n,by simp[ho,d],rfl⟩
   | 6,_,b,hd=>
    obtain rfl:=ij b;have d:=hd ⟨5,.data⟩ aK rfl;simp only[nk]at d;clear hd;go_simp;refine⟨trivial,rfl,CallsIn.inRound l (gK.2 ((yG n E _).mono ?_))⟩;rintro e bm ⟨rfl,s⟩;exact⟨.string ⟨(num n).toArray⟩,by simp[ho,d],rfl,aT.fI s,λj u h=>JC ((Keeps.refl _ W).fI s) j u h⟩
   | 7,_,b,hd=>
    obtain rfl:=ij b;have d:=hd ⟨3,.data⟩ aK rfl;simp only[nk]at d;have g:=hd ⟨6,.data⟩ aK rfl;simp only[nk]at g;have O:=xA W [c] (num n) bT;clear hd;go_simp;exact⟨.string ⟨(c :: num n).toArray⟩,by simp[ho,d,g],rfl⟩
   | 8,_,b,hd=>
    obtain rfl:=ij b;have d:=hd ⟨0,.data⟩ aK rfl;simp only[nk]at d;have g:=hd ⟨7,.data⟩ aK rfl;simp only[nk]at g;have O:=xA W (num L.length++gR pre) (c :: num n) bT;clear hd;go_simp;exact⟨.string ⟨(num L.length++gR pre++c :: num n).toArray⟩,by simp[ho,d,g],rfl⟩
  intro hn aO br W aT N;obtain rfl:=ij aO;have fr:=N 8 U;simp only[nk]at fr;have y:=aT.cell al id;have P:=(aT.frozen (p:=ad ao 0 ab) bT id).trans z;go_simp
  have hk:Keeps (λk=>k=ao.heap.size\/ao.heap.size+3<k) A (W.setCell (ad ao 0 ab) (.string ⟨(num L.length++(gR pre++c :: num n)).toArray⟩)):=
   (aT.mono (λ_ _ h=>h.elim)).setCell (p:=ad ao 0 ab) (.inl rfl) _
  refine⟨rfl,hk,?_,by rw[LC];exact P,?_,b7 X hk.size⟩
  .rw[Wk];exact wS _ _ _ y
  exact t.trans (hk.below t.size (λk h1 h2=>by have:=m.size;omega))
 rintro W ⟨al,z,v,r'⟩ r;gi_wp2;refine⟨aK,.inl ⟨_,_,rfl,run_takeDeferred r,?_⟩⟩;refine⟨_,results_tmp2 rfl _ _ _,rfl,?_⟩;have m':=(kf.1 r).1;exact v.trans (((Keeps.refl (λk=>w.heap.size<=k) W).putObj (by have:=m.size;simp;omega) _).below v.size a7)
end
def st(l:ah aR)(left:J):J×J×J×aa:=
 match l with
 | []=>(0,0,0,3)
 | x :: r=>if 63<x.toNat then(0,0,0,4)else if (cz r).2.2≠0 then(0,0,0,(cz r).2.2)else
  if (cz r).1=0\/left<(cz r).1 then(0,0,0,4)else(x.toNat,(cz r).1,(cz r).2.1+1,0)
def toList_data(s:cc):s.toList=s.data.toList:=wQ s
def Ci{fn:Func}{t u v x:Tmp}(h:fn.results=#[.tmp t,.tmp u,.tmp v,.tmp x])(tmps:a6 ax)(P:Program)(w:ai):(results fn tmps).run P w=.ok (aV #[tmps.getD t undef,tmps.getD u undef,tmps.getD v undef,tmps.getD x undef]) w:=by
 simp[results,h]
def B3(s:cc)(av:s.size<=maxLen)(left:J)(t:left<=64)(w:ai):aA 303 #[.string s,I left] w λe w'=>
   e=aV #[aF ((st s.data.toList left).1:aa),I ((st s.data.toList left).2.1:aa),I ((st s.data.toList left).2.2.1:aa),I (st s.data.toList left).2.2.2]/\w=w':=by
 unfold maxLen at av;by_cases d:s.size=0
 .have c:st s.data.toList left=(0,0,0,3):=by
   have:s.data.toList=[]:=jx.1 xh
   rw[this];rfl
  have a:=af c;have hne:s.toList.isEmpty=true:=by
   rw[toList_data,show s.data.toList=[]from jx.1 xh];rfl
  go_in
  exact NO
 have q:0<s.size:=U;have hd:s.data.toList=s[0] :: s.data.toList.drop 1:=by
  have h2:0<s.data.toList.length:=by simpa using q
  have:=qm h2
  rw[hI]at this;exact this
 have hne:s.toList.isEmpty=false:=by rw[toList_data,hd];rfl
 have c:st s.data.toList left=if 63<s[0].toNat then(0,0,0,4)else if (cz (s.data.toList.drop 1)).2.2≠0 then(0,0,0,(cz (s.data.toList.drop 1)).2.2)else
   if (cz (s.data.toList.drop 1)).1=0\/left<(cz (s.data.toList.drop 1)).1 then(0,0,0,4)else(s[0].toNat,(cz (s.data.toList.drop 1)).1,(cz (s.data.toList.drop 1)).2.1+1,0):=by
  rw[hd];rfl
 have h:=vH s 1;have i:(s.extract 1 s.size).size<=maxLen:=by simp;unfold maxLen;omega
 have f:=yO (s.data.toList.drop 1);by_cases aj:63<s[0].toNat
 .rw[aD aj]at c;have a:=af c
  go_in
  exact NO
 rw[az aj]at c;have a:=af c;have g:=B2 (s.extract 1 s.size) i;rw[h]at g;generalize s.data.toList.drop 1=r at *;clear h i;have u:IntKind.u64.wrap (left:aa)=(left:aa):=KO _ qy;have j:=f.1;unfold fB at j;have m:=f.2.1;have p:=f.2.2;clear f;by_cases b:(cz r).2.2=0
 .rw[az (by simpa using b)]at a;generalize l:cz r=R at *;have⟨n,k,e⟩:=R;simp only at b j m p a g;subst b;clear l;by_cases h1:n=0
  .rw[aD (.inl h1)]at a;subst h1
   go_in
   exact EF
  by_cases h2:left<n
  .rw[aD (.inr h2)]at a
   go_in
   exact EF
  rw[az U]at a
  go_in
  exact EF
 rw[aD b]at a;have v:((cz r).2.2 == 0)=false:=by rw[eu];exact b
 clear b
 go_in
 go_wp2_with fail;refine bA (g w) ?_;go_wp2
 try simp only[Exit.inBlock,Exit.then]
 refine cU (Ci rfl _ _ _) rfl ?_;exact⟨by rw[a.o];rfl,rfl⟩
def Ve(l:ah aR)(h:(cz l).2.2≠0):iL l=([],0,(cz l).2.2):=by unfold iL;rw[aD h]
def Vg(l:ah aR)(h:(cz l).2.2=0)(h2:64<(cz l).1):iL l=([],0,5):=by unfold iL;rw[az ik,aD h2]
def Vf(l:ah aR)(h:(cz l).2.2=0)(h2:¬ 64<(cz l).1):iL l=gy l (cz l).1 [] (cz l).2.1:=by unfold iL;rw[az ik,az h2]
def CF(l:ah aR)(count:J)(out:ah aR)(k:J)(h:¬ count<=out.length)(d:∀ x,(l.drop k).head?=some x->out.getLast?≠some x)(b:(st (l.drop k) (count-out.length)).2.2.2≠0):gy l count out k=([],0,(st (l.drop k) (count-out.length)).2.2.2):=by
 cases hd:l.drop k with
 | nil=>rw[VO _ _ _ _ h hd];rfl
 | cons x r=>
  rw[hd]at b d;have c:=d x rfl;by_cases h1:63<x.toNat
  .rw[Jz _ _ _ _ h x r hd (.inl h1)];simp only[st,aD h1]
  by_cases h2:(cz r).2.2=0
  .by_cases a:(cz r).1=0\/count-out.length<(cz r).1
   .rw[VP _ _ _ _ h x r hd (by simp[c,h1]) h2 a];simp only[st,az h1,az (uR h2),aD a]
   simp only[st,az h1,az (uR h2),az a]at b;exact absurd rfl b
  rw[VM _ _ _ _ h x r hd (by simp[c,h1]) h2];simp only[st,az h1,aD h2]
def XA(l:ah aR)(count:J)(out:ah aR)(k:J)(h:¬ count<=out.length)(c:∀ x,(l.drop k).head?=some x->out.getLast?≠some x)(a:(st (l.drop k) (count-out.length)).2.2.2=0):∃ x n m,st (l.drop k) (count-out.length)=(x.toNat,n,m,0)/\gy l count out k=gy l count (out++replicate n x) (k+m)/\1<=n/\n<=count-out.length/\k+m<=l.length:=by
 cases hd:l.drop k with
 | nil=>rw[hd]at a;cases a
 | cons x r=>
  rw[hd]at a c;have d:=cV length hd;simp only[gm,ds]at d;have e:=(yO r).2.1;by_cases h1:63<x.toNat
  .simp only[st,aD h1]at a;cases a
  by_cases h2:(cz r).2.2=0
  .by_cases b:(cz r).1=0\/count-out.length<(cz r).1
   .simp only[st,az h1,az (uR h2),aD b]at a;cases a
   refine⟨x,(cz r).1,(cz r).2.1+1,?_,?_,U,U,U⟩
   .simp only[st,az h1,az (uR h2),az b]
   rw[JA _ _ _ _ h x r hd (by simp[(c x rfl),h1]) h2 b,show k+1+(cz r).2.1=k+((cz r).2.1+1)by omega]
  simp only[st,az h1,aD h2]at a;exact absurd a h2
def IS{w:ai}{base:J}{v:ax}{L:ah aR}(h:w.ownsRow base 5 1 v L.length (L.map ef)):∃ a cap,v=.slice a L.length cap/\c3 w a cap L:=by
 rcases id h.2 with⟨rfl,b⟩|⟨g,cap,c,rfl,_,_,h1,h2,_⟩
 .refine⟨none,0,by rw[b],U,c' _,.inl (jx.1 b)⟩
 refine⟨_,cap,rfl,h1,h2,.inr ⟨g,0,rfl,λi aw=>?_⟩⟩;rw[gC,h.cellAt i U];simp[aw]
def CE:ax->J|.slice _ n _=>n|_=>0
def Un{w:ai}{base n:J}{v:ax}{l:ah ax}(h:w.ownsRow base 5 1 v n l):CE v=n:=by
 rcases id h.2 with⟨rfl,a⟩|⟨g,cap,b,rfl,_⟩
 .exact a.symm
 rfl
def Uo{w:ai}{base n:J}{v:ax}{a:ah aR}{x:aa}(c:aR)(ar:n=a.length+1)(h:w.ownsRow base 5 1 v n (a.map ef++[aF x]))(b:x=c.toNat):w.ownsRow base 5 1 v (a++[c]).length ((a++[c]).map ef):=by
 subst ar;exact B0 c h b
def xx(w:ai)(l:ah aR)(e:Ending)(w':ai):ak:=
 ∃ v,e=aV #[v,I ((iL l).2.1:aa),I (iL l).2.2]/\w'.ownsRow w.heap.size 5 1 v (iL l).1.length ((iL l).1.map ef)/\Below w w w'
theorem ug{w w':ai}{l:ah aR}{e:aa}(h:iL l=([],0,e))(aj:Below w w w'):xx w l (aV #[aq none 0 0,I 0,I e]) w':=
 ⟨aq none 0 0,by rw[h];rfl,by rw[h];exact zx _ _ _ _,aj⟩
theorem Vp{w w':ai}{l out:ah aR}{v:ax}{k:J}(h:iL l=(out,k,0))(a:w'.ownsRow w.heap.size 5 1 v out.length (out.map ef))(aj:Below w w w'):xx w l (aV #[v,I (k:aa),I 0]) w':=
 ⟨v,by rw[h],by rw[h];exact a,aj⟩
def Ur(s:cc)(av:s.size<=maxLen)(w:ai):aA 243 #[.string s] w (xx w s.data.toList):=by
 have⟨i0,aw,a',fr,gf⟩:=ny tM;have i:=B2 s av w;unfold maxLen at av;have n:=yO s.data.toList;by_cases h1:(cz s.data.toList).2.2=0
 case neg=>
  have l:=af (Ve _ h1);have z:((cz s.data.toList).2.2 == 0)=false:=by rw[eu];exact h1
  clear h1 n
  go_in
  go_wp2_with fail;refine bA i ?_;clear i;go_wp2;go_ret3;exact ug l.o (b3 _ _)
 by_cases h2:64<(cz s.data.toList).1
 .have l:=af (Vg _ h1 h2);have T:=n.1;unfold fB at T;clear n;rw[h1]at i
  go_in
  go_wp2_with fail;refine bA i ?_;clear i;go_wp2;go_ret3;exact ug l.o (b3 _ _)
 have l:=af (Vf _ h1 h2);rw[h1]at i;have Q:(cz s.data.toList).2.1<=s.size:=by simpa using n.2.1
 clear h1 n;generalize (cz s.data.toList).2.1=V at *;generalize (cz s.data.toList).1=count at *
 go_in
 go_wp2_with fail;refine bA i ?_;clear i;go_wp2_with fail
 go_loopw [6,8] (λat' v wr=>∃ (k:J) (out:ah aR),at'=I k/\k<=s.size/\out.length<=count/\Hid (iL s.data.toList=gy s.data.toList count out k)/\wr.ownsRow w.heap.size 5 1 v out.length (out.map ef)/\Below w w wr)
  (λ_ v _=>count-CE v)
 case atStart=>exact⟨V,[],rfl,Q,c' _,l,zx _ _ _ _,b3 _ _⟩
 clear l;obtain⟨k,out,rfl,hk,l',l,r,aj⟩:=hrel;obtain⟨a,cap,rfl,A⟩:=IS r;have m':IntKind.i64.wrap (count:aa)=(count:aa):=ev _ U;by_cases G:count<=out.length
 .have B:=af (l.out.trans (Cl _ _ _ _ G));clear A;go_wp2;go_ret3;exact Vp B.o r aj
 by_cases C:out.length=0
 .have u:=af (show ∀ x,(s.data.toList.drop k).head?=some x->out.getLast?≠some x from λx _ h=>by
   rw[jx.1 C]at h;cases h)
  have D:wr.ownsRow w.heap.size 5 1 (aq a 0 cap) out.length (out.map ef):=by
   rw[show aq a 0 cap=aq a out.length cap by rw[C]];exact r
  clear A;go_wp2;go_quiet (fail);have⟨left,c⟩:=cO (count-out.length);have m:(s.extract k s.size).size<=maxLen:=by simp;unfold maxLen;omega
  have f:=B3 (s.extract k s.size) m left U (wr.drewN nq);rw[vH,show(left:aa)=(count:aa)by omega]at f;have y:¬ count<=out.length:=U;have H:IntKind.i64.wrap (count:aa)=(count:aa):=ev _ U;by_cases g:(st (s.data.toList.drop k) left).2.2.2=0
  .exact El
  have d:=CF s.data.toList count out k y u.o (c▸g);rw[<-c]at d;have t:=af (l.out.trans d);have z:((st (s.data.toList.drop k) left).2.2.2 == 0)=false:=by rw[eu];exact g
  have q:=af f;clear d g f c;go_wp2_with fail;refine bA q.o ?_;clear q;go_wp2;go_ret3;exact ug t.o ⟨aj.1,aj.2,aj.3,aj.4,aj.5⟩
 have S:out≠[]:=λe=>C (by rw[e];rfl);obtain⟨b,o,rfl,al⟩:=A.at' S;have g':wr.cell? (ad b (o+(out.length-1)) ab)=some (aF out[out.length-1].toNat):=al _ U;have p:out.getLast?=some out[out.length-1]:=by rw[getLast?_eq_getElem?,gl]
 have lb:(out.length:aa)-1=((out.length-1:J):aa):=U;clear al A;have D:=r;have mv:0<out.length:=U;by_cases R:k<s.size
 .have hd:s.data.toList.drop k=s[k] :: s.data.toList.drop (k+1):=by
   rw[qm (by simpa using R)];rfl
  by_cases j:s[k]=out[out.length-1]
  .have B:=af (l.out.trans (Jz _ _ _ _ G _ _ hd (.inr (by rw[p,j]))));have z:((s[k].toNat:aa) == (out[out.length-1].toNat:aa))=true:=by rw[nH,j]
   clear hd p j;go_wp2;go_quiet (fail);go_wp2;go_ret3;exact ug B.o ⟨aj.1,aj.2,aj.3,aj.4,aj.5⟩
  have z:((s[k].toNat:aa) == (out[out.length-1].toNat:aa))=false:=by
   rw[eu];intro h;exact j (zT.1 U)
  have u:=af (show ∀ x,(s.data.toList.drop k).head?=some x->out.getLast?≠some x from λx h h2=>by
   rw[hd]at h;rw[p]at h2;exact j (by simp at h h2;rw[h,h2]))
  clear hd p j;go_wp2;go_quiet (fail);have⟨left,c⟩:=cO (count-out.length);have m:(s.extract k s.size).size<=maxLen:=by simp;unfold maxLen;omega
  have f:=B3 (s.extract k s.size) m left U (wr.drewN nq);rw[vH,show(left:aa)=(count:aa)-(out.length:aa)by omega]at f;have y:¬ count<=out.length:=U;have H:IntKind.i64.wrap (count:aa)=(count:aa):=ev _ U;by_cases g:(st (s.data.toList.drop k) left).2.2.2=0
  .exact El
  have d:=CF s.data.toList count out k y u.o (c▸g);rw[<-c]at d;have t:=af (l.out.trans d);have z:((st (s.data.toList.drop k) left).2.2.2 == 0)=false:=by rw[eu];exact g
  have q:=af f;clear d g f c;go_wp2_with fail;refine bA q.o ?_;clear q;go_wp2;go_ret3;exact ug t.o ⟨aj.1,aj.2,aj.3,aj.4,aj.5⟩
 have u:=af (show ∀ x,(s.data.toList.drop k).head?=some x->out.getLast?≠some x from λx h=>by
  rw[DK bT]at h;cases h)
 clear p;go_wp2;go_quiet (fail);have⟨left,c⟩:=cO (count-out.length);have m:(s.extract k s.size).size<=maxLen:=by simp;unfold maxLen;omega
 have f:=B3 (s.extract k s.size) m left U (wr.drewN nq);rw[vH,show(left:aa)=(count:aa)-(out.length:aa)by omega]at f;have y:¬ count<=out.length:=U;have H:IntKind.i64.wrap (count:aa)=(count:aa):=ev _ U;by_cases g:(st (s.data.toList.drop k) left).2.2.2=0
 .exact El
 have d:=CF s.data.toList count out k y u.o (c▸g);rw[<-c]at d;have t:=af (l.out.trans d);have z:((st (s.data.toList.drop k) left).2.2.2 == 0)=false:=by rw[eu];exact g
 have q:=af f;clear d g f c;go_wp2_with fail;refine bA q.o ?_;clear q;go_wp2;go_ret3;exact ug t.o ⟨aj.1,aj.2,aj.3,aj.4,aj.5⟩
end Go.Proofs.YtalagblioepadaaGreatDoor
