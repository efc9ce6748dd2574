/- The proof, part 15. -/
import Derived.Test.YtalagblioepadaaGreatDoorZd13
import Derived.Test.YtalagblioepadaaGreatDoorZd05
import Derived.Shelf.RegionOpen
import Derived.LoopNIn
import Derived.LoopIn
namespace Go.Proofs.YtalagblioepadaaGreatDoor
set_option linter.all false
open Proofs.Tryz List Go.RowKit
set_option maxRecDepth 100000
set_option maxHeartbeats 1000000
def vw{p:al}(h:p:=by rw[f];simp):p:=h
def ES{p:al}(h:p:=by
 have⟨x,n,m,F,d,vl,Y,P⟩:=Ym s.data.toList count out k y u.o (c▸g);rw[<-c]at F Y;rw[F]at f;have t:=ag (l.out.trans d);have E:k+m<=s.size:=by simpa using P
 have q:=ag f;have M:=ag c;clear F d g P f c;go_wp2_with fail;refine bE q.o ?_;clear q;go_wp2
 go_loopw [8,70] (λv i aD=>∃ j:J,j<=n/\i=I j/\aD.ownsRow w.heap.size 5 1 v (out++replicate j x).length ((out++replicate j x).map er)/\Below w w aD)
  (λ_ i _=>n-(intOf i).toNat)
 case atStart=>exact⟨0,de _,rfl,by rw[replicate_zero,eB];exact D,⟨ak.1,ak.2,ak.3,ak.4,ak.5⟩⟩
 clear r D ak;obtain⟨j,ps,rfl,r,ak⟩:=hrel;have w':(out++replicate j x).length=out.length+j:=aM;have sd:out.length+n<=count:=by have:=M.o;omega
 generalize N:out++replicate j x=W at *;have L:=ag N;clear N;by_cases r':j<n
 .go_wp2_with (at_builtin;refine qE _ rfl (.tmp 72) (.tmp 74) 51 rfl w.heap.size 5 i0 (aH 0) 1 1 underlying51 ax ab a' fr rfl bt _ _ _ rfl (r.alloc _) (ae wr 0 ad) 1 1 [aH (x.toNat:aa)] rfl rfl (oQ _ _ _) mZ kd U E4 ?_);intro v' ao K O _;have X:Below w w ao:=(ak.alloc ak.size _).grown O EO (λk e=>((r.alloc (af #[aH (x.toNat:aa)] 5)).lt k e).1);have Z:=U3 x U K rfl;clear K O r;go_wp2;go_roundw
  case rel=>exact⟨j+1,U,by go_num,by rw[En,<-dL,L.o];exact Z,X⟩
  simp[intOf];omega
 obtain rfl:j=n:=U;go_wp2;go_roundw
 case rel=>exact⟨k+m,W,by go_num,E,U,t.o.trans (by rw[L.o]),r,ak⟩
 have E:=U2 r;have s':=M.o;simp[C']at E⊢;omega
 ):p:=h
def Fb{p:al}(h:p:=by
 go_wp2_with fail;refine bE (g w) ?_;go_wp2
 try simp only[Exit.inBlock,Exit.then]
 refine c1 (CO rfl _ _ _) rfl ?_;exact⟨by rw[a.o];rfl,rfl⟩
 ):p:=h
def Oz{p:al}(h:p:=by
 go_wp2
 try simp only[Exit.inBlock,Exit.then]
 refine c1 (CO rfl _ _ _) rfl ?_;exact⟨by rw[a.o];rfl,rfl⟩
 ):p:=h
section
attribute [local go_sem] Oper.semAt_some
def Ru(L:ah aT)(k:J)(h:k<L.length)(h2:63<L[k].toNat):fits L=false:=by
 unfold fits
 have:L.all (λc=>decide (c.toNat<=63))=false:=by
  rw[all_eq_false];exact⟨L[k],mY h,b1⟩
 rw[this];rfl
def Rv(L:ah aT)(h:∀ i (ax:i<L.length),L[i].toNat<=63):fits L=decide (L.length<=64):=by
 unfold fits
 have:L.all (λc=>decide (c.toNat<=63))=true:=by
  rw[fw];intro c an;obtain⟨i,ax,rfl⟩:=xg an;simpa using h i ax
 rw[this];rfl
def Jy(w:aj)(a:b_ Addr)(cap:J)(L:ah aT)(h:c' w a cap L):aA 266 #[aq a L.length cap] w λe w'=>e=.returned (.bool (fits L))/\w=w':=by
 have hm:L.length<=9223372036854775807:=ca h.1 h.2.1
 go_in
 go_wp2
 go_loop [7] (λi=>∃ k:J,k<=L.length/\i=I k/\Hid (∀ i (ax:i<L.length),i<k->L[i].toNat<=63)) (λi=>L.length-(intOf i).toNat)
 case atStart=>exact⟨0,de _,rfl,λ_ _ h=>absurd h (kZ _)⟩
 obtain⟨k,hk,rfl,d⟩:=hrel;by_cases c:k<L.length
 .obtain⟨b,o,rfl,an⟩:=h.at' (by intro e;rw[e]at c;simp at c);have j:w.cell? (ae b (o+k) ad)=some (aH L[k].toNat):=an k c;clear an;by_cases ak:63<L[k].toNat
  .have f:=ag (Ru L k c ak);go_wp2;go_ret;exact⟨by rw[f.o];rfl,rfl⟩
  go_wp2
  go_round
  case rel=>exact⟨k+1,U,by go_num,λi ax h2=>by
   by_cases e:i=k
   .subst e;omega
   .exact d i ax U⟩
  simp[intOf];omega
 have g:=ag (Rv L λi ax=>d i ax U);go_wp2;go_ret;exact⟨by rw[g.o];exact lu (by simp;try omega),rfl⟩
def xQ(w:aj)(l m:ah aT)(h:l.length+m.length<=9223372036854775807):(Op.stringOp .add ⟨l.toArray⟩ ⟨m.toArray⟩).run prog w=.ok (.string ⟨(l++m).toArray⟩) w:=by
 have e:(ByteArray.mk l.toArray)++(ByteArray.mk m.toArray)=⟨(l++m).toArray⟩:=by apply ByteArray.ext;simp[Ma]
 have h2:=run_string_add_sum (P:=prog) w ⟨l.toArray⟩ ⟨m.toArray⟩ (by simpa[ByteArray.size]using h);rw[e]at h2;exact h2
def nF(c:aT)(n:J)(S:ah aT)(i:J)(v:ay)(w:aj):al:=
 match i with
 | 0=>v=.string ⟨S.toArray⟩
 | 1=>v=.int .u8 c.toNat
 | 2=>∃ B,v=.slice (some ⟨B,0,none⟩) 1 1/\w.cell? ⟨B,0,none⟩=some (.int .u8 c.toNat)
 | 3=>v=.string ⟨#[c]⟩
 | 4=>v=.int .i64 n
 | 5=>v=.int .u64 n
 | 6=>v=.string ⟨(num n).toArray⟩
 | 7=>v=.string ⟨(c :: num n).toArray⟩
 | 8=>v=.string ⟨(S++c :: num n).toArray⟩
 | _=>True
def Kd{c:aT}{n:J}{S:ah aT}{w w':aj}(h:Keeps aG w w')(i:J)(v:ay)(a:nF c n S i v w):nF c n S i v w':=by
 match i,a with
 | 2,⟨B,h1,h2⟩=>exact⟨B,h1,h.cell h2 id⟩
 | 0,a|1,a|3,a|4,a|5,a|6,a|7,a|8,a=>exact a
 | _+9,_=>trivial
def U8(w:aj)(a:b_ Addr)(cap:J)(L:ah aT)(h:c' w a cap L)(q:fits L=true):aA 203 #[aq a L.length cap] w λe w'=>e=aY #[.string ⟨(l_ L).toArray⟩,I 0]/\Below w w w':=by
 have C:L.length<=64:=by unfold fits at q;simp at q;exact q.2
 refine(gU (n:=0)).1 ?_;refine callsIn_of_wp_marks func203 rfl trivial ?_ rfl;simp only[ntmps203,hh,dy,fg,Nat.reduceAdd,Nat.reduceSub,s5,s6,tb,s8,nT,kV];have fr:=ag q;gi_wp2_with (fail);refine⟨trivial,rfl,gU.2 ((Jy w a cap L h).mono ?_)⟩;rintro e w' ⟨rfl,rfl⟩;rw[q];gi_wp2_with (fail);refine⟨trivial,rfl,gU.2 ((yY L.length qP _).mono ?_)⟩;rintro e ao ⟨rfl,m⟩;gi_wp2_with (fail);refine⟨trivial,rfl,gU.2 ((U_ _ a L.length cap).mono ?_)⟩;rintro e aD ⟨rfl,Y⟩;gi_wp2_with (fail);subst Y
 have M:c' ((ao.alloc (af #[.string ⟨(num L.length).toArray⟩] 9)).alloc (af #[aq a L.length cap] 51)) a cap L:=
  h.keeps (S:=λk=>w.heap.size<=k) (((Keeps.bJ m (λ_ _ h=>h)).alloc _).alloc _) (λhne x f Q=>absurd (h.lt hne x f) (Nat.not_lt.2 Q))
 refine DF (gf:=312) (lb:=#[.pointer (some (ae (ao+1) 0 ad))]) rfl (enters_of func312 aI rfl)
  (λ_=>rfl) (runs L) (λk=>k=ao.heap.size\/ao.heap.size+3<k) (λk=>k=ao.heap.size+1)
  (YB _ (ao.heap.size+1) aM a cap L (by go_simp) (by go_simp) M _ U (λhne x f=>by have:=h.lt hne x f;have:=m.size;simp;omega))
  b1 b1
  (λpre W=>W.cell? (ae ao 0 ad)=some (.string ⟨(num L.length++hc pre).toArray⟩)/\W.frozen? (ae ao 0 ad)=false/\Below w w W/\ao.heap.size+2<=W.heap.size)
  (λpre A B ⟨F,Z,G,i4⟩ sd hk=>⟨hk.cell F (λh=>m_),(hk.frozen (p:=ae ao 0 ad) (mU A _ F) (λh=>m_)).trans Z,G.trans (hk.below G.size (λk h1 h2=>by have:=m.size;simp at h2;omega)),ca i4 hk.size⟩)
  ⟨by simp only[hc,flatMap_nil,eB];exact q2 (oc _ _ _) _,RJ (oc _ _ _) (RI _ _ _) _,(m.alloc m.size _).alloc (by have:=m.size;simp;omega) _,aM⟩
  (λx=>{tmps:=#[aq a L.length cap,undef,.string {data:=#[]},I 0,.pointer (some (ae ao 0 ad)),aH x.1.toNat,I x.2,aq a L.length cap,.bool true,.bool false,aq a L.length cap,I L.length,.int .u64 L.length,.string ⟨(num L.length).toArray⟩,aq a L.length cap,.func (.func 312) #[] #[.pointer (some (ae (ao+1) 0 ad))],aH x.1.toNat,I x.2,undef,undef,undef,undef,undef,undef,undef,undef,undef,undef],defers:=[]})
  ?assign ?body ?done
 case assign=>
  intro l x W K H;gi_wp2;exact H
 case body=>
  rintro l pre ⟨c,n⟩ rest A R f ⟨an,z,t,X⟩ D;have av:=ca (CX _ L bx (c,n) vw).2 C;have V:=JH L C pre _ f;have ps:=oA n qP;simp only[cx]at V;have g':=ag D;clear R D;have E:n<fL:=by unfold fL;omega
  have s':=Lp n E;have T:prog.follows .mixedOrders=true:=aI;gi_wp2;gi_wp2
  refine Wq l 9 T aI
   (λbu=>{tmps:=#[aq a L.length cap,undef,.string {data:=#[]},I 0,.pointer (some (ae ao 0 ad)),aH c.toNat,I n,aq a L.length cap,.bool true,.bool false,aq a L.length cap,I L.length,.int .u64 L.length,.string ⟨(num L.length).toArray⟩,aq a L.length cap,.func (.func 312) #[] #[.pointer (some (ae (ao+1) 0 ad))],aH c.toNat,I n,bu 0,bu 1,bu 2,bu 3,bu 4,bu 5,bu 6,bu 7,bu 8,undef],defers:=[]})
   (λw=>Keeps aG A w) (nF c n (num L.length++hc pre)) (λ_=>undef) rfl ((Keeps.refl _ A).drew) ?hrun ?hfin
  case hrun=>
   intro i o bu W ax b aV hd;have y:=aV.cell an id
   match i,ax,b,hd with
   | 0,_,b,hd=>
    obtain rfl:=hi b;clear hd;go_simp;exact⟨.string ⟨(num L.length++hc pre).toArray⟩,by simp[hC],rfl⟩
   | 1,_,b,hd=>
    obtain rfl:=hi b;clear hd;go_simp;exact⟨aH c.toNat,by simp[hC],rfl⟩
   | 2,_,b,hd=>
    obtain rfl:=hi b;have d:=hd ⟨1,.data⟩ aM rfl;simp only[nF]at d;clear hd;go_simp;exact⟨aq (some (ae W 0 ad)) 1 1,by simp[hC,d],⟨W,rfl,by go_simp⟩,aV.alloc _,λj u h=>Kd ((Keeps.refl _ W).alloc _) j u h⟩
   | 3,_,b,hd=>
    obtain rfl:=hi b;have g:=hd ⟨2,.data⟩ aM rfl;simp only[nF]at g;obtain⟨B,g,ab⟩:=g;have l':=Qo W B c ab;clear hd;go_simp;exact⟨.string ⟨#[c]⟩,by simp[hC,g],rfl⟩
   | 4,_,b,hd=>
    obtain rfl:=hi b;clear hd;go_simp;exact⟨I n,by simp[hC],rfl⟩
   | 5,_,b,hd=>
    obtain rfl:=hi b;have d:=hd ⟨4,.data⟩ aM rfl;simp only[nF]at d;clear hd;go_simp;exact⟨.int .u64 n,by simp[hC,d],rfl⟩
   | 6,_,b,hd=>
    obtain rfl:=hi b;have d:=hd ⟨5,.data⟩ aM rfl;simp only[nF]at d;clear hd;go_simp;refine⟨trivial,rfl,CallsIn.inRound l (gU.2 ((yY n E _).mono ?_))⟩;rintro e bq ⟨rfl,s⟩;exact⟨.string ⟨(num n).toArray⟩,by simp[hC,d],rfl,aV.fT s,λj u h=>Kd ((Keeps.refl _ W).fT s) j u h⟩
   | 7,_,b,hd=>
    obtain rfl:=hi b;have d:=hd ⟨3,.data⟩ aM rfl;simp only[nF]at d;have g:=hd ⟨6,.data⟩ aM rfl;simp only[nF]at g;have O:=xQ W [c] (num n) b1;clear hd;go_simp;exact⟨.string ⟨(c :: num n).toArray⟩,by simp[hC,d,g],rfl⟩
   | 8,_,b,hd=>
    obtain rfl:=hi b;have d:=hd ⟨0,.data⟩ aM rfl;simp only[nF]at d;have g:=hd ⟨7,.data⟩ aM rfl;simp only[nF]at g;have O:=xQ W (num L.length++hc pre) (c :: num n) b1;clear hd;go_simp;exact⟨.string ⟨(num L.length++hc pre++c :: num n).toArray⟩,by simp[hC,d,g],rfl⟩
  intro hA aK bu W aV N;obtain rfl:=hi aK;have a':=N 8 U;simp only[nF]at a';have y:=aV.cell an id;have P:=(aV.frozen (p:=ae ao 0 ad) b1 id).trans z;go_simp
  have hk:Keeps (λk=>k=ao.heap.size\/ao.heap.size+3<k) A (W.setCell (ae ao 0 ad) (.string ⟨(num L.length++(hc pre++c :: num n)).toArray⟩)):=
   (aV.mono (λ_ _ h=>h.elim)).setCell (p:=ae ao 0 ad) (.inl rfl) _
  refine⟨rfl,hk,?_,by rw[Me];exact P,?_,ca X hk.size⟩
  .rw[W4];exact w8 _ _ _ y
  exact t.trans (hk.below t.size (λk h1 h2=>by have:=m.size;omega))
 rintro W ⟨an,z,v,r'⟩ r;gi_wp2;refine⟨aM,.inl ⟨_,_,rfl,run_takeDeferred r,?_⟩⟩;refine⟨_,results_tmp2 rfl _ _ _,rfl,?_⟩;have m':=(jv.1 r).1;exact v.trans (((Keeps.refl (λk=>w.heap.size<=k) W).putObj (by have:=m.size;simp;omega) _).below v.size a8)
end
def st(l:ah aT)(left:J):J×J×J×aa:=
 match l with
 | []=>(0,0,0,3)
 | x :: r=>if 63<x.toNat then(0,0,0,4)else if (cE r).2.2≠0 then(0,0,0,(cE r).2.2)else
  if (cE r).1=0\/left<(cE r).1 then(0,0,0,4)else(x.toNat,(cE r).1,(cE r).2.1+1,0)
def toList_data(s:ch):s.toList=s.data.toList:=w6 s
def CO{fn:Func}{t u v x:Tmp}(h:fn.results=#[.tmp t,.tmp u,.tmp v,.tmp x])(tmps:a7 ay)(P:Program)(w:aj):(results fn tmps).run P w=.ok (aY #[tmps.getD t undef,tmps.getD u undef,tmps.getD v undef,tmps.getD x undef]) w:=by
 simp[results,h]
def Cx(s:ch)(aw:s.size<=maxLen)(left:J)(t:left<=64)(w:aj):aA 303 #[.string s,I left] w λe w'=>
   e=aY #[aH ((st s.data.toList left).1:aa),I ((st s.data.toList left).2.1:aa),I ((st s.data.toList left).2.2.1:aa),I (st s.data.toList left).2.2.2]/\w=w':=by
 unfold maxLen at aw;by_cases d:s.size=0
 .have c:st s.data.toList left=(0,0,0,3):=by
   have:s.data.toList=[]:=jP.1 xB
   rw[this];rfl
  have a:=ag c;have hne:s.toList.isEmpty=true:=by
   rw[toList_data,show s.data.toList=[]from jP.1 xB];rfl
  go_in
  exact Oz
 have q:0<s.size:=U;have hd:s.data.toList=s[0] :: s.data.toList.drop 1:=by
  have h2:0<s.data.toList.length:=by simpa using q
  have:=pH h2
  rw[hF]at this;exact this
 have hne:s.toList.isEmpty=false:=by rw[toList_data,hd];rfl
 have c:st s.data.toList left=if 63<s[0].toNat then(0,0,0,4)else if (cE (s.data.toList.drop 1)).2.2≠0 then(0,0,0,(cE (s.data.toList.drop 1)).2.2)else
   if (cE (s.data.toList.drop 1)).1=0\/left<(cE (s.data.toList.drop 1)).1 then(0,0,0,4)else(s[0].toNat,(cE (s.data.toList.drop 1)).1,(cE (s.data.toList.drop 1)).2.1+1,0):=by
  rw[hd];rfl
 have h:=vV s 1;have i:(s.extract 1 s.size).size<=maxLen:=by simp;unfold maxLen;omega
 have f:=y6 (s.data.toList.drop 1);by_cases ak:63<s[0].toNat
 .rw[aE ak]at c;have a:=ag c
  go_in
  exact Oz
 rw[aB ak]at c;have a:=ag c;have g:=Cw (s.extract 1 s.size) i;rw[h]at g;generalize s.data.toList.drop 1=r at *;clear h i;have u:IntKind.u64.wrap (left:aa)=(left:aa):=Lp _ qP;have j:=f.1;unfold fL at j;have m:=f.2.1;have p:=f.2.2;clear f;by_cases b:(cE r).2.2=0
 .rw[aB (by simpa using b)]at a;generalize l:cE r=R at *;have⟨n,k,e⟩:=R;simp only at b j m p a g;subst b;clear l;by_cases h1:n=0
  .rw[aE (.inl h1)]at a;subst h1
   go_in
   exact Fb
  by_cases h2:left<n
  .rw[aE (.inr h2)]at a
   go_in
   exact Fb
  rw[aB U]at a
  go_in
  exact Fb
 rw[aE b]at a;have v:((cE r).2.2 == 0)=false:=by rw[eA];exact b
 clear b
 go_in
 go_wp2_with fail;refine bE (g w) ?_;go_wp2
 try simp only[Exit.inBlock,Exit.then]
 refine c1 (CO rfl _ _ _) rfl ?_;exact⟨by rw[a.o];rfl,rfl⟩
def VS(l:ah aT)(h:(cE l).2.2≠0):i_ l=([],0,(cE l).2.2):=by unfold i_;rw[aE h]
def VU(l:ah aT)(h:(cE l).2.2=0)(h2:64<(cE l).1):i_ l=([],0,5):=by unfold i_;rw[aB ic,aE h2]
def VT(l:ah aT)(h:(cE l).2.2=0)(h2:¬ 64<(cE l).1):i_ l=gM l (cE l).1 [] (cE l).2.1:=by unfold i_;rw[aB ic,aB h2]
def Da(l:ah aT)(count:J)(out:ah aT)(k:J)(h:¬ count<=out.length)(d:∀ x,(l.drop k).head?=some x->out.getLast?≠some x)(b:(st (l.drop k) (count-out.length)).2.2.2≠0):gM l count out k=([],0,(st (l.drop k) (count-out.length)).2.2.2):=by
 cases hd:l.drop k with
 | nil=>rw[Ww _ _ _ _ h hd];rfl
 | cons x r=>
  rw[hd]at b d;have c:=d x rfl;by_cases h1:63<x.toNat
  .rw[Ka _ _ _ _ h x r hd (.inl h1)];simp only[st,aE h1]
  by_cases h2:(cE r).2.2=0
  .by_cases a:(cE r).1=0\/count-out.length<(cE r).1
   .rw[Wx _ _ _ _ h x r hd (by simp[c,h1]) h2 a];simp only[st,aB h1,aB (vf h2),aE a]
   simp only[st,aB h1,aB (vf h2),aB a]at b;exact absurd rfl b
  rw[Wu _ _ _ _ h x r hd (by simp[c,h1]) h2];simp only[st,aB h1,aE h2]
def Ym(l:ah aT)(count:J)(out:ah aT)(k:J)(h:¬ count<=out.length)(c:∀ x,(l.drop k).head?=some x->out.getLast?≠some x)(a:(st (l.drop k) (count-out.length)).2.2.2=0):∃ x n m,st (l.drop k) (count-out.length)=(x.toNat,n,m,0)/\gM l count out k=gM l count (out++replicate n x) (k+m)/\1<=n/\n<=count-out.length/\k+m<=l.length:=by
 cases hd:l.drop k with
 | nil=>rw[hd]at a;cases a
 | cons x r=>
  rw[hd]at a c;have d:=c5 length hd;simp only[gg,dy]at d;have e:=(y6 r).2.1;by_cases h1:63<x.toNat
  .simp only[st,aE h1]at a;cases a
  by_cases h2:(cE r).2.2=0
  .by_cases b:(cE r).1=0\/count-out.length<(cE r).1
   .simp only[st,aB h1,aB (vf h2),aE b]at a;cases a
   refine⟨x,(cE r).1,(cE r).2.1+1,?_,?_,U,U,U⟩
   .simp only[st,aB h1,aB (vf h2),aB b]
   rw[Kb _ _ _ _ h x r hd (by simp[(c x rfl),h1]) h2 b,show k+1+(cE r).2.1=k+((cE r).2.1+1)by omega]
  simp only[st,aB h1,aE h2]at a;exact absurd a h2
def Jv{w:aj}{base:J}{v:ay}{L:ah aT}(h:w.ownsRow base 5 1 v L.length (L.map er)):∃ a cap,v=.slice a L.length cap/\c' w a cap L:=by
 rcases id h.2 with⟨rfl,b⟩|⟨g,cap,c,rfl,_,_,h1,h2,_⟩
 .refine⟨none,0,by rw[b],U,de _,.inl (jP.1 b)⟩
 refine⟨_,cap,rfl,h1,h2,.inr ⟨g,0,rfl,λi ax=>?_⟩⟩;rw[gP,h.cellAt i U];simp[ax]
def C':ay->J|.slice _ n _=>n|_=>0
def U2{w:aj}{base n:J}{v:ay}{l:ah ay}(h:w.ownsRow base 5 1 v n l):C' v=n:=by
 rcases id h.2 with⟨rfl,a⟩|⟨g,cap,b,rfl,_⟩
 .exact a.symm
 rfl
def U3{w:aj}{base n:J}{v:ay}{a:ah aT}{x:aa}(c:aT)(av:n=a.length+1)(h:w.ownsRow base 5 1 v n (a.map er++[aH x]))(b:x=c.toNat):w.ownsRow base 5 1 v (a++[c]).length ((a++[c]).map er):=by
 subst av;exact Cu c h b
def xM(w:aj)(l:ah aT)(e:Ending)(w':aj):al:=
 ∃ v,e=aY #[v,I ((i_ l).2.1:aa),I (i_ l).2.2]/\w'.ownsRow w.heap.size 5 1 v (i_ l).1.length ((i_ l).1.map er)/\Below w w w'
theorem uz{w w':aj}{l:ah aT}{e:aa}(h:i_ l=([],0,e))(ak:Below w w w'):xM w l (aY #[aq none 0 0,I 0,I e]) w':=
 ⟨aq none 0 0,by rw[h];rfl,by rw[h];exact zT _ _ _ _,ak⟩
theorem V3{w w':aj}{l out:ah aT}{v:ay}{k:J}(h:i_ l=(out,k,0))(a:w'.ownsRow w.heap.size 5 1 v out.length (out.map er))(ak:Below w w w'):xM w l (aY #[v,I (k:aa),I 0]) w':=
 ⟨v,by rw[h],by rw[h];exact a,ak⟩
def U6(s:ch)(aw:s.size<=maxLen)(w:aj):aA 243 #[.string s] w (xM w s.data.toList):=by
 have⟨i0,ax,ab,a',fr⟩:=nP t';have i:=Cw s aw w;unfold maxLen at aw;have n:=y6 s.data.toList;by_cases h1:(cE s.data.toList).2.2=0
 case neg=>
  have l:=ag (VS _ h1);have z:((cE s.data.toList).2.2 == 0)=false:=by rw[eA];exact h1
  clear h1 n
  go_in
  go_wp2_with fail;refine bE i ?_;clear i;go_wp2;go_ret3;exact uz l.o (b7 _ _)
 by_cases h2:64<(cE s.data.toList).1
 .have l:=ag (VU _ h1 h2);have T:=n.1;unfold fL at T;clear n;rw[h1]at i
  go_in
  go_wp2_with fail;refine bE i ?_;clear i;go_wp2;go_ret3;exact uz l.o (b7 _ _)
 have l:=ag (VT _ h1 h2);rw[h1]at i;have Q:(cE s.data.toList).2.1<=s.size:=by simpa using n.2.1
 clear h1 n;generalize (cE s.data.toList).2.1=V at *;generalize (cE s.data.toList).1=count at *
 go_in
 go_wp2_with fail;refine bE i ?_;clear i;go_wp2_with fail
 go_loopw [6,8] (λat' v wr=>∃ (k:J) (out:ah aT),at'=I k/\k<=s.size/\out.length<=count/\Hid (i_ s.data.toList=gM s.data.toList count out k)/\wr.ownsRow w.heap.size 5 1 v out.length (out.map er)/\Below w w wr)
  (λ_ v _=>count-C' v)
 case atStart=>exact⟨V,[],rfl,Q,de _,l,zT _ _ _ _,b7 _ _⟩
 clear l;obtain⟨k,out,rfl,hk,lb,l,r,ak⟩:=hrel;obtain⟨a,cap,rfl,A⟩:=Jv r;have m':IntKind.i64.wrap (count:aa)=(count:aa):=eG _ U;by_cases G:count<=out.length
 .have B:=ag (l.out.trans (CR _ _ _ _ G));clear A;go_wp2;go_ret3;exact V3 B.o r ak
 by_cases C:out.length=0
 .have u:=ag (show ∀ x,(s.data.toList.drop k).head?=some x->out.getLast?≠some x from λx _ h=>by
   rw[jP.1 C]at h;cases h)
  have D:wr.ownsRow w.heap.size 5 1 (aq a 0 cap) out.length (out.map er):=by
   rw[show aq a 0 cap=aq a out.length cap by rw[C]];exact r
  clear A;go_wp2;go_quiet (fail);obtain⟨left,c⟩:=cT (count-out.length);have m:(s.extract k s.size).size<=maxLen:=by simp;unfold maxLen;omega
  have f:=Cx (s.extract k s.size) m left U (wr.drewN nq);rw[vV,show(left:aa)=(count:aa)by omega]at f;have y:¬ count<=out.length:=U;have H:IntKind.i64.wrap (count:aa)=(count:aa):=eG _ U;by_cases g:(st (s.data.toList.drop k) left).2.2.2=0
  .exact ES
  have d:=Da s.data.toList count out k y u.o (c▸g);rw[<-c]at d;have t:=ag (l.out.trans d);have z:((st (s.data.toList.drop k) left).2.2.2 == 0)=false:=by rw[eA];exact g
  have q:=ag f;clear d g f c;go_wp2_with fail;refine bE q.o ?_;clear q;go_wp2;go_ret3;exact uz t.o ⟨ak.1,ak.2,ak.3,ak.4,ak.5⟩
 have S:out≠[]:=λe=>C (by rw[e];rfl);obtain⟨b,o,rfl,an⟩:=A.at' S;have gf:wr.cell? (ae b (o+(out.length-1)) ad)=some (aH out[out.length-1].toNat):=an _ U;have p:out.getLast?=some out[out.length-1]:=by rw[getLast?_eq_getElem?,gA]
 have g':(out.length:aa)-1=((out.length-1:J):aa):=U;clear an A;have D:=r;have l':0<out.length:=U;by_cases R:k<s.size
 .have hd:s.data.toList.drop k=s[k] :: s.data.toList.drop (k+1):=by
   rw[pH (by simpa using R)];rfl
  by_cases j:s[k]=out[out.length-1]
  .have B:=ag (l.out.trans (Ka _ _ _ _ G _ _ hd (.inr (by rw[p,j]))));have z:((s[k].toNat:aa) == (out[out.length-1].toNat:aa))=true:=by rw[nY,j]
   clear hd p j;go_wp2;go_quiet (fail);go_wp2;go_ret3;exact uz B.o ⟨ak.1,ak.2,ak.3,ak.4,ak.5⟩
  have z:((s[k].toNat:aa) == (out[out.length-1].toNat:aa))=false:=by
   rw[eA];intro h;exact j (Am.1 U)
  have u:=ag (show ∀ x,(s.data.toList.drop k).head?=some x->out.getLast?≠some x from λx h h2=>by
   rw[hd]at h;rw[p]at h2;exact j (by simp at h h2;rw[h,h2]))
  clear hd p j;go_wp2;go_quiet (fail);have⟨left,c⟩:=cT (count-out.length);have m:(s.extract k s.size).size<=maxLen:=by simp;unfold maxLen;omega
  have f:=Cx (s.extract k s.size) m left U (wr.drewN nq);rw[vV,show(left:aa)=(count:aa)-(out.length:aa)by omega]at f;have y:¬ count<=out.length:=U;have H:IntKind.i64.wrap (count:aa)=(count:aa):=eG _ U;by_cases g:(st (s.data.toList.drop k) left).2.2.2=0
  .exact ES
  have d:=Da s.data.toList count out k y u.o (c▸g);rw[<-c]at d;have t:=ag (l.out.trans d);have z:((st (s.data.toList.drop k) left).2.2.2 == 0)=false:=by rw[eA];exact g
  have q:=ag f;clear d g f c;go_wp2_with fail;refine bE q.o ?_;clear q;go_wp2;go_ret3;exact uz t.o ⟨ak.1,ak.2,ak.3,ak.4,ak.5⟩
 have u:=ag (show ∀ x,(s.data.toList.drop k).head?=some x->out.getLast?≠some x from λx h=>by
  rw[Ee b1]at h;cases h)
 clear p;go_wp2;go_quiet (fail);have⟨left,c⟩:=cT (count-out.length);have m:(s.extract k s.size).size<=maxLen:=by simp;unfold maxLen;omega
 have f:=Cx (s.extract k s.size) m left U (wr.drewN nq);rw[vV,show(left:aa)=(count:aa)-(out.length:aa)by omega]at f;have y:¬ count<=out.length:=U;have H:IntKind.i64.wrap (count:aa)=(count:aa):=eG _ U;by_cases g:(st (s.data.toList.drop k) left).2.2.2=0
 .exact ES
 have d:=Da s.data.toList count out k y u.o (c▸g);rw[<-c]at d;have t:=ag (l.out.trans d);have z:((st (s.data.toList.drop k) left).2.2.2 == 0)=false:=by rw[eA];exact g
 have q:=ag f;clear d g f c;go_wp2_with fail;refine bE q.o ?_;clear q;go_wp2;go_ret3;exact uz t.o ⟨ak.1,ak.2,ak.3,ak.4,ak.5⟩
end Go.Proofs.YtalagblioepadaaGreatDoor
