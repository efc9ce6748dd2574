/- The proof, part 10. -/
import Derived.Test.YtalagblioepadaaGreatDoorZb04
import Derived.Test.YtalagblioepadaaGreatDoorZb02
import Derived.RangeFuncBox
namespace Go.Proofs.YtalagblioepadaaGreatDoor
set_option linter.all false
open Proofs.Tryz List Go.RowKit
set_option maxRecDepth 100000
set_option maxHeartbeats 1000000
def uR{p:ak}(h:p:=by rw[f.o];rfl):p:=h
def jR{p:ak}(h:p:=by unfold maxLen;omega):p:=h
def zI{p:ak}(h:p:=by have:=z.o;simp;omega):p:=h
def D7{p:ak}(h:p:=by have:=aj.size;simp;omega):p:=h
def DS{p:ak}(h:p:=by simpa using Nat.le_succ_of_le aj.size):p:=h
def Me{p:ak}(h:p:=by
 have q:=Xn t k U;have F:(raw p (t.data.toList.take k)).2+((raw p (t.data.toList.take k)).1+(t[k].toNat:aa))<=4294690200:=by
  have:=(BO p (t.data.toList.take (k+1)) c bU).2.2
  rwa [q,BP]at this
 have u:=af q;clear q;have E:(0:aa)<=(t[k].toNat:aa)/\(t[k].toNat:aa)<=255:=by have:=t[k].toNat_lt;omega
 go_wp2
 go_round
 case rel=>exact⟨k+1,U,by go_num,by rw[u.o,BP];rfl,by rw[u.o,BP];rfl⟩
 simp[intOf];omega
 ):p:=h
def xu(w:ai)(s:cc):∃ cap an,(convert 9 51 (.string s)).run prog w=.ok (ao (some (ad w 0 ab)) s.size cap) an/\s.size<=cap/\Below w w an/\an.heap.size=w.heap.size+1/\
  (∀ i (h:i<s.size),an.cell? (ad w i ab)=some (aF (s.data.toList[i]'(h8)).toNat))/\∀ i,i<s.size->an.frozen? (ad w i ab)=false:=by
 refine⟨_,_,run_bytes_of_string w 9 51 5 s underlying9 underlying51 underlying5,C9 _ _ _ _,?_,?_,?_,?_⟩
 .exact((bY _ _).drew).alloc bA _
 .show(w.heap.push _).size=_;simp
 .intro i h;show(w.drew.alloc _).cell? (ad w.drew.heap.size i ab)=_;rw[World.cell?_alloc_mark,bytesRow_at s _ i h];simp
 intro i h;show(w.drew.alloc _).frozen? (ad w.drew.heap.size i ab)=_;rw[World.frozen?_alloc_mark]
 have:=C9 w s.size 0 5
 have a:s.data.size=s.size:=rfl;simp[bytesRow,a];omega
def tw:(prog.info? 5).map (λi=>(i.zero,i.size,i.bytes))=some (some (aF 0),1,1):=aH
def eg(c:aQ):aw:=aF c.toNat
def FM{w:ai}{base n:J}{v:aw}(l:ah aQ)(h:w.ownsRow base 5 1 v n (l.map eg)):(convert 51 9 v).run prog w=.ok (.string ⟨l.toArray⟩) w:=by
 obtain⟨a,aX⟩:=id h;simp at a;rcases aX with⟨rfl,rfl⟩|⟨g,cap,b,rfl,_⟩
 .obtain rfl:l=[]:=jn.1 a;rw[run_convert_bytes_nil w 51 5 underlying51 underlying5 0 0 9 underlying9];rfl
 subst a;refine C_ w 51 9 5 (ad g 0 ab) cap l underlying51 underlying5 underlying9 λj m=>?_;rw[hN,gv,h.cellAt j uP];simp[m,eg]
def BB{w:ai}{base:J}{v:aw}{a:ah aQ}{x:aa}(c:aQ)(h:w.ownsRow base 5 1 v (a.length+1) (a.map eg++[aF x]))(b:x=c.toNat):w.ownsRow base 5 1 v (a++[c]).length ((a++[c]).map eg):=by
 simpa[eg,b]using h
def yk(N:J)(g:N<fy)(w:ai):az 267 #[.int .u64 N] w λe w'=>e=.returned (.string ⟨(num N).toArray⟩)/\Below w w w':=by
 have⟨q,av,j,l,p⟩:=ng tw;have z:=nR N g
 go_in
 go_wp2
 go_loopw [0,3] (λn v wr=>∃ (m:J) (a:ah aQ),n=.int .u64 m/\m<=N/\num N=a++num m/\wr.ownsRow w.heap.size 5 1 v a.length (a.map eg)/\Below w w wr)
  (λn _ _=>(intOf n).toNat)
 case atStart=>exact⟨N,[],rfl,c9 _,rfl,y' _ _ _ _,bY _ _⟩
 obtain⟨m,a,rfl,hm,h,b,aj⟩:=hrel;have x:a.length<=10:=by have:=cV length h;simp at this;omega
 have f:=af h;by_cases i:m<128
 .go_wp2_with (at_builtin;refine p8 _ rfl (.tmp 15) (.tmp 18) 51 rfl w.heap.size 5 q (aF 0) 1 1 underlying51 av j l p rfl bq _ _ _ rfl (b.alloc _) (ad wr 0 ab) 1 1 [aF (m:aa)] rfl rfl (oa _ _ _) mw jR U D7 ?_);intro v' an c d _;have s:=(aj.alloc aj.size _).grown d DS (λk e=>((b.alloc (ae #[aF (m:aa)] 5)).lt k e).1);have y:=FM _ (BB (UInt8.ofNat m) c bU);have hfin:num N=a++[UInt8.ofNat m]:=by rw[f.o,rV m i]
  go_wp2;go_ret;exact⟨by rw[hfin];rfl,s⟩
 have A:bits .or .u8 ((m:aa)%128) 128=(m:aa)%128+128:=by
  have h2:=nat_join 7 128 ((m:aa)%128).toNat bq U;rw[(u8_or (((m:aa)%128)) 128 U U bq bq),Nat.or_comm];simp only[Int.reduceToNat]at *;omega
 go_wp2_with (at_builtin;refine p8 _ rfl (.tmp 8) (.tmp 13) 51 rfl w.heap.size 5 q (aF 0) 1 1 underlying51 av j l p rfl bq _ _ _ rfl (b.alloc _) (ad wr 0 ab) 1 1 [aF ((m:aa)%128+128)] rfl rfl (oa _ _ _) mw jR U D7 ?_);intro v' an c d _;have B:IntKind.u64.wrap ((m:aa) / 128)=(m:aa) / 128:=IntWalk.u64_in _ (by unfold fy at g;omega);have t:num N=(a++[UInt8.ofNat (m%128+128)])++num (m / 128):=by rw[f.o,vR m i];simp
 have u:=BB (UInt8.ofNat (m%128+128)) c bU;have r:=af t;go_wp2;go_roundw
 case rel=>exact⟨m / 128,_,by go_num,b7 (Du _ _) hm,r.o,u,((aj.alloc aj.size _).grown d DS (λk e=>((b.alloc (ae #[aF ((m:aa)%128+128)] 5)).lt k e).1))⟩
 have hd:m / 128<m:=Nat.div_lt_self U bq;simp[intOf];omega
def WE(k:J)(x:aa)(hk:k<=9)(a:0<=x/\x<128)(h:¬ (k=9/\1<x)):(x*2 ^ (7*k) / 2 ^ (7*k) != x)=false/\IntKind.u64.wrap (x*2 ^ (7*k))=x*2 ^ (7*k):=by
 rw[wrap_u64];rcases (show k=0\/k=1\/k=2\/k=3\/k=4\/k=5\/k=6\/k=7\/k=8\/k=9 by omega)with rfl|rfl|rfl|rfl|rfl|rfl|rfl|rfl|rfl|rfl<;>(simp only[Nat.reduceMul,Int.reducePow,bne_eq_false_iff_eq];omega)
def WD(k:J)(hk:k=9)(x:aa)(a:1<x/\x<128):(IntKind.u64.wrap (x*2 ^ (7*k)) / 2 ^ (7*k) != x)=true:=by
 subst hk;rw[wrap_u64];simp only[Nat.reduceMul,Int.reducePow,DB,ne_eq];omega
def TI(k a x:J)(hk:k<=9)(d:x<128)(h:¬ (k=9/\1<x))(bj:a<128 ^ k):bits .or .u64 (a:aa) ((x:aa)*2 ^ (7*k))=((a+x*128 ^ k:J):aa):=by
 have c:=(BT k a x hk d h bj).1;have e:((x:aa)*2 ^ (7*k))=((x*128 ^ k:J):aa):=by
  rw[Nat.pow_mul 2 7 k |> λ(h:2 ^ (7*k)=(2 ^ 7) ^ k)=>show(128:J) ^ k=2 ^ (7*k)from h.symm];simp
 have b:128 ^ k=2 ^ (7*k):=(Nat.pow_mul 2 7 k).symm;unfold fy at c;rw[e,u64_or_nat _ _ U U,Nat.or_comm,nat_join (7*k) (x*128 ^ k) a (by rw[b];exact Nat.mul_mod_left _ _) (by rw[<-b];exact bj),qc]
def BD(s:cc)(ax:s.size<=maxLen)(w:ai):az 302 #[.string s] w λe w'=>e=aV #[.int .u64 ((cz s.data.toList).1:aa),I ((cz s.data.toList).2.1:aa),I (cz s.data.toList).2.2]/\w=w':=by
 unfold maxLen at ax
 go_in
 go_wp2_with fail
 go_loop [5,11] (λn i=>∃ k a:J,k<=s.size/\k<=10/\i=I k/\n=.int .u64 a/\a<128 ^ k/\a<fy/\cz s.data.toList=iW k a (s.data.toList.drop k)) (λ_ i=>s.size-(intOf i).toNat)
 case atStart=>exact⟨0,0,U,U,rfl,rfl,bq,bq,rfl⟩
 obtain⟨k,a,hk,E,rfl,rfl,bj,r,b⟩:=hrel;by_cases x:k<s.size
 .have hd:s.data.toList.drop k=s[k] :: s.data.toList.drop (k+1):=by
   rw[p9 (by simpa using x)];rfl
  rw[hd]at b;have p:=af bj;have C:(0:aa)<=(s[k].toNat:aa)/\(s[k].toNat:aa)<=255:=by have:=s[k].toNat_lt;omega
  clear hd bj;by_cases d:9<k\/(k=9/\1<s[k].toNat%128)
  .rw[IU _ _ _ _ d]at b;have f:=af b;clear b;by_cases B:9<k
   .clear d;go_wp2_with fail;go_ret3;exact⟨uR,rfl⟩
   have v:=WD k U ((s[k].toNat:aa)%128) U;have g:k<=9:=U;clear d;go_wp2_with fail;go_ret3;exact⟨uR,rfl⟩
  have g:k<=9:=U;have⟨v,F⟩:=WE k ((s[k].toNat:aa)%128) g U U;by_cases h2:s[k].toNat=0/\0<k
  .rw[IT _ _ _ _ d h2]at b;have f:=af b;have j:(s[k].toNat:aa)<128:=U;have h1:0<k:=h2.2;have A:((s[k].toNat:aa)%128 == 0)=true:=by rw[np];omega
   clear b d h2;go_wp2_with fail;go_ret3;exact⟨uR,rfl⟩
  have y:bits .or .u64 (a:aa) ((s[k].toNat:aa)%128*2 ^ (7*k))=((a+s[k].toNat%128*128 ^ k:J):aa):=TI k a (s[k].toNat%128) g (eW _ bq) U p.o;have m:=BT k a (s[k].toNat%128) g (eW _ bq) U p.o;by_cases l:s[k].toNat<128
  .rw[BQ _ _ _ _ d h2 l]at b;have f:=af b;have t:s[k].toNat%128=s[k].toNat:=ja l;by_cases q:s[k].toNat=0
   .have G:bits .or .u64 (a:aa) 0=(a:aa):=by
     have h:=u64_or_nat a 0 (by unfold fy at r;exact r) bq;simpa using h
    have D:¬ 0<k:=λc=>h2 ⟨q,c⟩;have z:((s[k].toNat:aa)%128 == 0)=true:=by rw[np];omega
    have u:a+s[k].toNat%128*128 ^ k=a:=by rw[q];simp
    rw[u]at f;clear b d h2 y m t u;go_wp2_with fail;go_ret3;exact⟨uR,rfl⟩
   have z:((s[k].toNat:aa)%128 == 0)=false:=by rw[er];omega
   clear b d h2 t;go_wp2_with fail;go_ret3;exact⟨uR,rfl⟩
  rw[BR _ _ _ _ d h2 l]at b;have f:=af b;clear b d h2;go_wp2_with fail
  go_round
  case rel=>exact⟨k+1,_,U,U,by go_num,rfl,m.2,m.1,f.o⟩
  simp[intOf];omega
 have j:s.data.toList.drop k=[]:=Dj bU;rw[j]at b;have f:=af b;clear b j bj;go_wp2_with fail;go_ret3;exact⟨uR,rfl⟩
def Ki(a:J)(h:a<fy):IntKind.u64.wrap (a:aa)=(a:aa):=by unfold fy at h;exact IntWalk.u64_in _ U
def YH(a:J)(h:a<18446744073709551616):a ^^^ 18446744073709551615=18446744073709551615-a:=by
 have e:(BitVec.ofNat 64 a ^^^ BitVec.allOnes 64).toNat=(~~~ BitVec.ofNat 64 a).toNat:=by rw[K2]
 rw[BitVec.toNat_xor,BitVec.toNat_not,BitVec.toNat_ofNat,BitVec.toNat_allOnes,ja U]at e;simpa using e
def YN(n:aa)(h:-9223372036854775808<=n/\n<=9223372036854775807):bits .xor .u64 (IntKind.u64.wrap (wrap64 (n*2))) (IntKind.u64.wrap (n / 9223372036854775808))=(fz n:aa):=by
 rw[wrap_u64,wrap_u64];by_cases c:0<=n
 .have a:wrap64 (n*2)%18446744073709551616=2*n:=by unfold wrap64;omega
  have b:n / 9223372036854775808%18446744073709551616=0:=U;rw[a,b,u64_xor _ _ U U bq bq];unfold fz;rw[aD c];simp
 have a:wrap64 (n*2)%18446744073709551616=2*n+18446744073709551616:=by unfold wrap64;omega
 have b:n / 9223372036854775808%18446744073709551616=18446744073709551615:=U;rw[a,b,u64_xor _ _ U U bq bq];have d:(18446744073709551615:aa).toNat=18446744073709551615:=rfl;rw[d,YH _ U];unfold fz;rw[aA c];omega
def Tv:BitVec.ofInt 64 (-1)=BitVec.allOnes 64:=bq
def YJ(a:J)(h:a<fy):bits .xor .i64 (wrap64 ((a:aa) / 2)) (wrap64 (-wrap64 (bits .and .u64 (a:aa) 1)))=ui a:=by
 unfold fy at h;have d:bits .and .u64 (a:aa) 1=((a%2:J):aa):=by
  have h1:=u64_and_nat a 1 h bq;rw[nat_mask1]at h1;exact h1
 have e:wrap64 ((a:aa) / 2)=((a / 2:J):aa):=by unfold wrap64;omega
 rw[d,e];unfold ui;have c:(BitVec.ofInt 64 ((a / 2:J):aa)).toNat=a / 2:=ofInt_u64 _ U;by_cases h2:a%2=0
 .rw[aD h2,h2];have b:wrap64 (-wrap64 ((0:J):aa))=((0:J):aa):=by unfold wrap64;omega
  rw[b];show IntKind.i64.wrap ((BitVec.ofInt 64 ((a / 2:J):aa) ^^^ BitVec.ofInt 64 ((0:J):aa)).toNat:aa)=_;rw[BitVec.toNat_xor,c,ofInt_u64 0 bq,Nat.xor_zero,C1];omega
 rw[aA h2,show a%2=1 by omega];have b:wrap64 (-wrap64 ((1:J):aa))=-1:=by unfold wrap64;omega
 rw[b];show IntKind.i64.wrap ((BitVec.ofInt 64 ((a / 2:J):aa) ^^^ BitVec.ofInt 64 (-1)).toNat:aa)=_;rw[Tv,K2,BitVec.toNat_not,c,C1];omega
def Iu(n:aa)(h:-9223372036854775808<=n/\n<=9223372036854775807)(w:ai):az 204 #[I n] w λe w'=>e=.returned (.string ⟨(num (fz n)).toArray⟩)/\Below w w w':=by
 have a:=YN n h
 go_in
 go_wp2_with fail;refine aT (yk _ (Nv n h) _) λan aj=>?_;go_wp2_with fail;go_ret;exact⟨rfl,aj⟩
def TQ(s:cc)(ax:s.size<=maxLen)(w:ai):az 245 #[.string s] w λe w'=>e=aV #[I (ui (cz s.data.toList).1),I ((cz s.data.toList).2.1:aa),I (cz s.data.toList).2.2]/\w=w':=by
 have a:=YJ _ (yr s.data.toList).1
 go_in
 go_wp2_with fail;refine br (BD s ax _) ?_;go_wp2_with fail;go_ret3;exact⟨rfl,rfl⟩
def O2(W:ai)(B:J)(c:aQ)(aq:W.cell? (ad B 0 ab)=some (aF c.toNat)):(convert 51 9 (ao (some (ad B 0 ab)) 1 1)).run prog W=.ok (.string ⟨#[c]⟩) W:=by
 have:=C_ (P:=prog) W 51 9 5 (ad B 0 ab) 1 [c] underlying51 underlying5 underlying9 (by
  intro j a;obtain rfl:j=0:=by simpa using a
  simpa[hN]using aq)
 simpa using this
def O3(w:ai)(a b c d:aa):(convert 51 9 (ao (some (ad w 0 ab)) 4 4)).run prog (w.alloc (ae #[aF a,aF b,aF c,aF d] 5))=.ok (.string (strOfNums [a,b,c,d])) (w.alloc (ae #[aF a,aF b,aF c,aF d] 5)):=by
 refine run_convert_bytes_arg _ 51 5 underlying51 underlying5 w.heap.size 0 4 4 [a,b,c,d] rfl ?_ 9 underlying9;intro i av
 match i,av with
 | 0,_=>go_simp
 | 1,_=>go_simp
 | 2,_=>go_simp
 | 3,_=>go_simp
def J8(a:aa)(h:0<=a/\a<4294967296)(w:ai):az 269 #[aK a] w λe w'=>e=.returned (.string ⟨(eF a).toArray⟩)/\Below w w w':=by
 have b:=O3;have ax:strOfNums [a / 16777216,a / 65536%256,a / 256%256,a%256]=⟨(eF a).toArray⟩:=by
  unfold strOfNums eF;rw[show a / 16777216%256=a / 16777216 by omega];rfl
 go_in
 go_wp2;go_ret;exact⟨rfl,(bY _ _).alloc bA _⟩
def J7(p:aa×aa)(l m:ah aQ)(q:aa×aa)(a:lX q)(ar:iR p l=q):iR p (l++m)=((raw q m).1%65521,(raw q m).2%65521):=by
 rw[NM,ar];have⟨h1,h2⟩:=IN m q q (by unfold lX at a;omega) (by unfold lX at a;omega);exact qe h1.symm h2.symm
def Xi(n:aa)(h:0<=n/\n<4294967296)(s:cc)(ax:s.size<=maxLen)(w:ai):az 313 #[aK n,.string s] w λe w'=>e=.returned (aK (more n s.data.toList))/\w=w':=by
 unfold maxLen at ax;have aj:bits .and .u32 n 65535=n%65536:=bits_mask .u32 32 bq (λm a b=>by rw[wrap_u32];omega) 16 bq n h.1 h.2;have B:=af aj
 go_in
 go_wp2
 go_loop [1,5,6] (λs' bm av=>∃ (t:cc) (j:J) (p:aa×aa),s'=.string t/\t.size+j=s.size/\t.data.toList=s.data.toList.drop j/\iR (n%65536%65521,n / 65536%65521) (s.data.toList.take j)=p/\bm=aK p.1/\av=aK p.2) (λs' _ _=>Ck s')
 case atStart=>exact⟨s,0,_,rfl,U,aI,rfl,rfl,rfl⟩
 obtain⟨t,j,p,rfl,r,aN,ar,rfl,rfl⟩:=hrel;clear aj;have z:=af r;have l:=af aN;have g:=af ar;have A:t.size<=s.size:=U;have c:lX p:=by rw[<-ar];exact tR _ _ (vX n)
 clear r aN ar;by_cases C:0<t.size
 .by_cases h1:t.size<=5552
  .go_wp2
   go_loop [5,6,22] (λbm av i=>∃ k:J,k<=t.size/\i=I k/\bm=aK (raw p (t.data.toList.take k)).1/\av=aK (raw p (t.data.toList.take k)).2) (λ_ _ i=>t.size-(intOf i).toNat)
   case atStart=>exact⟨0,U,rfl,rfl,rfl⟩
   obtain⟨k,hk,rfl,rfl,rfl⟩:=hrel;have x:=BO p (t.data.toList.take k) c bU;by_cases y:k<t.size
   .exact Me
   obtain rfl:k=t.size:=U;have d:iR (n%65536%65521,n / 65536%65521) (s.data.toList.take (j+t.size))=((raw p (t.data.toList.take t.size)).1%65521,(raw p (t.data.toList.take t.size)).2%65521):=by
    rw[take_add,<-l.o];exact J7 _ _ _ _ c g.o
   have f:=af d;clear d;go_wp2
   go_round
   case rel=>exact⟨ByteArray.empty,j+t.size,_,rfl,zI,by rw[Dj zI];rfl,f.o,rfl,rfl⟩
   simp[Ck];omega
  go_wp2
  go_loop [5,6,22] (λbm av i=>∃ k:J,k<=5552/\i=I k/\bm=aK (raw p (t.data.toList.take k)).1/\av=aK (raw p (t.data.toList.take k)).2) (λ_ _ i=>5552-(intOf i).toNat)
  case atStart=>exact⟨0,U,rfl,rfl,rfl⟩
  obtain⟨k,hk,rfl,rfl,rfl⟩:=hrel;have x:=BO p (t.data.toList.take k) c bU;by_cases y:k<5552
  .exact Me
  obtain rfl:k=5552:=U;have d:iR (n%65536%65521,n / 65536%65521) (s.data.toList.take (j+5552))=((raw p (t.data.toList.take 5552)).1%65521,(raw p (t.data.toList.take 5552)).2%65521):=by
   rw[take_add,<-l.o];exact J7 _ _ _ _ c g.o
  have f:=af d;clear d;go_wp2
  go_round
  case rel=>exact⟨t.extract 5552 t.size,j+5552,_,rfl,zI,by rw[vs,l.o,mr],f.o,rfl,rfl⟩
  simp[Ck];omega
 have hm:more n s.data.toList=p.2*65536+p.1:=by
  have e:=g.o;rw[nm zI]at e;rw[more,e]
 have v:=af hm;clear hm;have D:(0<=p.1/\p.1<65521)/\(0<=p.2/\p.2<65521):=c;go_wp2;go_ret;refine⟨qO ?_,rfl⟩;rw[v.o];exact bits_join .u32 32 bq (λm a b=>by rw[wrap_u32];omega) 16 _ _ U U U U U U
def Cm(s:cc)(ax:s.size<=maxLen)(w:ai):az 270 #[.string s] w λe w'=>e=.returned (aK (more 1 s.data.toList))/\w=w':=by
 go_in
 go_wp2_with (go_at_call 313;refine(Xi _ U _ ax _).mono ?_;rintro e w' ⟨rfl,rfl⟩);go_ret;exact⟨rfl,rfl⟩
def iI(l:ah aQ):ah aQ:=l++eF (more 1 l)
def sg(n:aa):(eF n).length=4:=rfl
def Xj(s:cc)(ax:s.size<=1000000)(w:ai):az 205 #[.string s] w λe w'=>e=.returned (.string ⟨(iI s.data.toList).toArray⟩)/\Below w w w':=by
 have a:(eF (more 1 s.data.toList)).length<=4:=c9 _;have hfin:s++⟨(eF (more 1 s.data.toList)).toArray⟩=⟨(iI s.data.toList).toArray⟩:=by
  apply ByteArray.ext;simp[iI,K3]
 go_in
 go_wp2_with (first|(go_at_call 270;refine(Cm _ (by simp[maxLen];omega) _).mono ?_;rintro e w' ⟨rfl,rfl⟩)|(go_at_call 269;refine(J8 _ (vL _ _) _).mono ?_;rintro e w' ⟨rfl,aj⟩));go_ret;exact⟨by rw[<-hfin];rfl,aj⟩
def V9(l:ah aQ):(ByteArray.mk (iI l).toArray).size=l.length+4:=by
 simp[iI,sg,ByteArray.size]
def opened(l:ah aQ):ah aQ×aa:=
 if l.length<4 then([],3)else if iI (l.take (l.length-4))=l then(l.take (l.length-4),0)else([],15)
def Ip(s:cc)(m:J)(hm:s.size=m+4):opened s.data.toList=if (eF (more 1 (s.data.toList.take m)) == (s.extract m (m+4)).toList)=true then(s.data.toList.take m,0)else([],15):=by
 have d:s.data.toList.length=m+4:=by rw[<-hm];simp
 have b:(s.extract m (m+4)).toList=s.data.toList.drop m:=by
  rw[wx,extract_data,nm];simp;omega
 unfold opened;rw[aA U,show s.data.toList.length-4=m by omega,b];have a:iI (s.data.toList.take m)=s.data.toList↔eF (more 1 (s.data.toList.take m))=s.data.toList.drop m:=by
  unfold iI;constructor
  .intro h
   have:=cV (List.drop m) h
   rwa [wC bU]at this
  intro h;rw[h,lR]
 by_cases h:eF (more 1 (s.data.toList.take m))=s.data.toList.drop m
 .rw[aD (a.2 h),aD h8]
 rw[aA (λc=>h (a.1 c)),aA h8]
def Ty(s:cc)(m:J)(hm:s.size=m+4)(h:(!eF (more 1 (s.data.toList.take m)) == (s.extract m (m+4)).toList)=true):opened s.data.toList=([],15):=by
 rw[Ip s m hm,aA h8]
def Tz(s:cc)(m:J)(hm:s.size=m+4)(h:(!eF (more 1 (s.data.toList.take m)) == (s.extract m (m+4)).toList)=false):opened s.data.toList=(s.data.toList.take m,0):=by
 rw[Ip s m hm,aD h8]
def Bw(s:cc)(l:ah aQ)(h:s.data.toList=l):s=⟨l.toArray⟩:=by
 subst h;simp
def J6(s:cc)(ax:s.size<=maxLen)(w:ai):az 239 #[.string s] w λe w'=>e=aV #[.string ⟨(opened s.data.toList).1.toArray⟩,I (opened s.data.toList).2]/\Below w w w':=by
 unfold maxLen at ax;by_cases b:s.size<4
 .have c:opened s.data.toList=([],3):=by unfold opened;rw[aD (by simpa using b)]
  go_in
  go_wp2;go_ret2;exact⟨by rw[c];rfl,bY _ _⟩
 obtain⟨m,hm⟩:∃ m,s.size=m+4:=⟨s.size-4,U⟩
 go_in
 go_wp2;refine o9 aH aH ?_
 repeat (go_big_quiet_step (first|(go_at_call 270;exact Calls.jv (Cm _ (by simp[maxLen];omega) _))|(go_at_call 269;exact Calls.ka (J8 _ (vL _ _) _))))
 refine wpQuiet_nil ?_;intro _ d;have⟨x,f⟩:=d;subst f;go_wp2
 .have aj:=Ty s m hm (by assumption);have a:=af aj;go_ret2;exact⟨by rw[a.o];rfl,x.below⟩
 have aj:=Tz s m hm (by assumption);go_ret2;refine⟨?_,x.below⟩;rw[aj];exact I4 (cV Value.string (Bw (s.extract 0 m) (s.data.toList.take m) (by rw[extract_data];simp))) rfl
end Go.Proofs.YtalagblioepadaaGreatDoor
