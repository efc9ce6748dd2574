/- The proof, part 10. -/
import Derived.Test.YtalagblioepadaaGreatDoorZc04
import Derived.Test.YtalagblioepadaaGreatDoorZc02
import Derived.RangeFuncBox
namespace Go.Proofs.YtalagblioepadaaGreatDoor
set_option linter.all false
open Proofs.Tryz List Go.RowKit
set_option maxRecDepth 100000
set_option maxHeartbeats 1000000
def ve{p:ak}(h:p:=by rw[f.o];rfl):p:=h
def jY{p:ak}(h:p:=by unfold maxLen;omega):p:=h
def z7{p:ak}(h:p:=by have:=z.o;simp;omega):p:=h
def Ew{p:ak}(h:p:=by have:=aj.size;simp;omega):p:=h
def Eg{p:ak}(h:p:=by simpa using Nat.le_succ_of_le aj.size):p:=h
def MK{p:ak}(h:p:=by
 have q:=X0 t k U;have F:(raw p (t.data.toList.take k)).2+((raw p (t.data.toList.take k)).1+(t[k].toNat:aa))<=4294690200:=by
  have:=(Ca p (t.data.toList.take (k+1)) c bT).2.2
  rwa [q,Cb]at this
 have u:=af q;clear q;have E:(0:aa)<=(t[k].toNat:aa)/\(t[k].toNat:aa)<=255:=by have:=t[k].toNat_lt;omega
 go_wp2
 go_round
 case rel=>exact⟨k+1,U,by go_num,by rw[u.o,Cb];rfl,by rw[u.o,Cb];rfl⟩
 simp[intOf];omega
 ):p:=h
def xR(w:ai)(s:cc):∃ cap ao,(convert 9 51 (.string s)).run prog w=.ok (aq (some (ad w 0 ab)) s.size cap) ao/\s.size<=cap/\Below w w ao/\ao.heap.size=w.heap.size+1/\
  (∀ i (h:i<s.size),ao.cell? (ad w i ab)=some (aF (s.data.toList[i]'(ik)).toNat))/\∀ i,i<s.size->ao.frozen? (ad w i ab)=false:=by
 refine⟨_,_,run_bytes_of_string w 9 51 5 s underlying9 underlying51 underlying5,Dy _ _ _ _,?_,?_,?_,?_⟩
 .exact((b3 _ _).drew).alloc bs _
 .show(w.heap.push _).size=_;simp
 .intro i h;show(w.drew.alloc _).cell? (ad w.drew.heap.size i ab)=_;rw[World.cell?_alloc_mark,bytesRow_at s _ i h];simp
 intro i h;show(w.drew.alloc _).frozen? (ad w.drew.heap.size i ab)=_;rw[World.frozen?_alloc_mark]
 have:=Dy w s.size 0 5
 have a:s.data.size=s.size:=rfl;simp[bytesRow,a];omega
def tM:(prog.info? 5).map (λi=>(i.zero,i.size,i.bytes))=some (some (aF 0),1,1):=aH
def ef(c:aR):ax:=aF c.toNat
def Gg{w:ai}{base n:J}{v:ax}(l:ah aR)(h:w.ownsRow base 5 1 v n (l.map ef)):(convert 51 9 v).run prog w=.ok (.string ⟨l.toArray⟩) w:=by
 obtain⟨a,aW⟩:=id h;simp at a;rcases aW with⟨rfl,rfl⟩|⟨g,cap,b,rfl,_⟩
 .obtain rfl:l=[]:=jx.1 a;rw[run_convert_bytes_nil w 51 5 underlying51 underlying5 0 0 9 underlying9];rfl
 subst a;refine Dz w 51 9 5 (ad g 0 ab) cap l underlying51 underlying5 underlying9 λj m=>?_;rw[h3,gC,h.cellAt j vc];simp[m,ef]
def B0{w:ai}{base:J}{v:ax}{a:ah aR}{x:aa}(c:aR)(h:w.ownsRow base 5 1 v (a.length+1) (a.map ef++[aF x]))(b:x=c.toNat):w.ownsRow base 5 1 v (a++[c]).length ((a++[c]).map ef):=by
 simpa[ef,b]using h
def yG(N:J)(g:N<fB)(w:ai):aA 267 #[.int .u64 N] w λe w'=>e=.returned (.string ⟨(num N).toArray⟩)/\Below w w w':=by
 have⟨q,aw,j,l,p⟩:=ny tM;have z:=n' N g
 go_in
 go_wp2
 go_loopw [0,3] (λn v wr=>∃ (m:J) (a:ah aR),n=.int .u64 m/\m<=N/\num N=a++num m/\wr.ownsRow w.heap.size 5 1 v a.length (a.map ef)/\Below w w wr)
  (λn _ _=>(intOf n).toNat)
 case atStart=>exact⟨N,[],rfl,c9 _,rfl,zx _ _ _ _,b3 _ _⟩
 obtain⟨m,a,rfl,hm,h,b,aj⟩:=hrel;have x:a.length<=10:=by have:=cV length h;simp at this;omega
 have f:=af h;by_cases i:m<128
 .go_wp2_with (at_builtin;refine ql _ rfl (.tmp 15) (.tmp 18) 51 rfl w.heap.size 5 q (aF 0) 1 1 underlying51 aw j l p rfl bq _ _ _ rfl (b.alloc _) (ad wr 0 ab) 1 1 [aF (m:aa)] rfl rfl (oy _ _ _) mJ jY U Ew ?_);intro v' ao c d _;have s:=(aj.alloc aj.size _).grown d Eg (λk e=>((b.alloc (ae #[aF (m:aa)] 5)).lt k e).1);have y:=Gg _ (B0 (UInt8.ofNat m) c bT);have hfin:num N=a++[UInt8.ofNat m]:=by rw[f.o,r8 m i]
  go_wp2;go_ret;exact⟨by rw[hfin];rfl,s⟩
 have A:bits .or .u8 ((m:aa)%128) 128=(m:aa)%128+128:=by
  have h2:=nat_join 7 128 ((m:aa)%128).toNat bq U;rw[(u8_or (((m:aa)%128)) 128 U U bq bq),Nat.or_comm];simp only[Int.reduceToNat]at *;omega
 go_wp2_with (at_builtin;refine ql _ rfl (.tmp 8) (.tmp 13) 51 rfl w.heap.size 5 q (aF 0) 1 1 underlying51 aw j l p rfl bq _ _ _ rfl (b.alloc _) (ad wr 0 ab) 1 1 [aF ((m:aa)%128+128)] rfl rfl (oy _ _ _) mJ jY U Ew ?_);intro v' ao c d _;have B:IntKind.u64.wrap ((m:aa) / 128)=(m:aa) / 128:=IntWalk.u64_in _ (by unfold fB at g;omega);have t:num N=(a++[UInt8.ofNat (m%128+128)])++num (m / 128):=by rw[f.o,wh m i];simp
 have u:=B0 (UInt8.ofNat (m%128+128)) c bT;have r:=af t;go_wp2;go_roundw
 case rel=>exact⟨m / 128,_,by go_num,b7 (DV _ _) hm,r.o,u,((aj.alloc aj.size _).grown d Eg (λk e=>((b.alloc (ae #[aF ((m:aa)%128+128)] 5)).lt k e).1))⟩
 have hd:m / 128<m:=Nat.div_lt_self U bq;simp[intOf];omega
def Xg(k:J)(x:aa)(hk:k<=9)(a:0<=x/\x<128)(h:¬ (k=9/\1<x)):(x*2 ^ (7*k) / 2 ^ (7*k) != x)=false/\IntKind.u64.wrap (x*2 ^ (7*k))=x*2 ^ (7*k):=by
 rw[wrap_u64];rcases (show k=0\/k=1\/k=2\/k=3\/k=4\/k=5\/k=6\/k=7\/k=8\/k=9 by omega)with rfl|rfl|rfl|rfl|rfl|rfl|rfl|rfl|rfl|rfl<;>(simp only[Nat.reduceMul,Int.reducePow,bne_eq_false_iff_eq];omega)
def Xf(k:J)(hk:k=9)(x:aa)(a:1<x/\x<128):(IntKind.u64.wrap (x*2 ^ (7*k)) / 2 ^ (7*k) != x)=true:=by
 subst hk;rw[wrap_u64];simp only[Nat.reduceMul,Int.reducePow,D1,ne_eq];omega
def Uk(k a x:J)(hk:k<=9)(d:x<128)(h:¬ (k=9/\1<x))(bd:a<128 ^ k):bits .or .u64 (a:aa) ((x:aa)*2 ^ (7*k))=((a+x*128 ^ k:J):aa):=by
 have c:=(Cf k a x hk d h bd).1;have e:((x:aa)*2 ^ (7*k))=((x*128 ^ k:J):aa):=by
  rw[Nat.pow_mul 2 7 k |> λ(h:2 ^ (7*k)=(2 ^ 7) ^ k)=>show(128:J) ^ k=2 ^ (7*k)from h.symm];simp
 have b:128 ^ k=2 ^ (7*k):=(Nat.pow_mul 2 7 k).symm;unfold fB at c;rw[e,u64_or_nat _ _ U U,Nat.or_comm,nat_join (7*k) (x*128 ^ k) a (by rw[b];exact Nat.mul_mod_left _ _) (by rw[<-b];exact bd),qt]
def B2(s:cc)(av:s.size<=maxLen)(w:ai):aA 302 #[.string s] w λe w'=>e=aV #[.int .u64 ((cz s.data.toList).1:aa),I ((cz s.data.toList).2.1:aa),I (cz s.data.toList).2.2]/\w=w':=by
 unfold maxLen at av
 go_in
 go_wp2_with fail
 go_loop [5,11] (λn i=>∃ k a:J,k<=s.size/\k<=10/\i=I k/\n=.int .u64 a/\a<128 ^ k/\a<fB/\cz s.data.toList=jc k a (s.data.toList.drop k)) (λ_ i=>s.size-(intOf i).toNat)
 case atStart=>exact⟨0,0,U,U,rfl,rfl,bq,bq,rfl⟩
 obtain⟨k,a,hk,E,rfl,rfl,bd,r,b⟩:=hrel;by_cases x:k<s.size
 .have hd:s.data.toList.drop k=s[k] :: s.data.toList.drop (k+1):=by
   rw[qm (by simpa using x)];rfl
  rw[hd]at b;have p:=af bd;have C:(0:aa)<=(s[k].toNat:aa)/\(s[k].toNat:aa)<=255:=by have:=s[k].toNat_lt;omega
  clear hd bd;by_cases d:9<k\/(k=9/\1<s[k].toNat%128)
  .rw[Ji _ _ _ _ d]at b;have f:=af b;clear b;by_cases B:9<k
   .clear d;go_wp2_with fail;go_ret3;exact⟨ve,rfl⟩
   have v:=Xf k U ((s[k].toNat:aa)%128) U;have g:k<=9:=U;clear d;go_wp2_with fail;go_ret3;exact⟨ve,rfl⟩
  have g:k<=9:=U;have⟨v,F⟩:=Xg k ((s[k].toNat:aa)%128) g U U;by_cases h2:s[k].toNat=0/\0<k
  .rw[Jh _ _ _ _ d h2]at b;have f:=af b;have j:(s[k].toNat:aa)<128:=U;have h1:0<k:=h2.2;have A:((s[k].toNat:aa)%128 == 0)=true:=by rw[nH];omega
   clear b d h2;go_wp2_with fail;go_ret3;exact⟨ve,rfl⟩
  have y:bits .or .u64 (a:aa) ((s[k].toNat:aa)%128*2 ^ (7*k))=((a+s[k].toNat%128*128 ^ k:J):aa):=Uk k a (s[k].toNat%128) g (e2 _ bq) U p.o;have m:=Cf k a (s[k].toNat%128) g (e2 _ bq) U p.o;by_cases l:s[k].toNat<128
  .rw[Cc _ _ _ _ d h2 l]at b;have f:=af b;have t:s[k].toNat%128=s[k].toNat:=jh l;by_cases q:s[k].toNat=0
   .have G:bits .or .u64 (a:aa) 0=(a:aa):=by
     have h:=u64_or_nat a 0 (by unfold fB at r;exact r) bq;simpa using h
    have D:¬ 0<k:=λc=>h2 ⟨q,c⟩;have z:((s[k].toNat:aa)%128 == 0)=true:=by rw[nH];omega
    have u:a+s[k].toNat%128*128 ^ k=a:=by rw[q];simp
    rw[u]at f;clear b d h2 y m t u;go_wp2_with fail;go_ret3;exact⟨ve,rfl⟩
   have z:((s[k].toNat:aa)%128 == 0)=false:=by rw[eu];omega
   clear b d h2 t;go_wp2_with fail;go_ret3;exact⟨ve,rfl⟩
  rw[Cd _ _ _ _ d h2 l]at b;have f:=af b;clear b d h2;go_wp2_with fail
  go_round
  case rel=>exact⟨k+1,_,U,U,by go_num,rfl,m.2,m.1,f.o⟩
  simp[intOf];omega
 have j:s.data.toList.drop k=[]:=DK bT;rw[j]at b;have f:=af b;clear b j bd;go_wp2_with fail;go_ret3;exact⟨ve,rfl⟩
def KO(a:J)(h:a<fB):IntKind.u64.wrap (a:aa)=(a:aa):=by unfold fB at h;exact IntWalk.u64_in _ U
def Zj(a:J)(h:a<18446744073709551616):a ^^^ 18446744073709551615=18446744073709551615-a:=by
 have e:(BitVec.ofNat 64 a ^^^ BitVec.allOnes 64).toNat=(~~~ BitVec.ofNat 64 a).toNat:=by rw[Lw]
 rw[BitVec.toNat_xor,BitVec.toNat_not,BitVec.toNat_ofNat,BitVec.toNat_allOnes,jh U]at e;simpa using e
def Zp(n:aa)(h:-9223372036854775808<=n/\n<=9223372036854775807):bits .xor .u64 (IntKind.u64.wrap (wrap64 (n*2))) (IntKind.u64.wrap (n / 9223372036854775808))=(fC n:aa):=by
 rw[wrap_u64,wrap_u64];by_cases c:0<=n
 .have a:wrap64 (n*2)%18446744073709551616=2*n:=by unfold wrap64;omega
  have b:n / 9223372036854775808%18446744073709551616=0:=U;rw[a,b,u64_xor _ _ U U bq bq];unfold fC;rw[aD c];simp
 have a:wrap64 (n*2)%18446744073709551616=2*n+18446744073709551616:=by unfold wrap64;omega
 have b:n / 9223372036854775808%18446744073709551616=18446744073709551615:=U;rw[a,b,u64_xor _ _ U U bq bq];have d:(18446744073709551615:aa).toNat=18446744073709551615:=rfl;rw[d,Zj _ U];unfold fC;rw[az c];omega
def T8:BitVec.ofInt 64 (-1)=BitVec.allOnes 64:=bq
def Zl(a:J)(h:a<fB):bits .xor .i64 (wrap64 ((a:aa) / 2)) (wrap64 (-wrap64 (bits .and .u64 (a:aa) 1)))=uC a:=by
 unfold fB at h;have d:bits .and .u64 (a:aa) 1=((a%2:J):aa):=by
  have h1:=u64_and_nat a 1 h bq;rw[nat_mask1]at h1;exact h1
 have e:wrap64 ((a:aa) / 2)=((a / 2:J):aa):=by unfold wrap64;omega
 rw[d,e];unfold uC;have c:(BitVec.ofInt 64 ((a / 2:J):aa)).toNat=a / 2:=ofInt_u64 _ U;by_cases h2:a%2=0
 .rw[aD h2,h2];have b:wrap64 (-wrap64 ((0:J):aa))=((0:J):aa):=by unfold wrap64;omega
  rw[b];show IntKind.i64.wrap ((BitVec.ofInt 64 ((a / 2:J):aa) ^^^ BitVec.ofInt 64 ((0:J):aa)).toNat:aa)=_;rw[BitVec.toNat_xor,c,ofInt_u64 0 bq,Nat.xor_zero,Dq];omega
 rw[az h2,show a%2=1 by omega];have b:wrap64 (-wrap64 ((1:J):aa))=-1:=by unfold wrap64;omega
 rw[b];show IntKind.i64.wrap ((BitVec.ofInt 64 ((a / 2:J):aa) ^^^ BitVec.ofInt 64 (-1)).toNat:aa)=_;rw[T8,Lw,BitVec.toNat_not,c,Dq];omega
def IW(n:aa)(h:-9223372036854775808<=n/\n<=9223372036854775807)(w:ai):aA 204 #[I n] w λe w'=>e=.returned (.string ⟨(num (fC n)).toArray⟩)/\Below w w w':=by
 have a:=Zp n h
 go_in
 go_wp2_with fail;refine aU (yG _ (N4 n h) _) λao aj=>?_;go_wp2_with fail;go_ret;exact⟨rfl,aj⟩
def Us(s:cc)(av:s.size<=maxLen)(w:ai):aA 245 #[.string s] w λe w'=>e=aV #[I (uC (cz s.data.toList).1),I ((cz s.data.toList).2.1:aa),I (cz s.data.toList).2.2]/\w=w':=by
 have a:=Zl _ (yO s.data.toList).1
 go_in
 go_wp2_with fail;refine bA (B2 s av _) ?_;go_wp2_with fail;go_ret3;exact⟨rfl,rfl⟩
def PE(W:ai)(B:J)(c:aR)(al:W.cell? (ad B 0 ab)=some (aF c.toNat)):(convert 51 9 (aq (some (ad B 0 ab)) 1 1)).run prog W=.ok (.string ⟨#[c]⟩) W:=by
 have:=Dz (P:=prog) W 51 9 5 (ad B 0 ab) 1 [c] underlying51 underlying5 underlying9 (by
  intro j a;obtain rfl:j=0:=by simpa using a
  simpa[h3]using al)
 simpa using this
def PF(w:ai)(a b c d:aa):(convert 51 9 (aq (some (ad w 0 ab)) 4 4)).run prog (w.alloc (ae #[aF a,aF b,aF c,aF d] 5))=.ok (.string (strOfNums [a,b,c,d])) (w.alloc (ae #[aF a,aF b,aF c,aF d] 5)):=by
 refine run_convert_bytes_arg _ 51 5 underlying51 underlying5 w.heap.size 0 4 4 [a,b,c,d] rfl ?_ 9 underlying9;intro i aw
 match i,aw with
 | 0,_=>go_simp
 | 1,_=>go_simp
 | 2,_=>go_simp
 | 3,_=>go_simp
def KC(a:aa)(h:0<=a/\a<4294967296)(w:ai):aA 269 #[aP a] w λe w'=>e=.returned (.string ⟨(eI a).toArray⟩)/\Below w w w':=by
 have b:=PF;have av:strOfNums [a / 16777216,a / 65536%256,a / 256%256,a%256]=⟨(eI a).toArray⟩:=by
  unfold strOfNums eI;rw[show a / 16777216%256=a / 16777216 by omega];rfl
 go_in
 go_wp2;go_ret;exact⟨rfl,(b3 _ _).alloc bs _⟩
def KB(p:aa×aa)(l m:ah aR)(q:aa×aa)(a:l_ q)(au:iX p l=q):iX p (l++m)=((raw q m).1%65521,(raw q m).2%65521):=by
 rw[Oh,au];have⟨h1,h2⟩:=Jd m q q (by unfold l_ at a;omega) (by unfold l_ at a;omega);exact qv h1.symm h2.symm
def XV(n:aa)(h:0<=n/\n<4294967296)(s:cc)(av:s.size<=maxLen)(w:ai):aA 313 #[aP n,.string s] w λe w'=>e=.returned (aP (more n s.data.toList))/\w=w':=by
 unfold maxLen at av;have aj:bits .and .u32 n 65535=n%65536:=bits_mask .u32 32 bq (λm a b=>by rw[wrap_u32];omega) 16 bq n h.1 h.2;have B:=af aj
 go_in
 go_wp2
 go_loop [1,5,6] (λs' bl aw=>∃ (t:cc) (j:J) (p:aa×aa),s'=.string t/\t.size+j=s.size/\t.data.toList=s.data.toList.drop j/\iX (n%65536%65521,n / 65536%65521) (s.data.toList.take j)=p/\bl=aP p.1/\aw=aP p.2) (λs' _ _=>CJ s')
 case atStart=>exact⟨s,0,_,rfl,U,aK,rfl,rfl,rfl⟩
 obtain⟨t,j,p,rfl,r,aO,au,rfl,rfl⟩:=hrel;clear aj;have z:=af r;have l:=af aO;have g:=af au;have A:t.size<=s.size:=U;have c:l_ p:=by rw[<-au];exact uh _ _ (wq n)
 clear r aO au;by_cases C:0<t.size
 .by_cases h1:t.size<=5552
  .go_wp2
   go_loop [5,6,22] (λbl aw i=>∃ k:J,k<=t.size/\i=I k/\bl=aP (raw p (t.data.toList.take k)).1/\aw=aP (raw p (t.data.toList.take k)).2) (λ_ _ i=>t.size-(intOf i).toNat)
   case atStart=>exact⟨0,U,rfl,rfl,rfl⟩
   obtain⟨k,hk,rfl,rfl,rfl⟩:=hrel;have x:=Ca p (t.data.toList.take k) c bT;by_cases y:k<t.size
   .exact MK
   obtain rfl:k=t.size:=U;have d:iX (n%65536%65521,n / 65536%65521) (s.data.toList.take (j+t.size))=((raw p (t.data.toList.take t.size)).1%65521,(raw p (t.data.toList.take t.size)).2%65521):=by
    rw[take_add,<-l.o];exact KB _ _ _ _ c g.o
   have f:=af d;clear d;go_wp2
   go_round
   case rel=>exact⟨ByteArray.empty,j+t.size,_,rfl,z7,by rw[DK z7];rfl,f.o,rfl,rfl⟩
   simp[CJ];omega
  go_wp2
  go_loop [5,6,22] (λbl aw i=>∃ k:J,k<=5552/\i=I k/\bl=aP (raw p (t.data.toList.take k)).1/\aw=aP (raw p (t.data.toList.take k)).2) (λ_ _ i=>5552-(intOf i).toNat)
  case atStart=>exact⟨0,U,rfl,rfl,rfl⟩
  obtain⟨k,hk,rfl,rfl,rfl⟩:=hrel;have x:=Ca p (t.data.toList.take k) c bT;by_cases y:k<5552
  .exact MK
  obtain rfl:k=5552:=U;have d:iX (n%65536%65521,n / 65536%65521) (s.data.toList.take (j+5552))=((raw p (t.data.toList.take 5552)).1%65521,(raw p (t.data.toList.take 5552)).2%65521):=by
   rw[take_add,<-l.o];exact KB _ _ _ _ c g.o
  have f:=af d;clear d;go_wp2
  go_round
  case rel=>exact⟨t.extract 5552 t.size,j+5552,_,rfl,z7,by rw[vH,l.o,mF],f.o,rfl,rfl⟩
  simp[CJ];omega
 have hm:more n s.data.toList=p.2*65536+p.1:=by
  have e:=g.o;rw[nF z7]at e;rw[more,e]
 have v:=af hm;clear hm;have D:(0<=p.1/\p.1<65521)/\(0<=p.2/\p.2<65521):=c;go_wp2;go_ret;refine⟨q6 ?_,rfl⟩;rw[v.o];exact bits_join .u32 32 bq (λm a b=>by rw[wrap_u32];omega) 16 _ _ U U U U U U
def CL(s:cc)(av:s.size<=maxLen)(w:ai):aA 270 #[.string s] w λe w'=>e=.returned (aP (more 1 s.data.toList))/\w=w':=by
 go_in
 go_wp2_with (go_at_call 313;refine(XV _ U _ av _).mono ?_;rintro e w' ⟨rfl,rfl⟩);go_ret;exact⟨rfl,rfl⟩
def iO(l:ah aR):ah aR:=l++eI (more 1 l)
def sv(n:aa):(eI n).length=4:=rfl
def XW(s:cc)(av:s.size<=1000000)(w:ai):aA 205 #[.string s] w λe w'=>e=.returned (.string ⟨(iO s.data.toList).toArray⟩)/\Below w w w':=by
 have a:(eI (more 1 s.data.toList)).length<=4:=c9 _;have hfin:s++⟨(eI (more 1 s.data.toList)).toArray⟩=⟨(iO s.data.toList).toArray⟩:=by
  apply ByteArray.ext;simp[iO,Lx]
 go_in
 go_wp2_with (first|(go_at_call 270;refine(CL _ (by simp[maxLen];omega) _).mono ?_;rintro e w' ⟨rfl,rfl⟩)|(go_at_call 269;refine(KC _ (wa _ _) _).mono ?_;rintro e w' ⟨rfl,aj⟩));go_ret;exact⟨by rw[<-hfin];rfl,aj⟩
def WK(l:ah aR):(ByteArray.mk (iO l).toArray).size=l.length+4:=by
 simp[iO,sv,ByteArray.size]
def opened(l:ah aR):ah aR×aa:=
 if l.length<4 then([],3)else if iO (l.take (l.length-4))=l then(l.take (l.length-4),0)else([],15)
def IQ(s:cc)(m:J)(hm:s.size=m+4):opened s.data.toList=if (eI (more 1 (s.data.toList.take m)) == (s.extract m (m+4)).toList)=true then(s.data.toList.take m,0)else([],15):=by
 have d:s.data.toList.length=m+4:=by rw[<-hm];simp
 have b:(s.extract m (m+4)).toList=s.data.toList.drop m:=by
  rw[wQ,extract_data,nF];simp;omega
 unfold opened;rw[az U,show s.data.toList.length-4=m by omega,b];have a:iO (s.data.toList.take m)=s.data.toList↔eI (more 1 (s.data.toList.take m))=s.data.toList.drop m:=by
  unfold iO;constructor
  .intro h
   have:=cV (List.drop m) h
   rwa [wW bT]at this
  intro h;rw[h,l5]
 by_cases h:eI (more 1 (s.data.toList.take m))=s.data.toList.drop m
 .rw[aD (a.2 h),aD ik]
 rw[az (λc=>h (a.1 c)),az ik]
def Ua(s:cc)(m:J)(hm:s.size=m+4)(h:(!eI (more 1 (s.data.toList.take m)) == (s.extract m (m+4)).toList)=true):opened s.data.toList=([],15):=by
 rw[IQ s m hm,az ik]
def Ub(s:cc)(m:J)(hm:s.size=m+4)(h:(!eI (more 1 (s.data.toList.take m)) == (s.extract m (m+4)).toList)=false):opened s.data.toList=(s.data.toList.take m,0):=by
 rw[IQ s m hm,aD ik]
def BV(s:cc)(l:ah aR)(h:s.data.toList=l):s=⟨l.toArray⟩:=by
 subst h;simp
def KA(s:cc)(av:s.size<=maxLen)(w:ai):aA 239 #[.string s] w λe w'=>e=aV #[.string ⟨(opened s.data.toList).1.toArray⟩,I (opened s.data.toList).2]/\Below w w w':=by
 unfold maxLen at av;by_cases b:s.size<4
 .have c:opened s.data.toList=([],3):=by unfold opened;rw[aD (by simpa using b)]
  go_in
  go_wp2;go_ret2;exact⟨by rw[c];rfl,b3 _ _⟩
 obtain⟨m,hm⟩:∃ m,s.size=m+4:=⟨s.size-4,U⟩
 go_in
 go_wp2;refine pk aH aH ?_
 repeat (go_big_quiet_step (first|(go_at_call 270;exact Calls.jF (CL _ (by simp[maxLen];omega) _))|(go_at_call 269;exact Calls.kl (KC _ (wa _ _) _))))
 refine wpQuiet_nil ?_;intro _ d;have⟨x,f⟩:=d;subst f;go_wp2
 .have aj:=Ua s m hm (by assumption);have a:=af aj;go_ret2;exact⟨by rw[a.o];rfl,x.below⟩
 have aj:=Ub s m hm (by assumption);go_ret2;refine⟨?_,x.below⟩;rw[aj];exact Ju (cV Value.string (BV (s.extract 0 m) (s.data.toList.take m) (by rw[extract_data];simp))) rfl
end Go.Proofs.YtalagblioepadaaGreatDoor
