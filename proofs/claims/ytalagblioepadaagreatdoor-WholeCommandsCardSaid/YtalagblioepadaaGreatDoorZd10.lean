/- The proof, part 10. -/
import Derived.Test.YtalagblioepadaaGreatDoorZd04
import Derived.Test.YtalagblioepadaaGreatDoorZd02
import Derived.RangeFuncBox
namespace Go.Proofs.YtalagblioepadaaGreatDoor
set_option linter.all false
open Proofs.Tryz List Go.RowKit
set_option maxRecDepth 100000
set_option maxHeartbeats 1000000
def vv{p:al}(h:p:=by rw[f.o];rfl):p:=h
def kd{p:al}(h:p:=by unfold maxLen;omega):p:=h
def Az{p:al}(h:p:=by have:=z.o;simp;omega):p:=h
def E4{p:al}(h:p:=by have:=ak.size;simp;omega):p:=h
def EO{p:al}(h:p:=by simpa using Nat.le_succ_of_le ak.size):p:=h
def No{p:al}(h:p:=by
 have q:=YK t k U;have F:(raw p (t.data.toList.take k)).2+((raw p (t.data.toList.take k)).1+(t[k].toNat:aa))<=4294690200:=by
  have:=(CG p (t.data.toList.take (k+1)) c b1).2.2
  rwa [q,CH]at this
 have u:=ag q;clear q;have E:(0:aa)<=(t[k].toNat:aa)/\(t[k].toNat:aa)<=255:=by have:=t[k].toNat_lt;omega
 go_wp2
 go_round
 case rel=>exact⟨k+1,U,by go_num,by rw[u.o,CH];rfl,by rw[u.o,CH];rfl⟩
 simp[intOf];omega
 ):p:=h
def x9(w:aj)(s:ch):∃ cap ao,(convert 9 51 (.string s)).run prog w=.ok (aq (some (ae w 0 ad)) s.size cap) ao/\s.size<=cap/\Below w w ao/\ao.heap.size=w.heap.size+1/\
  (∀ i (h:i<s.size),ao.cell? (ae w i ad)=some (aH (s.data.toList[i]'(ic)).toNat))/\∀ i,i<s.size->ao.frozen? (ae w i ad)=false:=by
 refine⟨_,_,run_bytes_of_string w 9 51 5 s underlying9 underlying51 underlying5,D3 _ _ _ _,?_,?_,?_,?_⟩
 .exact((b7 _ _).drew).alloc bx _
 .show(w.heap.push _).size=_;simp
 .intro i h;show(w.drew.alloc _).cell? (ae w.drew.heap.size i ad)=_;rw[World.cell?_alloc_mark,bytesRow_at s _ i h];simp
 intro i h;show(w.drew.alloc _).frozen? (ae w.drew.heap.size i ad)=_;rw[World.frozen?_alloc_mark]
 have:=D3 w s.size 0 5
 have a:s.data.size=s.size:=rfl;simp[bytesRow,a];omega
def t':(prog.info? 5).map (λi=>(i.zero,i.size,i.bytes))=some (some (aH 0),1,1):=aI
def er(c:aT):ay:=aH c.toNat
def GV{w:aj}{base n:J}{v:ay}(l:ah aT)(h:w.ownsRow base 5 1 v n (l.map er)):(convert 51 9 v).run prog w=.ok (.string ⟨l.toArray⟩) w:=by
 obtain⟨a,aU⟩:=id h;simp at a;rcases aU with⟨rfl,rfl⟩|⟨g,cap,b,rfl,_⟩
 .obtain rfl:l=[]:=jP.1 a;rw[run_convert_bytes_nil w 51 5 underlying51 underlying5 0 0 9 underlying9];rfl
 subst a;refine D4 w 51 9 5 (ae g 0 ad) cap l underlying51 underlying5 underlying9 λj m=>?_;rw[ij,gP,h.cellAt j vt];simp[m,er]
def Cu{w:aj}{base:J}{v:ay}{a:ah aT}{x:aa}(c:aT)(h:w.ownsRow base 5 1 v (a.length+1) (a.map er++[aH x]))(b:x=c.toNat):w.ownsRow base 5 1 v (a++[c]).length ((a++[c]).map er):=by
 simpa[er,b]using h
def yY(N:J)(g:N<fL)(w:aj):aA 267 #[.int .u64 N] w λe w'=>e=.returned (.string ⟨(num N).toArray⟩)/\Below w w w':=by
 have⟨q,ax,j,l,p⟩:=nP t';have z:=oA N g
 go_in
 go_wp2
 go_loopw [0,3] (λn v wr=>∃ (m:J) (a:ah aT),n=.int .u64 m/\m<=N/\num N=a++num m/\wr.ownsRow w.heap.size 5 1 v a.length (a.map er)/\Below w w wr)
  (λn _ _=>(intOf n).toNat)
 case atStart=>exact⟨N,[],rfl,df _,rfl,zT _ _ _ _,b7 _ _⟩
 obtain⟨m,a,rfl,hm,h,b,ak⟩:=hrel;have x:a.length<=10:=by have:=c5 length h;simp at this;omega
 have f:=ag h;by_cases i:m<128
 .go_wp2_with (at_builtin;refine qE _ rfl (.tmp 15) (.tmp 18) 51 rfl w.heap.size 5 q (aH 0) 1 1 underlying51 ax j l p rfl bt _ _ _ rfl (b.alloc _) (ae wr 0 ad) 1 1 [aH (m:aa)] rfl rfl (oQ _ _ _) mZ kd U E4 ?_);intro v' ao c d _;have s:=(ak.alloc ak.size _).grown d EO (λk e=>((b.alloc (af #[aH (m:aa)] 5)).lt k e).1);have y:=GV _ (Cu (UInt8.ofNat m) c b1);have hfin:num N=a++[UInt8.ofNat m]:=by rw[f.o,sx m i]
  go_wp2;go_ret;exact⟨by rw[hfin];rfl,s⟩
 have A:bits .or .u8 ((m:aa)%128) 128=(m:aa)%128+128:=by
  have h2:=nat_join 7 128 ((m:aa)%128).toNat bt U;rw[(u8_or (((m:aa)%128)) 128 U U bt bt),Nat.or_comm];simp only[Int.reduceToNat]at *;omega
 go_wp2_with (at_builtin;refine qE _ rfl (.tmp 8) (.tmp 13) 51 rfl w.heap.size 5 q (aH 0) 1 1 underlying51 ax j l p rfl bt _ _ _ rfl (b.alloc _) (ae wr 0 ad) 1 1 [aH ((m:aa)%128+128)] rfl rfl (oQ _ _ _) mZ kd U E4 ?_);intro v' ao c d _;have B:IntKind.u64.wrap ((m:aa) / 128)=(m:aa) / 128:=IntWalk.u64_in _ (by unfold fL at g;omega);have t:num N=(a++[UInt8.ofNat (m%128+128)])++num (m / 128):=by rw[f.o,wD m i];simp
 have u:=Cu (UInt8.ofNat (m%128+128)) c b1;have r:=ag t;go_wp2;go_roundw
 case rel=>exact⟨m / 128,_,by go_num,ca (Es _ _) hm,r.o,u,((ak.alloc ak.size _).grown d EO (λk e=>((b.alloc (af #[aH ((m:aa)%128+128)] 5)).lt k e).1))⟩
 have hd:m / 128<m:=Nat.div_lt_self U bt;simp[intOf];omega
def XZ(k:J)(x:aa)(hk:k<=9)(a:0<=x/\x<128)(h:¬ (k=9/\1<x)):(x*2 ^ (7*k) / 2 ^ (7*k) != x)=false/\IntKind.u64.wrap (x*2 ^ (7*k))=x*2 ^ (7*k):=by
 rw[wrap_u64];rcases (show k=0\/k=1\/k=2\/k=3\/k=4\/k=5\/k=6\/k=7\/k=8\/k=9 by omega)with rfl|rfl|rfl|rfl|rfl|rfl|rfl|rfl|rfl|rfl<;>(simp only[Nat.reduceMul,Int.reducePow,bne_eq_false_iff_eq];omega)
def XY(k:J)(hk:k=9)(x:aa)(a:1<x/\x<128):(IntKind.u64.wrap (x*2 ^ (7*k)) / 2 ^ (7*k) != x)=true:=by
 subst hk;rw[wrap_u64];simp only[Nat.reduceMul,Int.reducePow,An,ne_eq];omega
def UZ(k a x:J)(hk:k<=9)(d:x<128)(h:¬ (k=9/\1<x))(bh:a<128 ^ k):bits .or .u64 (a:aa) ((x:aa)*2 ^ (7*k))=((a+x*128 ^ k:J):aa):=by
 have c:=(CL k a x hk d h bh).1;have e:((x:aa)*2 ^ (7*k))=((x*128 ^ k:J):aa):=by
  rw[Nat.pow_mul 2 7 k |> λ(h:2 ^ (7*k)=(2 ^ 7) ^ k)=>show(128:J) ^ k=2 ^ (7*k)from h.symm];simp
 have b:128 ^ k=2 ^ (7*k):=(Nat.pow_mul 2 7 k).symm;unfold fL at c;rw[e,u64_or_nat _ _ U U,Nat.or_comm,nat_join (7*k) (x*128 ^ k) a (by rw[b];exact Nat.mul_mod_left _ _) (by rw[<-b];exact bh),qL]
def Cw(s:ch)(aw:s.size<=maxLen)(w:aj):aA 302 #[.string s] w λe w'=>e=aY #[.int .u64 ((cE s.data.toList).1:aa),I ((cE s.data.toList).2.1:aa),I (cE s.data.toList).2.2]/\w=w':=by
 unfold maxLen at aw
 go_in
 go_wp2_with fail
 go_loop [5,11] (λn i=>∃ k a:J,k<=s.size/\k<=10/\i=I k/\n=.int .u64 a/\a<128 ^ k/\a<fL/\cE s.data.toList=jq k a (s.data.toList.drop k)) (λ_ i=>s.size-(intOf i).toNat)
 case atStart=>exact⟨0,0,U,U,rfl,rfl,bt,bt,rfl⟩
 obtain⟨k,a,hk,E,rfl,rfl,bh,r,b⟩:=hrel;by_cases x:k<s.size
 .have hd:s.data.toList.drop k=s[k] :: s.data.toList.drop (k+1):=by
   rw[pH (by simpa using x)];rfl
  rw[hd]at b;have p:=ag bh;have C:(0:aa)<=(s[k].toNat:aa)/\(s[k].toNat:aa)<=255:=by have:=s[k].toNat_lt;omega
  clear hd bh;by_cases d:9<k\/(k=9/\1<s[k].toNat%128)
  .rw[JY _ _ _ _ d]at b;have f:=ag b;clear b;by_cases B:9<k
   .clear d;go_wp2_with fail;go_ret3;exact⟨vv,rfl⟩
   have v:=XY k U ((s[k].toNat:aa)%128) U;have g:k<=9:=U;clear d;go_wp2_with fail;go_ret3;exact⟨vv,rfl⟩
  have g:k<=9:=U;have⟨v,F⟩:=XZ k ((s[k].toNat:aa)%128) g U U;by_cases h2:s[k].toNat=0/\0<k
  .rw[JX _ _ _ _ d h2]at b;have f:=ag b;have j:(s[k].toNat:aa)<128:=U;have h1:0<k:=h2.2;have A:((s[k].toNat:aa)%128 == 0)=true:=by rw[nY];omega
   clear b d h2;go_wp2_with fail;go_ret3;exact⟨vv,rfl⟩
  have y:bits .or .u64 (a:aa) ((s[k].toNat:aa)%128*2 ^ (7*k))=((a+s[k].toNat%128*128 ^ k:J):aa):=UZ k a (s[k].toNat%128) g (e8 _ bt) U p.o;have m:=CL k a (s[k].toNat%128) g (e8 _ bt) U p.o;by_cases l:s[k].toNat<128
  .rw[CI _ _ _ _ d h2 l]at b;have f:=ag b;have t:s[k].toNat%128=s[k].toNat:=jy l;by_cases q:s[k].toNat=0
   .have G:bits .or .u64 (a:aa) 0=(a:aa):=by
     have h:=u64_or_nat a 0 (by unfold fL at r;exact r) bt;simpa using h
    have D:¬ 0<k:=λc=>h2 ⟨q,c⟩;have z:((s[k].toNat:aa)%128 == 0)=true:=by rw[nY];omega
    have u:a+s[k].toNat%128*128 ^ k=a:=by rw[q];simp
    rw[u]at f;clear b d h2 y m t u;go_wp2_with fail;go_ret3;exact⟨vv,rfl⟩
   have z:((s[k].toNat:aa)%128 == 0)=false:=by rw[eA];omega
   clear b d h2 t;go_wp2_with fail;go_ret3;exact⟨vv,rfl⟩
  rw[CJ _ _ _ _ d h2 l]at b;have f:=ag b;clear b d h2;go_wp2_with fail
  go_round
  case rel=>exact⟨k+1,_,U,U,by go_num,rfl,m.2,m.1,f.o⟩
  simp[intOf];omega
 have j:s.data.toList.drop k=[]:=Ee b1;rw[j]at b;have f:=ag b;clear b j bh;go_wp2_with fail;go_ret3;exact⟨vv,rfl⟩
def Lp(a:J)(h:a<fL):IntKind.u64.wrap (a:aa)=(a:aa):=by unfold fL at h;exact IntWalk.u64_in _ U
def Z4(a:J)(h:a<18446744073709551616):a ^^^ 18446744073709551615=18446744073709551615-a:=by
 have e:(BitVec.ofNat 64 a ^^^ BitVec.allOnes 64).toNat=(~~~ BitVec.ofNat 64 a).toNat:=by rw[L']
 rw[BitVec.toNat_xor,BitVec.toNat_not,BitVec.toNat_ofNat,BitVec.toNat_allOnes,jy U]at e;simpa using e
def Z'(n:aa)(h:-9223372036854775808<=n/\n<=9223372036854775807):bits .xor .u64 (IntKind.u64.wrap (wrap64 (n*2))) (IntKind.u64.wrap (n / 9223372036854775808))=(fN n:aa):=by
 rw[wrap_u64,wrap_u64];by_cases c:0<=n
 .have a:wrap64 (n*2)%18446744073709551616=2*n:=by unfold wrap64;omega
  have b:n / 9223372036854775808%18446744073709551616=0:=U;rw[a,b,u64_xor _ _ U U bt bt];unfold fN;rw[aE c];simp
 have a:wrap64 (n*2)%18446744073709551616=2*n+18446744073709551616:=by unfold wrap64;omega
 have b:n / 9223372036854775808%18446744073709551616=18446744073709551615:=U;rw[a,b,u64_xor _ _ U U bt bt];have d:(18446744073709551615:aa).toNat=18446744073709551615:=rfl;rw[d,Z4 _ U];unfold fN;rw[aB c];omega
def UL:BitVec.ofInt 64 (-1)=BitVec.allOnes 64:=bt
def Z6(a:J)(h:a<fL):bits .xor .i64 (wrap64 ((a:aa) / 2)) (wrap64 (-wrap64 (bits .and .u64 (a:aa) 1)))=uR a:=by
 unfold fL at h;have d:bits .and .u64 (a:aa) 1=((a%2:J):aa):=by
  have h1:=u64_and_nat a 1 h bt;rw[nat_mask1]at h1;exact h1
 have e:wrap64 ((a:aa) / 2)=((a / 2:J):aa):=by unfold wrap64;omega
 rw[d,e];unfold uR;have c:(BitVec.ofInt 64 ((a / 2:J):aa)).toNat=a / 2:=ofInt_u64 _ U;by_cases h2:a%2=0
 .rw[aE h2,h2];have b:wrap64 (-wrap64 ((0:J):aa))=((0:J):aa):=by unfold wrap64;omega
  rw[b];show IntKind.i64.wrap ((BitVec.ofInt 64 ((a / 2:J):aa) ^^^ BitVec.ofInt 64 ((0:J):aa)).toNat:aa)=_;rw[BitVec.toNat_xor,c,ofInt_u64 0 bt,Nat.xor_zero,DV];omega
 rw[aB h2,show a%2=1 by omega];have b:wrap64 (-wrap64 ((1:J):aa))=-1:=by unfold wrap64;omega
 rw[b];show IntKind.i64.wrap ((BitVec.ofInt 64 ((a / 2:J):aa) ^^^ BitVec.ofInt 64 (-1)).toNat:aa)=_;rw[UL,L',BitVec.toNat_not,c,DV];omega
def Jz(n:aa)(h:-9223372036854775808<=n/\n<=9223372036854775807)(w:aj):aA 204 #[I n] w λe w'=>e=.returned (.string ⟨(num (fN n)).toArray⟩)/\Below w w w':=by
 have a:=Z' n h
 go_in
 go_wp2_with fail;refine aW (yY _ (OO n h) _) λao ak=>?_;go_wp2_with fail;go_ret;exact⟨rfl,ak⟩
def U7(s:ch)(aw:s.size<=maxLen)(w:aj):aA 245 #[.string s] w λe w'=>e=aY #[I (uR (cE s.data.toList).1),I ((cE s.data.toList).2.1:aa),I (cE s.data.toList).2.2]/\w=w':=by
 have a:=Z6 _ (y6 s.data.toList).1
 go_in
 go_wp2_with fail;refine bE (Cw s aw _) ?_;go_wp2_with fail;go_ret3;exact⟨rfl,rfl⟩
def Qo(W:aj)(B:J)(c:aT)(an:W.cell? (ae B 0 ad)=some (aH c.toNat)):(convert 51 9 (aq (some (ae B 0 ad)) 1 1)).run prog W=.ok (.string ⟨#[c]⟩) W:=by
 have:=D4 (P:=prog) W 51 9 5 (ae B 0 ad) 1 [c] underlying51 underlying5 underlying9 (by
  intro j a;obtain rfl:j=0:=by simpa using a
  simpa[ij]using an)
 simpa using this
def Qp(w:aj)(a b c d:aa):(convert 51 9 (aq (some (ae w 0 ad)) 4 4)).run prog (w.alloc (af #[aH a,aH b,aH c,aH d] 5))=.ok (.string (strOfNums [a,b,c,d])) (w.alloc (af #[aH a,aH b,aH c,aH d] 5)):=by
 refine run_convert_bytes_arg _ 51 5 underlying51 underlying5 w.heap.size 0 4 4 [a,b,c,d] rfl ?_ 9 underlying9;intro i ax
 match i,ax with
 | 0,_=>go_simp
 | 1,_=>go_simp
 | 2,_=>go_simp
 | 3,_=>go_simp
def Ld(a:aa)(h:0<=a/\a<4294967296)(w:aj):aA 269 #[aR a] w λe w'=>e=.returned (.string ⟨(eS a).toArray⟩)/\Below w w w':=by
 have b:=Qp;have aw:strOfNums [a / 16777216,a / 65536%256,a / 256%256,a%256]=⟨(eS a).toArray⟩:=by
  unfold strOfNums eS;rw[show a / 16777216%256=a / 16777216 by omega];rfl
 go_in
 go_wp2;go_ret;exact⟨rfl,(b7 _ _).alloc bx _⟩
def Lc(p:aa×aa)(l m:ah aT)(q:aa×aa)(a:mv q)(au:ji p l=q):ji p (l++m)=((raw q m).1%65521,(raw q m).2%65521):=by
 rw[O5,au];have⟨h1,h2⟩:=JT m q q (by unfold mv at a;omega) (by unfold mv at a;omega);exact qM h1.symm h2.symm
def YE(n:aa)(h:0<=n/\n<4294967296)(s:ch)(aw:s.size<=maxLen)(w:aj):aA 313 #[aR n,.string s] w λe w'=>e=.returned (aR (more n s.data.toList))/\w=w':=by
 unfold maxLen at aw;have ak:bits .and .u32 n 65535=n%65536:=bits_mask .u32 32 bt (λm a b=>by rw[wrap_u32];omega) 16 bt n h.1 h.2;have B:=ag ak
 go_in
 go_wp2
 go_loop [1,5,6] (λs' bo ax=>∃ (t:ch) (j:J) (p:aa×aa),s'=.string t/\t.size+j=s.size/\t.data.toList=s.data.toList.drop j/\ji (n%65536%65521,n / 65536%65521) (s.data.toList.take j)=p/\bo=aR p.1/\ax=aR p.2) (λs' _ _=>De s')
 case atStart=>exact⟨s,0,_,rfl,U,aM,rfl,rfl,rfl⟩
 obtain⟨t,j,p,rfl,r,aK,au,rfl,rfl⟩:=hrel;clear ak;have z:=ag r;have l:=ag aK;have g:=ag au;have A:t.size<=s.size:=U;have c:mv p:=by rw[<-au];exact uA _ _ (wJ n)
 clear r aK au;by_cases C:0<t.size
 .by_cases h1:t.size<=5552
  .go_wp2
   go_loop [5,6,22] (λbo ax i=>∃ k:J,k<=t.size/\i=I k/\bo=aR (raw p (t.data.toList.take k)).1/\ax=aR (raw p (t.data.toList.take k)).2) (λ_ _ i=>t.size-(intOf i).toNat)
   case atStart=>exact⟨0,U,rfl,rfl,rfl⟩
   obtain⟨k,hk,rfl,rfl,rfl⟩:=hrel;have x:=CG p (t.data.toList.take k) c b1;by_cases y:k<t.size
   .exact No
   obtain rfl:k=t.size:=U;have d:ji (n%65536%65521,n / 65536%65521) (s.data.toList.take (j+t.size))=((raw p (t.data.toList.take t.size)).1%65521,(raw p (t.data.toList.take t.size)).2%65521):=by
    rw[take_add,<-l.o];exact Lc _ _ _ _ c g.o
   have f:=ag d;clear d;go_wp2
   go_round
   case rel=>exact⟨ByteArray.empty,j+t.size,_,rfl,Az,by rw[Ee Az];rfl,f.o,rfl,rfl⟩
   simp[De];omega
  go_wp2
  go_loop [5,6,22] (λbo ax i=>∃ k:J,k<=5552/\i=I k/\bo=aR (raw p (t.data.toList.take k)).1/\ax=aR (raw p (t.data.toList.take k)).2) (λ_ _ i=>5552-(intOf i).toNat)
  case atStart=>exact⟨0,U,rfl,rfl,rfl⟩
  obtain⟨k,hk,rfl,rfl,rfl⟩:=hrel;have x:=CG p (t.data.toList.take k) c b1;by_cases y:k<5552
  .exact No
  obtain rfl:k=5552:=U;have d:ji (n%65536%65521,n / 65536%65521) (s.data.toList.take (j+5552))=((raw p (t.data.toList.take 5552)).1%65521,(raw p (t.data.toList.take 5552)).2%65521):=by
   rw[take_add,<-l.o];exact Lc _ _ _ _ c g.o
  have f:=ag d;clear d;go_wp2
  go_round
  case rel=>exact⟨t.extract 5552 t.size,j+5552,_,rfl,Az,by rw[vV,l.o,mV],f.o,rfl,rfl⟩
  simp[De];omega
 have hm:more n s.data.toList=p.2*65536+p.1:=by
  have e:=g.o;rw[nV Az]at e;rw[more,e]
 have v:=ag hm;clear hm;have D:(0<=p.1/\p.1<65521)/\(0<=p.2/\p.2<65521):=c;go_wp2;go_ret;refine⟨rq ?_,rfl⟩;rw[v.o];exact bits_join .u32 32 bt (λm a b=>by rw[wrap_u32];omega) 16 _ _ U U U U U U
def Dg(s:ch)(aw:s.size<=maxLen)(w:aj):aA 270 #[.string s] w λe w'=>e=.returned (aR (more 1 s.data.toList))/\w=w':=by
 go_in
 go_wp2_with (go_at_call 313;refine(YE _ U _ aw _).mono ?_;rintro e w' ⟨rfl,rfl⟩);go_ret;exact⟨rfl,rfl⟩
def i'(l:ah aT):ah aT:=l++eS (more 1 l)
def sP(n:aa):(eS n).length=4:=rfl
def YF(s:ch)(aw:s.size<=1000000)(w:aj):aA 205 #[.string s] w λe w'=>e=.returned (.string ⟨(i' s.data.toList).toArray⟩)/\Below w w w':=by
 have a:(eS (more 1 s.data.toList)).length<=4:=df _;have hfin:s++⟨(eS (more 1 s.data.toList)).toArray⟩=⟨(i' s.data.toList).toArray⟩:=by
  apply ByteArray.ext;simp[i',Ma]
 go_in
 go_wp2_with (first|(go_at_call 270;refine(Dg _ (by simp[maxLen];omega) _).mono ?_;rintro e w' ⟨rfl,rfl⟩)|(go_at_call 269;refine(Ld _ (wz _ _) _).mono ?_;rintro e w' ⟨rfl,ak⟩));go_ret;exact⟨by rw[<-hfin];rfl,ak⟩
def Xu(l:ah aT):(ByteArray.mk (i' l).toArray).size=l.length+4:=by
 simp[i',sP,ByteArray.size]
def opened(l:ah aT):ah aT×aa:=
 if l.length<4 then([],3)else if i' (l.take (l.length-4))=l then(l.take (l.length-4),0)else([],15)
def Ju(s:ch)(m:J)(hm:s.size=m+4):opened s.data.toList=if (eS (more 1 (s.data.toList.take m)) == (s.extract m (m+4)).toList)=true then(s.data.toList.take m,0)else([],15):=by
 have d:s.data.toList.length=m+4:=by rw[<-hm];simp
 have b:(s.extract m (m+4)).toList=s.data.toList.drop m:=by
  rw[w6,extract_data,nV];simp;omega
 unfold opened;rw[aB U,show s.data.toList.length-4=m by omega,b];have a:i' (s.data.toList.take m)=s.data.toList↔eS (more 1 (s.data.toList.take m))=s.data.toList.drop m:=by
  unfold i';constructor
  .intro h
   have:=c5 (List.drop m) h
   rwa [xa b1]at this
  intro h;rw[h,mo]
 by_cases h:eS (more 1 (s.data.toList.take m))=s.data.toList.drop m
 .rw[aE (a.2 h),aE ic]
 rw[aB (λc=>h (a.1 c)),aB ic]
def UO(s:ch)(m:J)(hm:s.size=m+4)(h:(!eS (more 1 (s.data.toList.take m)) == (s.extract m (m+4)).toList)=true):opened s.data.toList=([],15):=by
 rw[Ju s m hm,aB ic]
def UP(s:ch)(m:J)(hm:s.size=m+4)(h:(!eS (more 1 (s.data.toList.take m)) == (s.extract m (m+4)).toList)=false):opened s.data.toList=(s.data.toList.take m,0):=by
 rw[Ju s m hm,aE ic]
def Cp(s:ch)(l:ah aT)(h:s.data.toList=l):s=⟨l.toArray⟩:=by
 subst h;simp
def Lb(s:ch)(aw:s.size<=maxLen)(w:aj):aA 239 #[.string s] w λe w'=>e=aY #[.string ⟨(opened s.data.toList).1.toArray⟩,I (opened s.data.toList).2]/\Below w w w':=by
 unfold maxLen at aw;by_cases b:s.size<4
 .have c:opened s.data.toList=([],3):=by unfold opened;rw[aE (by simpa using b)]
  go_in
  go_wp2;go_ret2;exact⟨by rw[c];rfl,b7 _ _⟩
 obtain⟨m,hm⟩:∃ m,s.size=m+4:=⟨s.size-4,U⟩
 go_in
 go_wp2;refine pF aI aI ?_
 repeat (go_big_quiet_step (first|(go_at_call 270;exact Calls.jU (Dg _ (by simp[maxLen];omega) _))|(go_at_call 269;exact Calls.kB (Ld _ (wz _ _) _))))
 refine wpQuiet_nil ?_;intro _ d;have⟨x,f⟩:=d;subst f;go_wp2
 .have ak:=UO s m hm (by assumption);have a:=ag ak;go_ret2;exact⟨by rw[a.o];rfl,x.below⟩
 have ak:=UP s m hm (by assumption);go_ret2;refine⟨?_,x.below⟩;rw[ak];exact J8 (c5 Value.string (Cp (s.extract 0 m) (s.data.toList.take m) (by rw[extract_data];simp))) rfl
end Go.Proofs.YtalagblioepadaaGreatDoor
