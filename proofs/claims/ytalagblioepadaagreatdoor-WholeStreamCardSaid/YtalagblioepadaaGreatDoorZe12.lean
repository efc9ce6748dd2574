/- The proof, part 12. -/
import Derived.Test.YtalagblioepadaaGreatDoorZe07
import Derived.RangeFuncBox
import Derived.Test.YtalagblioepadaaGreatDoorZe05
import Derived.Deep.Cut
import Derived.OwnWalkIn
import Derived.TacticsInMore
import Derived.Shelf.Abstract
namespace Go.Proofs.YtalagblioepadaaGreatDoor
set_option linter.all false
open Proofs.Tryz List Go.RowKit
set_option maxRecDepth 100000
set_option maxHeartbeats 1000000
variable{L:ai aR}{base cap:J}{a:cr Addr}{v:ay}{w:aj}
def AF(w:aj)(s:cl):∃ cap aq,(convert 9 51 (.string s)).run prog w=.ok (au (bT w) s.size cap) aq/\s.size<=cap/\Below w w aq/\aq.heap.size=w.heap.size+1/\
  (∀ i (h:i<s.size),aq.cell? (ah w i)=some (bf (s.data.toList[i]'(j0)).toNat))/\∀ i,i<s.size->aq.frozen? (ah w i)=false:=by
 refine⟨_,_,run_bytes_of_string w 9 51 5 s underlying9 underlying51 underlying5,Ho _ _ _ _,?_,?_,?_,?_⟩
 .exact((b9 _ _).drew).alloc bu _
 .show(w.heap.push _).size=_;simp
 .intro i h;show(w.drew.alloc _).cell? (ah w.drew.heap.size i)=_;rw[World.cell?_alloc_mark,bytesRow_at s _ i h];simp
 intro i h;show(w.drew.alloc _).frozen? (ah w.drew.heap.size i)=_;rw[World.frozen?_alloc_mark]
 have:=Ho w s.size 0 5
 have a:s.data.size=s.size:=rfl;simp[bytesRow,a];omega
def yq:(prog.info? 5).map (λi=>(i.zero,i.size,i.bytes))=some (some (bf 0),1,1):=bc
def eW(c:aR):ay:=bf c.toNat
def K5{n:J}(l:ai aR)(h:w.ownsRow base 5 1 v n (l.map eW)):(convert 51 9 v).run prog w=.ok (.string ⟨l.toArray⟩) w:=by
 obtain⟨a,a_⟩:=id h;simp at a;rcases a_ with⟨rfl,rfl⟩|⟨g,cap,b,rfl,_⟩
 .obtain rfl:l=[]:=p0.1 a;rw[run_convert_bytes_nil w 51 5 underlying51 underlying5 0 0 9 underlying9];rfl
 subst a;refine Hp w 51 9 5 (ah g 0) cap l underlying51 underlying5 underlying9 λj d=>?_;rw[iB,gM,h.cellAt j xq];simp[d,eW]
def FI{a:ai aR}{x:U}(c:aR)(h:w.ownsRow base 5 1 v (a.length+1) (a.map eW++[bf x]))(ak:x=c.toNat):w.ownsRow base 5 1 v (a++[c]).length ((a++[c]).map eW):=by
 simpa[eW,ak]using h
def Bt(N:J)(f:N<gL)(w:aj):aB 267 #[.int .u64 N] w λe w'=>e=.returned (.string ⟨(num N).toArray⟩)/\Below w w w':=by
 have⟨l,av,h,i,j⟩:=pY yq;have x:=pD N f
 go_in
 go_wp2
 go_loopw [0,3] (λn v wr=>∃ (m:J) (a:ai aR),n=.int .u64 m/\m<=N/\num N=a++num m/\wr.ownsRow w 5 1 v a.length (a.map eW)/\Below w w wr)
  (λn _ _=>(intOf n).toNat)
 case atStart=>exact⟨N,[],rfl,dm _,rfl,Ck _ _ _ _,b9 _ _⟩
 obtain⟨m,a,rfl,hm,C,b,al⟩:=hrel;have t:a.length<=10:=by have:=c6 length C;simp at this;omega
 refine dU;by_cases g:m<128
 .go_wp2_with (at_builtin;refine uV _ rfl (.tmp 15) (.tmp 18) 51 rfl w 5 l (bf 0) 1 1 underlying51 av h i j rfl bs _ _ _ rfl (b.alloc _) (ah wr 0) 1 1 [bf (m:U)] rfl rfl (sa _ _ _) p7 k6 I H3 ?_);intro v' aq c d _;have q:=(al.alloc al.size _).grown d HW (λk e=>((b.alloc (ab #[bf (m:U)] 5)).lt k e).1);have u:=K5 _ (FI (UInt8.ofNat m) c b_);have hfin:num N=a++[UInt8.ofNat m]:=by rw[m'.o,ua m g]
  refine fB;exact⟨by rw[hfin];rfl,q⟩
 have y:bits .or .u8 ((m:U)%128) 128=(m:U)%128+128:=by
  have h2:=nat_join 7 128 ((m:U)%128).toNat bs I;rw[(u8_or (((m:U)%128)) 128 I I bs bs),Nat.or_comm];simp only[Int.reduceToNat]at *;omega
 go_wp2_with (at_builtin;refine uV _ rfl (.tmp 8) (.tmp 13) 51 rfl w 5 l (bf 0) 1 1 underlying51 av h i j rfl bs _ _ _ rfl (b.alloc _) (ah wr 0) 1 1 [bf ((m:U)%128+128)] rfl rfl (sa _ _ _) p7 k6 I H3 ?_);intro v' aq c d _;have z:IntKind.u64.wrap ((m:U) / 128)=(m:U) / 128:=IntWalk.u64_in _ (by unfold gL at f;omega);have r:num N=(a++[UInt8.ofNat (m%128+128)])++num (m / 128):=by rw[m'.o,yH m g];simp
 have s:=FI (UInt8.ofNat (m%128+128)) c b_;have p:=ad r;go_wp2;go_roundw
 case rel=>exact⟨m / 128,_,cT,cu (HK _ _) hm,p.o,s,((al.alloc al.size _).grown d HW (λk e=>((b.alloc (ab #[bf ((m:U)%128+128)] 5)).lt k e).1))⟩
 have hd:m / 128<m:=Nat.div_lt_self I bs;simp[intOf];omega
def ag9(k:J)(x:U)(hk:k<=9)(ak:0<=x/\x<128)(h:¬ (k=9/\1<x)):(x*2 ^ (7*k) / 2 ^ (7*k) != x)=false/\IntKind.u64.wrap (x*2 ^ (7*k))=x*2 ^ (7*k):=by
 rw[wrap_u64];rcases (show k=0\/k=1\/k=2\/k=3\/k=4\/k=5\/k=6\/k=7\/k=8\/k=9 by omega)with rfl|rfl|rfl|rfl|rfl|rfl|rfl|rfl|rfl|rfl<;>(simp only[Nat.reduceMul,Int.reducePow,bne_eq_false_iff_eq];omega)
def ag8(k:J)(hk:k=9)(x:U)(ak:1<x/\x<128):(IntKind.u64.wrap (x*2 ^ (7*k)) / 2 ^ (7*k) != x)=true:=by
 subst hk;rw[wrap_u64];simp only[Nat.reduceMul,Int.reducePow,HS,ne_eq];omega
def adH(k a x:J)(hk:k<=9)(ak:x<128)(h:¬ (k=9/\1<x))(bg:a<128 ^ k):bits .or .u64 (a:U) ((x:U)*2 ^ (7*k))=((a+x*128 ^ k:J):U):=by
 have c:=(FX k a x hk ak h bg).1;have e:((x:U)*2 ^ (7*k))=((x*128 ^ k:J):U):=by
  rw[Nat.pow_mul 2 7 k |> λ(h:2 ^ (7*k)=(2 ^ 7) ^ k)=>show(128:J) ^ k=2 ^ (7*k)from h.symm];simp
 have b:128 ^ k=2 ^ (7*k):=(Nat.pow_mul 2 7 k).symm;unfold gL at c;rw[e,u64_or_nat _ _ I I,Nat.or_comm,nat_join (7*k) (x*128 ^ k) a (by rw[b];exact Nat.mul_mod_left _ _) (by rw[<-b];exact bg),r4]
def FK(s:cl)(aA:s.size<=maxLen)(w:aj):aB 302 #[.string s] w λe w'=>e=aV #[.int .u64 ((cF s.data.toList).1:U),aa ((cF s.data.toList).2.1:U),aa (cF s.data.toList).2.2]/\w=w':=by
 unfold maxLen at aA
 go_in
 go_wp2_with fail
 go_loop [5,11] (λn i=>∃ k a:J,k<=s.size/\k<=10/\i=aa k/\n=.int .u64 a/\a<128 ^ k/\a<gL/\cF s.data.toList=kf k a (s.data.toList.drop k)) (λ_ i=>s.size-(intOf i).toNat)
 case atStart=>exact⟨0,0,I,I,rfl,rfl,bs,bs,rfl⟩
 obtain⟨k,a,hk,A,rfl,rfl,C,m,N⟩:=hrel;by_cases M:k<s.size
 .refine SZ;rw[hd]at N;refine dU;have y:(0:U)<=(s[k].toNat:U)/\(s[k].toNat:U)<=255:=by have:=s[k].toNat_lt;omega
  clear hd C;by_cases b:9<k\/(k=9/\1<s[k].toNat%128)
  .rw[N4 _ _ _ _ b]at N;have d:=ad N;clear N;by_cases x:9<k
   .clear b;exact xB
   have r:=ag8 k I ((s[k].toNat:U)%128) I;have f:k<=9:=I;clear b;exact xB
  have f:k<=9:=I;have⟨r,B⟩:=ag9 k ((s[k].toNat:U)%128) f I I;by_cases h2:s[k].toNat=0/\0<k
  .rw[N3 _ _ _ _ b h2]at N;have d:=ad N;have D:(s[k].toNat:U)<128:=I;have h1:0<k:=h2.2;have v:((s[k].toNat:U)%128 == 0)=true:=by rw[iY];omega
   clear N b h2;exact xB
  have t:bits .or .u64 (a:U) ((s[k].toNat:U)%128*2 ^ (7*k))=((a+s[k].toNat%128*128 ^ k:J):U):=adH k a (s[k].toNat%128) f (gb _ bs) I m'.o;have j:=FX k a (s[k].toNat%128) f (gb _ bs) I m'.o;by_cases g:s[k].toNat<128
  .rw[FU _ _ _ _ b h2 g]at N;have d:=ad N;have p:s[k].toNat%128=s[k].toNat:=kE g;by_cases l:s[k].toNat=0
   .have E:bits .or .u64 (a:U) 0=(a:U):=by
     have h:=u64_or_nat a 0 (by unfold gL at m;exact m) bs;simpa using h
    have z:¬ 0<k:=λc=>h2 ⟨l,c⟩;have u:((s[k].toNat:U)%128 == 0)=true:=by rw[iY];omega
    have q:a+s[k].toNat%128*128 ^ k=a:=by rw[l];simp
    rw[q]at d;clear N b h2 t j p q;exact xB
   have u:((s[k].toNat:U)%128 == 0)=false:=by rw[ep];omega
   clear N b h2 p;exact xB
  rw[FV _ _ _ _ b h2 g]at N;have d:=ad N;clear N b h2;refine aK
  go_round
  case rel=>exact⟨k+1,_,I,I,cT,rfl,j.2,j.1,d.o⟩
  simp[intOf];omega
 have D:s.data.toList.drop k=[]:=Cu b_;refine ed;have d:=ad N;clear N D C;exact xB
def PF(a:J)(h:a<gL):IntKind.u64.wrap (a:U)=(a:U):=by unfold gL at h;exact IntWalk.u64_in _ I
def ajj(a:J)(h:a<18446744073709551616):a ^^^ 18446744073709551615=18446744073709551615-a:=by
 have e:(BitVec.ofNat 64 a ^^^ BitVec.allOnes 64).toNat=(~~~ BitVec.ofNat 64 a).toNat:=by rw[Qp]
 rw[BitVec.toNat_xor,BitVec.toNat_not,BitVec.toNat_ofNat,BitVec.toNat_allOnes,kE I]at e;simpa using e
def ajq(n:U)(h:-9223372036854775808<=n/\n<=9223372036854775807):bits .xor .u64 (IntKind.u64.wrap (wrap64 (n*2))) (IntKind.u64.wrap (n / 9223372036854775808))=(gP n:U):=by
 rw[wrap_u64,wrap_u64];by_cases c:0<=n
 .have a:wrap64 (n*2)%18446744073709551616=2*n:=by unfold wrap64;omega
  have b:n / 9223372036854775808%18446744073709551616=0:=I;rw[a,b,u64_xor _ _ I I bs bs];unfold gP;rw[aD c];simp
 have a:wrap64 (n*2)%18446744073709551616=2*n+18446744073709551616:=by unfold wrap64;omega
 have b:n / 9223372036854775808%18446744073709551616=18446744073709551615:=I;rw[a,b,u64_xor _ _ I I bs bs];have d:(18446744073709551615:U).toNat=18446744073709551615:=rfl;rw[d,ajj _ I];unfold gP;rw[az c];omega
def adu:BitVec.ofInt 64 (-1)=BitVec.allOnes 64:=bs
def ajl(a:J)(h:a<gL):bits .xor .i64 (wrap64 ((a:U) / 2)) (wrap64 (-wrap64 (bits .and .u64 (a:U) 1)))=w4 a:=by
 unfold gL at h;have c:bits .and .u64 (a:U) 1=((a%2:J):U):=by
  have h1:=u64_and_nat a 1 h bs;rw[nat_mask1]at h1;exact h1
 have d:wrap64 ((a:U) / 2)=((a / 2:J):U):=by unfold wrap64;omega
 rw[c,d];unfold w4;have ak:(BitVec.ofInt 64 ((a / 2:J):U)).toNat=a / 2:=ofInt_u64 _ I;by_cases h2:a%2=0
 .rw[aD h2,h2];have b:wrap64 (-wrap64 ((0:J):U))=((0:J):U):=by unfold wrap64;omega
  rw[b];show IntKind.i64.wrap ((BitVec.ofInt 64 ((a / 2:J):U) ^^^ BitVec.ofInt 64 ((0:J):U)).toNat:U)=_;rw[BitVec.toNat_xor,ak,ofInt_u64 0 bs,Nat.xor_zero,Hf];omega
 rw[az h2,show a%2=1 by omega];have b:wrap64 (-wrap64 ((1:J):U))=-1:=by unfold wrap64;omega
 rw[b];show IntKind.i64.wrap ((BitVec.ofInt 64 ((a / 2:J):U) ^^^ BitVec.ofInt 64 (-1)).toNat:U)=_;rw[adu,Qp,BitVec.toNat_not,ak,Hf];omega
def ND(n:U)(h:-9223372036854775808<=n/\n<=9223372036854775807)(w:aj):aB 204 #[aa n] w λe w'=>e=.returned (.string ⟨(num (gP n)).toArray⟩)/\Below w w w':=by
 have a:=ajq n h
 go_in
 go_wp2_with fail;refine aS (Bt _ (W8 n h) _) λaq al=>?_;go_wp2_with fail;go_ret;exact⟨rfl,al⟩
def adP(s:cl)(aA:s.size<=maxLen)(w:aj):aB 245 #[.string s] w λe w'=>e=aV #[aa (w4 (cF s.data.toList).1),aa ((cF s.data.toList).2.1:U),aa (cF s.data.toList).2.2]/\w=w':=by
 have a:=ajl _ (BA s.data.toList).1
 go_in
 go_wp2_with fail;refine bJ (FK s aA _) ?_;go_wp2_with fail;go_ret3;exact⟨rfl,rfl⟩
def YJ(W:aj)(B:J)(c:aR)(an:W.cell? (ah B 0)=some (bf c.toNat)):(convert 51 9 (au (bT B) 1 1)).run prog W=.ok (.string ⟨#[c]⟩) W:=by
 have:=Hp (P:=prog) W 51 9 5 (ah B 0) 1 [c] underlying51 underlying5 underlying9 (by
  intro j a;obtain rfl:j=0:=by simpa using a
  simpa[iB]using an)
 simpa using this
def dy(w:aj)(a:cr Addr)(cap:J)(L:ai aR):ae:=
 L.length<=cap/\cap<=maxLen/\(L=[]\/∃ b o,a=some (eo b o db)/\∀ i (h:i<L.length),w.cell? (ah b (o+i))=eW L[i])
def adT(w:aj)(a:cr Addr)(n cap:J):aB 268 #[au a n cap] w λe w'=>e=.returned (.func (.func 312) #[] #[w])/\w.alloc (ab #[au a n cap] 51)=w':=by
 go_in
 go_wp2;go_ret;exact⟨rfl,rfl⟩
def dy.keeps{A B:aj}{S:J->ae}(h:dy A a cap L)(hk:ag S A B)(aA:L≠[]->∀ x,a=some x->¬ S x.block):dy B a cap L:=by
 have⟨h1,h2,d⟩:=h;refine⟨h1,h2,?_⟩;by_cases c:L=[]
 .exact .inl c
 obtain⟨b,o,rfl,an⟩:=d.resolve_left c;exact .inr ⟨b,o,rfl,λi av=>hk.cell (an i av) (aA c (ah b o) rfl)⟩
theorem dy.at'(h:dy w a cap L)(hne:L≠[]):∃ b o,a=some (eo b o db)/\∀ i (av:i<L.length),w.cell? (ah b (o+i))=eW L[i]:=
 h.2.2.resolve_left hne
def dy.lt(h:dy w a cap L)(hne:L≠[])(x:Addr)(ak:a=some x):x.block<w:=by
 obtain⟨b,o,rfl,an⟩:=h.at' hne;cases ak
 have:=oT w _ (an 0 (tf.2 hne))
 exact this
theorem dy.drop(h:dy w a cap L)(n:J)(aw:n<=L.length):∃ a',(∀ aq:aj,(Instr.slice 51 (au a L.length cap) (some (aa n)) none none).run prog aq=.ok (au a' (L.length-n) (cap-n)) aq)/\dy w a' (cap-n) (L.drop n)/\(∀ x,a'=some x->∃ y,a=some y/\x.block=y.block):=by
 have⟨h1,h2,c⟩:=h;refine⟨if cap=n then a else a.map (·.add (n*1)),λaq=>?_,⟨b_,I,?_⟩,?_⟩
 .rw[run_slice_l aq 51 a L.length cap underlying51 .i64 n I I];simp[go_sem,sliced]
 .rcases c with rfl|⟨b,o,rfl,an⟩
  .exact .inl aM
  by_cases d:n=L.length
  .exact .inl (by simp[d])
  refine .inr ⟨b,o+n,?_,λi av=>?_⟩
  .rw[az I];simp[iB]
  simp only[iv]at av;rw[jZ,an (n+i) I];simp
 intro x ak;split at ak
 .exact⟨x,ak,rfl⟩
 cases a with
 | none=>simp at ak
 | some y=>
  simp at ak;refine⟨y,rfl,?_⟩;rw[<-ak];unfold Addr.add;split<;>rfl
def BM(w:aj)(B:J):J:=match w.cell? ⟨B,0,none⟩with|some (.slice _ n _)=>n|_=>0
def ahL(w:aj)(f:J)(se:f<w)(a:cr Addr)(cap:J)(L:ai aR)(C:w.cell? (ah f 0)=au a L.length cap)(zd:w.frozen? (ah f 0)=false)(vl:dy w a cap L)(s:J->ae)(V:¬ s f)(vs:L≠[]->∀ x,a=some x->x.block<w/\¬ s x.block/\x.block≠f):q1 prog 312 #[f] (λp:aR×J=>#[bf p.1.toNat,aa p.2]) (runs L) s (λk=>k=f) w:=by
 intro l m' W Tq G ajW Q v' ps;subst Tq;refine h0.2 ?_
 go_in
 go_wp2
 go_loopw [3] (λ_ wr=>∃ (j:J) (a':cr Addr) (g:J) (pre:ai (aR×J)),j<=L.length/\wr.cell? (ah f 0)=some (.slice a' (L.drop j).length g)/\wr.frozen? (ah f 0)=false/\dy wr a' g (L.drop j)/\(∀ x,a'=some x->∃ y,a=some y/\x.block=y.block)/\runs L=pre++runs (L.drop j)/\m' pre wr/\w+2<=wr.heap.size)
  (λ_ wr=>BM wr f)
 case atStart=>exact⟨0,a,cap,[],c3 _,by simpa using G.cell C (λh=>h),by rw[G.frozen se (λh=>h)];exact zd,by simpa using vl.keeps G (λ_ _ _ h=>h),λx ak=>⟨x,ak,rfl⟩,aM,ps,I⟩
 have⟨j,a',g,pre,W',u,fr,P,X,hk,S,ajX⟩:=hrel;generalize gf:L.drop j=R at *;refine ob;cases R with
 | nil=>
  go_wp2;go_end0;exact⟨⟨_,rfl⟩,by have h:=lb.o;rw[runs,gq]at h;rw[h];exact S⟩
 | cons c r=>
  have hle:=BR c r;obtain⟨h1,h2,v⟩:=id P;rcases v with v|⟨b,o,rfl,C⟩
  .cases v
  have w':wr.cell? (ah b o)=bf c.toNat:=C 0 aM;refine tE;have⟨i,mv,r',Y⟩:=P.drop (same c r+1) b_;simp only[eA]at h1 u mv;unfold maxLen at h2;go_wp2;go_loopw [3] (λn aF=>∃ k q:J,1<=k/\k<=same c r+1/\n=aa k/\aF=wr.drewN q) (λn _=>same c r+1-(intOf n).toNat)
  case atStart=>exact⟨1,0,I,I,rfl,rfl⟩
  obtain⟨k,q,ajS,ajT,rfl,rfl⟩:=hrel;by_cases ajU:k<same c r+1
  .have Q':=OL c r (k-1) I I;have Z:wr.cell? (ah b (o+k))=bf c.toNat:=by
    have:=D.o k b_
    rw[getElem_cons]at this;simpa[eW,show k≠0 by omega,Q']using this
   have hd:decide ((k:U)<(r.length:U)+1)=true:=b_;go_wp2;go_quiet (fail);go_wp2;go_roundw
   case rel=>exact⟨k+1,_,I,I,cT,rfl⟩
   simp[intOf];omega
  have E:k=same c r+1:=I;have m:=ad E;by_cases V':k<r.length+1
  focus
   obtain⟨d,Z,ajV⟩:∃ d:aR,wr.cell? (ah b (o+k))=bf d.toNat/\((d.toNat:U) == (c.toNat:U))=false:=by
    have TS:same c r<r.length:=I;have hne:=ON c r TS
    have:=D.o (same c r+1) b_
    rw[getElem_cons]at this;refine⟨r[same c r],by rw[E];simpa[eW]using this,?_⟩;rw[ep];intro h;exact hne (CK.1 I)
   have hd:decide ((k:U)<(r.length:U)+1)=true:=b_
  rotate_left
  focus
   have hd:decide ((k:U)<(r.length:U)+1)=false:=b_
  rotate_left
  all_goals
   clear E;go_wp2;go_quiet (fail);go_upto_region 4 with(fail)
   refine(Cn (n:=0)).1 ?_;rw[<-m.o]at mv;obtain⟨fn,tmps,assign,body,a8,T⟩:=v' pre (c,k) (runs (r.drop (same c r))) (wr.drewN (q+nq)) (by rw[lb.o,runs,m.o]) (Q _ _ _ S ((ag.refl _ wr).drewN (q+nq)));dsimp only at a8;gi_wp2;refine⟨rfl,T.mono ?_⟩;rintro e B ⟨rfl,s',t⟩;have F:∀ x,i=some x->x.block<w/\¬ s x.block/\x.block≠f:=by
    intro x ak;have⟨y,H,K⟩:=Y x ak;have⟨z,M,N⟩:=X y H;rw[K,N];exact vs (λe=>by have h:=g'.o;rw[e]at h;simp at h) z M
   have ys:B.cell? (ah f 0)=au (dk b o) (r.length+1) g:=t.cell (p:=ah f 0) u (λh=>h.elim V (λh=>tu));have zp:B.frozen? (ah f 0)=false:=(t.frozen (p:=ah f 0) b_ (λh=>h.elim V (λh=>tu))).trans fr;have sd:dy B i (g-k) ((c :: r).drop k):=by
    rw[m.o];exact(r'.keeps ((bd wr).drewN (q+nq)) (λ_ _ _ h=>h)).keeps t (λ_ x ak h=>h.elim (F x ak).2.1 (λh=>by have:=(F x ak).1;omega))
   have T':BM wr f=r.length+1:=by unfold BM;rw[u]
   clear a8 T w' u fr
   try clear Z
   gi_wp2;go_wp2;have A:L.drop (j+k)=(c :: r).drop k:=by rw[<-g'.o,n5]
   have fo:(B.setCell (ah f 0) (au i (r.length+1-k) (g-k))).cell? (ah f 0)=au i (r.length+1-k) (g-k):=zf _ _ _ ys;have ajR:j+(r.length+1)=L.length:=by have:=c6 length g'.o;simp at this;omega
   have l':ag (λk=>k=f) B (B.setCell (ah f 0) (au i (r.length+1-k) (g-k))):=(ag.refl (λk=>k=f) B).setCell (p:=ah f 0) rfl _;refine⟨⟨j+k,i,g-k,pre++[(c,k)],I,?_,by rw[Qv];exact zp,?_,?_,?_,Q _ _ _ s' l',?_⟩,?_⟩
   .rw[fo,A,iv,eA]
   .rw[A];exact sd.keeps l' (λ_ x ak=>(F x ak).2.2)
   .intro x ak;have⟨y,H,K⟩:=Y x ak;have⟨z,M,N⟩:=X y H;exact⟨z,M,K.trans N⟩
   .rw[A,lb.o,runs,m.o];simp
   .have:=t.size;simp at this;simp;omega
   rw[T'];unfold BM;rw[fo];show r.length+1-k<r.length+1;omega
end Go.Proofs.YtalagblioepadaaGreatDoor
