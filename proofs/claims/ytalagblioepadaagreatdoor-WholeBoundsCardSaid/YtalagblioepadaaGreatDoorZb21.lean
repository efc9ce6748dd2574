/- The proof, part 21. -/
import Derived.Test.YtalagblioepadaaGreatDoorZb18
import Derived.Test.YtalagblioepadaaGreatDoorZb12
namespace Go.Proofs.YtalagblioepadaaGreatDoor
set_option linter.all false
open Proofs.Tryz List Go.RowKit
set_option maxRecDepth 100000
set_option maxHeartbeats 4000000
def sN{p:ak}(h:p:=by first|(cases d<;>exact h)|cases h.1):p:=h
def gh{p:ak}(h:p:=by simp only[dj,gY];first|rfl|simp[go_sem]):p:=h
def sK{p:ak}(h:p:=by
 go_wp2_with fail;refine o9 aH aH ?_
 repeat (go_big_quiet_step (first|(go_at_call 345;first|(with_reducible exact Calls.jv (h1 _))|(with_reducible exact Calls.jv (h2 _))|(with_reducible exact Calls.jv (d _))|(with_reducible exact Calls.jv (g _))|(with_reducible exact Calls.jv (i _))|(with_reducible exact Calls.jv (j _)))|(go_at_call 359;exact Calls.ka (A1 _))|(go_at_call 353;exact Calls.ka (l _))))
 refine wpQuiet_nil ?_;intro _ a;obtain⟨c,b⟩:=a;subst b;go_wp2_with fail;go_ret;exact⟨by first|rfl|simp_all,(((bY _ w).alloc bA _).trans (c.below.mono aI))⟩
 ):p:=h
def wT{p:ak}(h:p:=by
 go_wp2_with fail;refine o9 aH aH ?_
 repeat (go_big_quiet_step (first|(go_at_call 345;first|(with_reducible exact Calls.jv (h1 _))|(with_reducible exact Calls.jv (h2 _)))|(go_at_call 354;exact Calls.ka (A0 _))|(go_at_call 353;exact Calls.ka (b _))))
 refine wpQuiet_nil ?_;intro _ c;obtain⟨f,d⟩:=c;subst d;go_wp2_with fail;go_ret;exact⟨by first|rfl|simp_all,(((bY _ w).alloc bA _).trans (f.below.mono aI))⟩
 ):p:=h
def M9{p:ak}(h:p:=by
 go_simp;by_cases h1:a=0<;>by_cases h2:b=0<;>by_cases g:c=0<;>by_cases i:d=0<;>by_cases j:e=0<;>by_cases k:f=0<;>simp[h1,h2,g,i,j,k]
 ):p:=h
def Nq{p:ak}(h:p:=by
 go_wp2_with fail;refine(Qt n h w).mono ?_;rintro e w' ⟨rfl,rfl⟩;go_wp2;go_ret;exact⟨rfl,rfl⟩
 ):p:=h
def Lu{p:ak}(h:p:=by
 go_wp2;go_ret;exact⟨by rw[show decide (a<=n)=false by simpa using h1];simp,rfl⟩
 ):p:=h
def wN{p:ak}(h:p:=by
 go_wp2;go_ret;exact⟨rfl,((bY _ w).alloc bA _).alloc aI _⟩
 ):p:=h
def wO{p:ak}(h:p:=by
 go_wp2_with fail;go_ret;exact⟨by rw[r.o];first|rfl|simp,A⟩
 ):p:=h
def DM{p:ak}(h:p:=by
 go_wp2;go_ret;exact⟨by simp[h1,h2],rfl⟩
 ):p:=h
def o2(v:J->aa)(j:J):a6 aw:=#[ag (v (24+6*j)),ag (v (25+6*j)),ag (v (26+6*j)),ag (v (27+6*j)),I (v (28+6*j)),I (v (29+6*j))]
def kT(v:J->aa)(j:J):ak:=v (24+6*j)=0/\v (25+6*j)=0/\v (26+6*j)=0/\v (27+6*j)=0/\v (28+6*j)=0/\v (29+6*j)=0
instance (v:J->aa)(j:J):Decidable (kT v j):=by unfold kT;infer_instance
def mW(v:J->aa):a6 aw:=((range 36).map λj=>Value.int (dt (24+j)) (v (24+j))).toArray
def VA(v:J->aa)(w:ai):(Instr.index 97 (.agg (mW v)) (I 0)).run prog w=.ok (.agg (o2 v 0)) w:=aH
def VB(v:J->aa)(w:ai):(Instr.index 97 (.agg (mW v)) (I 1)).run prog w=.ok (.agg (o2 v 1)) w:=aH
def VC(v:J->aa)(w:ai):(Instr.index 97 (.agg (mW v)) (I 2)).run prog w=.ok (.agg (o2 v 2)) w:=aH
def VD(v:J->aa)(w:ai):(Instr.index 97 (.agg (mW v)) (I 3)).run prog w=.ok (.agg (o2 v 3)) w:=aH
def VE(v:J->aa)(w:ai):(Instr.index 97 (.agg (mW v)) (I 4)).run prog w=.ok (.agg (o2 v 4)) w:=aH
def VF(v:J->aa)(w:ai):(Instr.index 97 (.agg (mW v)) (I 5)).run prog w=.ok (.agg (o2 v 5)) w:=aH
def B2(v:J->aa)(j:J)(h:j<6)(w:ai):(Instr.index 97 (.agg (mW v)) (I (j:J))).run prog w=.ok (.agg (o2 v j)) w:=by
 match j,h with
 | 0,_=>exact VA v w
 | 1,_=>exact VB v w
 | 2,_=>exact VC v w
 | 3,_=>exact VD v w
 | 4,_=>exact VE v w
 | 5,_=>exact VF v w
def B3(v:J->aa)(B:J)(w:ai)(t:TypeId)(b:w.heap[B]?=some (ae (bo v) t (0,0))):(Instr.loadAt 97 (.pointer (some (ad B 24 ab)))).run prog w=.ok (.agg (mW v)) w:=by
 refine gq 97 36 B 24 (mW v) (bo v) t isAgg97 sizeOf97 (by simp[mW]) b ?_;intro j x a;have h:j<36:=by
  have:=(j8.1 a).1
  simpa[mW]using this
 rw[fl _ U];simpa[mW,h]using a
def CC(a b:aa)(w:ai):(Op.equalIn 9999 91 (aM #[ag a,ag b]) (aM c0)).run prog w=.ok (decide (a=0)&&decide (b=0)) w:=by
 have c:prog.underlying 91=some (.struct (prog.fieldsOf 91)):=aH;have d:prog.stoodInHeld 91=false:=aH;rw[show(9999:J)=9998+1 from rfl,C' w 9998 91 _ _ c d];simp only[Program.fieldsOf,underlying91];go_simp;by_cases h1:a=0<;>by_cases h2:b=0<;>simp[h1,h2]
def JO(a b c d e f:aa)(w:ai):(binOp .neq 96 (aM #[ag a,ag b,ag c,ag d,I e,I f]) (aM #[ag 0,ag 0,ag 0,ag 0,I 0,I 0])).run prog w=.ok (.bool (decide ¬ (a=0/\b=0/\c=0/\d=0/\e=0/\f=0))) w:=by
 have al:prog.underlying 96=some (.struct (prog.fieldsOf 96)):=aH;have ar:prog.stoodInHeld 96=false:=aH;rw[run_neq_struct,show(10000:J)=9999+1 from rfl,C' w 9999 96 _ _ al ar];simp only[Program.fieldsOf,underlying96];exact M9
def WI(v:J->aa)(j:J)(h:kT v j)(w:ai):(binOp .neq 96 (aM #[ag (v (24+6*j)),ag (v (25+6*j)),ag (v (26+6*j)),ag (v (27+6*j)),I (v (28+6*j)),I (v (29+6*j))]) (aM #[ag 0,ag 0,ag 0,ag 0,I 0,I 0])).run prog w=.ok (.bool false) w:=by
 rw[JO]
 congr 2
 exact cZ (uC h)
def WK(v:J->aa)(j:J)(h:¬ kT v j)(w:ai):(binOp .neq 96 (aM #[ag (v (24+6*j)),ag (v (25+6*j)),ag (v (26+6*j)),ag (v (27+6*j)),I (v (28+6*j)),I (v (29+6*j))]) (aM #[ag 0,ag 0,ag 0,ag 0,I 0,I 0])).run prog w=.ok (.bool true) w:=by
 rw[JO]
 congr 2
 exact ed h
variable{w:ai}
def nJ(n a b:aa)(w:ai):az 345 #[I n,I a,I b] w λe w'=>e=.returned (.bool (decide (a<=n)&&decide (n<=b)))/\w=w':=by
 by_cases h1:a<=n
 .by_cases h2:n<=b
  .go_in
   exact DM
  go_in
  go_wp2;go_ret;exact⟨by simp[h2],rfl⟩
 go_in
 exact Lu
def iA(a b c d x y:aa):aY:=decide (a<=x)&&decide (x<=c)&&decide (b<=y)&&decide (y<=d)
def Cb(a b c d x y:aa)(w:ai):az 353 #[aM #[ag a,ag b,ag c,ag d],aM #[ag x,ag y]] w λe w'=>e=.returned (.bool (iA a b c d x y))/\Below w w w':=by
 by_cases h1:a<=x
 .by_cases h2:x<=c
  .by_cases f:b<=y
   .by_cases g:y<=d
    .rw[show iA a b c d x y=true by simp[iA,h1,h2,f,g]]
     go_in
     exact wN
    rw[show iA a b c d x y=false by simp[iA,g]]
    go_in
    exact wN
   rw[show iA a b c d x y=false by simp[iA,f]]
   go_in
   exact wN
  rw[show iA a b c d x y=false by simp[iA,h2]]
  go_in
  exact wN
 rw[show iA a b c d x y=false by simp[iA,h1]]
 go_in
 exact wN
def A0(w:ai):az 354 #[] w λe w'=>e=.returned (aM #[ag (-4194304),ag (-4194304),ag 4194304,ag 4194304])/\Below w w w':=by
 have a:=dv _ _ _ _ (aW w (ae #[ag (-4194304),ag (-4194304),ag 4194304,ag 4194304] 214)) 4 rfl
 go_in
 go_wp2;refine cU (v:=aM #[ag (-4194304),ag (-4194304),ag 4194304,ag 4194304]) (by simp[results,results354,asAddr,loadVar,loadCells,isAgg214,sizeOf214,a]) rfl ?_;exact⟨rfl,(bY _ w).alloc bA _⟩
def Qv(n:aa)(h:-2147483648<=n/\n<=2147483647)(w:ai):az 282 #[I n,I (-2147483648),I 2147483647] w λe w'=>e=.returned (I n)/\w=w':=by
 have a:min n 2147483647=n:=U
 go_in
 go_wp2
 all_goals go_ret
 all_goals exact⟨by first|rfl|(rw[show n=-2147483648 by omega];rfl),rfl⟩
def Qt(n:aa)(h:-2147483648<=n/\n<=2147483647)(w:ai):az 214 #[I n] w λe w'=>e=.returned (ag n)/\w=w':=by
 have a:IntKind.i32.wrap n=n:=by rw[IntKind.wrap_i32];omega
 go_in
 go_wp2_with fail;refine(Qv n h w).mono ?_;rintro e w' ⟨rfl,rfl⟩;go_wp2;go_ret;exact⟨rfl,rfl⟩
def Qs(a b n:aa)(bj:-2147483648<=a/\a<=2147483647)(aj:-2147483648<=b/\b<=2147483647)(h:-2147483648<=n/\n<=2147483647)(au:a+b=n)(w:ai):az 278 #[ag a,ag b] w λe w'=>e=.returned (ag n)/\w=w':=by
 have c:IntKind.i64.wrap a=a:=et _ U;have d:IntKind.i64.wrap b=b:=et _ U;have f:IntKind.i64.wrap (a+b)=n:=by rw[et _ U,au]
 go_in
 exact Nq
def Qu(a b n:aa)(bj:-2147483648<=a/\a<=2147483647)(aj:-2147483648<=b/\b<=2147483647)(h:-2147483648<=n/\n<=2147483647)(au:a-b=n)(w:ai):az 281 #[ag a,ag b] w λe w'=>e=.returned (ag n)/\w=w':=by
 have c:IntKind.i64.wrap a=a:=et _ U;have d:IntKind.i64.wrap b=b:=et _ U;have f:IntKind.i64.wrap (a-b)=n:=by rw[et _ U,au]
 go_in
 exact Nq
def Wx(a d x:aa)(g:∀ w,az 278 #[ag a,ag d] w λe w'=>e=.returned (ag x)/\w=w')(w:ai):az 277 #[aM #[ag a,ag a],aM #[ag d,ag d],.func (.func 278) #[] #[]] w λe w'=>e=.returned (aM #[ag x,ag x])/\Below w w w':=by
 go_in
 go_wp2_with fail;refine iK 13 aH aH ?_;simp only[hI,il,hG,hA]
 repeat (go_big_quiet_step ((exact(g _).mono λ_ _ h=>⟨h.1,_,h.2.symm⟩)))
 refine wpQuiet_nil ?_;intro _ b;obtain⟨nq,c⟩:=b;subst c;go_wp2_with fail;refine cU (v:=aM #[ag x,ag x]) wU rfl ?_;have f:=(((bY w.heap.size w).alloc bA (ae #[ag a,ag a] 91)).alloc aI (ae #[ag d,ag d] 91)).alloc bU (ae c0 91);refine⟨rfl,lP (lP ?_ ?_ _) ?_ _⟩
 .exact wQ
 all_goals show w.heap.size<=w.heap.size+1+1
 all_goals omega
def Wy(a d x:aa)(g:∀ w,az 281 #[ag a,ag d] w λe w'=>e=.returned (ag x)/\w=w')(w:ai):az 277 #[aM #[ag a,ag a],aM #[ag d,ag d],.func (.func 281) #[] #[]] w λe w'=>e=.returned (aM #[ag x,ag x])/\Below w w w':=by
 go_in
 go_wp2_with fail;refine iK 13 aH aH ?_;simp only[hI,il,hG,hA]
 repeat (go_big_quiet_step ((exact(g _).mono λ_ _ h=>⟨h.1,_,h.2.symm⟩)))
 refine wpQuiet_nil ?_;intro _ b;obtain⟨nq,c⟩:=b;subst c;go_wp2_with fail;refine cU (v:=aM #[ag x,ag x]) wU rfl ?_;have f:=(((bY w.heap.size w).alloc bA (ae #[ag a,ag a] 91)).alloc aI (ae #[ag d,ag d] 91)).alloc bU (ae c0 91);refine⟨rfl,lP (lP ?_ ?_ _) ?_ _⟩
 .exact wQ
 all_goals show w.heap.size<=w.heap.size+1+1
 all_goals omega
def Ws(a d x:aa)(j:∀ w,az 278 #[ag a,ag d] w λe w'=>e=.returned (ag x)/\w=w')(w:ai):az 211 #[aM #[ag a,ag a],aM #[ag d,ag d]] w λe w'=>e=.returned (aM #[ag x,ag x])/\Below w w w':=by
 have c:=(((bY w.heap.size w).alloc bA (ae #[ag a,ag a] 91)).alloc aI (ae #[ag d,ag d] 91)).alloc bU (ae c0 91);have f:=aW ((w.alloc (ae #[ag a,ag a] 91)).alloc (ae #[ag d,ag d] 91)) (ae c0 91);have aU:=λW=>Wx a d x j W
 go_in
 go_wp2_with fail;refine(aU _).mono ?_;rintro e an ⟨rfl,aj⟩;have i:=c.trans (aj.mono c.size);have b:=(Keeps.bE (S:=aG) aj a7).heap f id;have ax:((w.alloc (ae #[ag a,ag a] 91)).alloc (ae #[ag d,ag d] 91)).heap.size=w.heap.size+1+1:=aI;rw[ax]at b;have k:=aP b;have l:=bJ b;go_wp2_with fail;have h:=bW (bW b 0 (ag x)) 1 (ag x);have g:=dv _ _ _ _ h 2 rfl;simp only[sG,ra,wL]at g;refine cU (v:=aM #[ag x,ag x]) LZ rfl ?_;refine⟨rfl,lP (lP i ?_ _) ?_ _⟩
 all_goals show w.heap.size<=w.heap.size+1+1
 all_goals omega
def Ww(a d x:aa)(j:∀ w,az 281 #[ag a,ag d] w λe w'=>e=.returned (ag x)/\w=w')(w:ai):az 213 #[aM #[ag a,ag a],aM #[ag d,ag d]] w λe w'=>e=.returned (aM #[ag x,ag x])/\Below w w w':=by
 have c:=(((bY w.heap.size w).alloc bA (ae #[ag a,ag a] 91)).alloc aI (ae #[ag d,ag d] 91)).alloc bU (ae c0 91);have f:=aW ((w.alloc (ae #[ag a,ag a] 91)).alloc (ae #[ag d,ag d] 91)) (ae c0 91);have aU:=λW=>Wy a d x j W
 go_in
 go_wp2_with fail;refine(aU _).mono ?_;rintro e an ⟨rfl,aj⟩;have i:=c.trans (aj.mono c.size);have b:=(Keeps.bE (S:=aG) aj a7).heap f id;have ax:((w.alloc (ae #[ag a,ag a] 91)).alloc (ae #[ag d,ag d] 91)).heap.size=w.heap.size+1+1:=aI;rw[ax]at b;have k:=aP b;have l:=bJ b;go_wp2_with fail;have h:=bW (bW b 0 (ag x)) 1 (ag x);have g:=dv _ _ _ _ h 2 rfl;simp only[sG,ra,wL]at g;refine cU (v:=aM #[ag x,ag x]) L0 rfl ?_;refine⟨rfl,lP (lP i ?_ _) ?_ _⟩
 all_goals show w.heap.size<=w.heap.size+1+1
 all_goals omega
def JL(a b c d:aa)(h1:a<=c)(h2:b<=d)(w:ai):az 375 #[aM #[ag a,ag b,ag c,ag d]] w λe w'=>e=.returned (.bool true)/\Below w w w':=by
 go_in
 go_wp2;go_ret;exact⟨by first|rfl|simp[h2],(bY _ w).alloc bA _⟩
def Ab{w:ai}{b:J}{t:TypeId}{bu b0 bs ez:aw}(h:w.heap[b]?=some (ae #[bu,b0,bs,ez] t (0,0)))(a c v2 d:aw):((((w.setCell (ad b 0 ab) a).setCell (ad b 1 ab) c).setCell (ad b 2 ab) v2).setCell (ad b 3 ab) d).heap[b]?=some (ae #[a,c,v2,d] t (0,0)):=by
 have:=bW (bW (bW (bW h 0 a) 1 c) 2 v2) 3 d
 simpa using this
theorem rS{S:J->ak}{bl w:ai}{b:J}(h:Keeps S bl w)(aj:S b)(a c v2 d:aw):Keeps S bl ((((w.setCell (ad b 0 ab) a).setCell (ad b 1 ab) c).setCell (ad b 2 ab) v2).setCell (ad b 3 ab) d):=
 (((h.setCell (p:=ad b 0 ab) aj a).setCell (p:=ad b 1 ab) aj c).setCell (p:=ad b 2 ab) aj v2).setCell (p:=ad b 3 ab) aj d
def Wu(w:ai):az 369 #[aM #[ag (-4194304),ag (-4194304),ag 4194304,ag 4194304],ag 262144] w λe w'=>e=aV #[aM #[ag (-3932160),ag (-3932160),ag 3932160,ag 3932160],true]/\Below w w w':=by
 have q:=λW=>Ws (-4194304) 262144 (-3932160) (λw=>Qs _ _ _ bq bq bq bq w) W;have al:=λW=>Ww 4194304 262144 3932160 (λw=>Qu _ _ _ bq bq bq bq w) W;have E:=λW=>JL (-3932160) (-3932160) 3932160 3932160 bq bq W;have ca:=aW w (ae #[ag (-4194304),ag (-4194304),ag 4194304,ag 4194304] 214);have bP:=cm (cm ca (ae eG 214)) (ae #[ag 262144,ag 262144] 91);have n:=cm (aW (w.alloc (ae #[ag (-4194304),ag (-4194304),ag 4194304,ag 4194304] 214)) (ae eG 214)) (ae #[ag 262144,ag 262144] 91);have o:=aW ((w.alloc (ae #[ag (-4194304),ag (-4194304),ag 4194304,ag 4194304] 214)).alloc (ae eG 214)) (ae #[ag 262144,ag 262144] 91);have y:=((((a_ w).alloc (ae #[ag (-4194304),ag (-4194304),ag 4194304,ag 4194304] 214)).alloc (ae eG 214))).alloc (ae #[ag 262144,ag 262144] 91);simp only[fF]at n o
 go_in
 go_wp2_with fail;generalize ((w.alloc (ae #[ag (-4194304),ag (-4194304),ag 4194304,ag 4194304] 214)).alloc (ae eG 214)).alloc (ae #[ag 262144,ag 262144] 91)=bl at *;have O:=j0 (S:=aG) (w:=bl.drew) (bb bP (k:=0) rfl) id;have P:=j0 (S:=aG) (w:=bl.drew) (bb bP (k:=1) rfl) id;have Q:=j0 (S:=aG) (w:=bl.drew) (bb bP (k:=2) rfl) id;have R:=j0 (S:=aG) (w:=bl.drew) (bb bP (k:=3) rfl) id;have V:=j0 (S:=aG) (w:=bl.drew) (bb o (k:=0) rfl) id;have X:=j0 (S:=aG) (w:=bl.drew) (bb o (k:=1) rfl) id;refine cB 11 ?_;refine W3 (λ_=>False) [0,1,2,4,5,6] [3,7,8,9] 1 rfl #[true,true,true,true,true,true,true,true,true,true,false] #[true,true,true,false,true,true,true,false,false,false,false] aH aH (λ_ _ _ d _ h=>sN) ?_;simp only[eE,jo,k6,gY]
 repeat (go_big_quiet_step (fail))
 refine wpQuiet_nil ?_;have a:Keeps aG bl bl.drew:=(Keeps.refl _ bl).drew;refine Cu 3 9 #[true,true,true,true,true,true,true,false,false,false,false] #[true,true,true,false,true,true,true,false,false,true,false] aH aH aH aH aH aH aH gh gh (λK c=>?_) (λK c=>?_)
 all_goals simp only[dj,gY]
 rotate_left
 focus
  go_simp;have g:(bl.alloc (ae eG 214)).drew.heap[bl.heap.size]?=some (ae eG 214 (0,0)):=aW bl (ae eG 214);have f:=((a_ bl).alloc (ae eG 214)).drew;refine c _ _ (l7 f) ?_;have a:=f;clear f;have⟨D,s⟩:=cQ bl.heap.size;have l:bl.heap.size<=D:=U;rw[<-s]at g⊢;clear s;generalize (bl.alloc (ae eG 214)).drew=wn at *
  try simp only[Act.put,c_]
  refine sl 3 #[true,true,true,true,true,true,true,false,false,true,false] aH aH aH aH gh (λK c=>?_);simp only[dj,gY];go_simp;refine aT (q _) λan i=>?_;have f:=(a:Keeps aG bl wn).fE i;have j:=(Keeps.bE (S:=aG) i a7).heap g id;refine c _ _ (l7 f) ?_;clear c K a i g;have a:=f;have g:=j;clear f j
  try simp only[Act.put,c_]
  refine sl 7 #[true,true,true,true,true,true,true,true,false,true,false] aH aH aH aH gh (λK c=>?_);simp only[dj,gY];go_simp;refine aT (al _) λaB i=>?_;have f:=(a:Keeps aG bl an).fE i;have j:=(Keeps.bE (S:=aG) i a7).heap g id;refine c _ _ (l7 f) ?_;clear c K a i g;have a:=f;have g:=j;clear f j
  try simp only[Act.put,c_]
  refine sl 8 #[true,true,true,true,true,true,true,true,true,true,false] aH aH aH aH gh (λK c=>?_);simp only[dj,gY];go_simp;refine c _ _ (l7 a) ?_;clear c K
  try simp only[Act.put,c_]
  obtain⟨m,rfl⟩:∃ x,x=aB:=⟨_,rfl⟩
 rotate_left
 focus
  go_simp;refine aT (q _) λan i=>?_;have f:=(a:Keeps aG bl bl.drew).fE i;refine c _ _ (l7 f) ?_;clear c K a i;have a:=f;clear f
  try simp only[Act.put,c_]
  refine Cu 7 9 #[true,true,true,true,true,true,true,true,false,false,false] #[true,true,true,true,true,true,true,false,false,true,false] aH aH aH aH aH aH aH gh gh (λK c=>?_) (λK c=>?_)
  all_goals simp only[dj,gY]
  rotate_left
  focus
   go_simp;have g:=aW an (ae eG 214);have l:=a.size;have f:=a.alloc (ae eG 214);refine c _ _ (l7 f) ?_;clear c K a;have a:=f;clear f
   try simp only[show ∀ W:ai,W.drew.heap=W.heap from λ_=>rfl]at g l a⊢
   generalize (an).alloc (ae eG 214)=wn at *;generalize (an).heap.size=D at *
   try simp only[Act.put,c_]
   refine sl 7 #[true,true,true,true,true,true,true,true,false,true,false] aH aH aH aH gh (λK c=>?_);simp only[dj,gY];go_simp;refine aT (al _) λaB i=>?_;have f:=(a:Keeps aG bl wn).fE i;have j:=(Keeps.bE (S:=aG) i a7).heap g id;refine c _ _ (l7 f) ?_;clear c K a i g;have a:=f;have g:=j;clear f j
   try simp only[Act.put,c_]
   refine sl 8 #[true,true,true,true,true,true,true,true,true,true,false] aH aH aH aH gh (λK c=>?_);simp only[dj,gY];go_simp;refine c _ _ (l7 a) ?_;clear c K
   try simp only[Act.put,c_]
   obtain⟨m,rfl⟩:∃ x,x=aB:=⟨_,rfl⟩
  rotate_left
  focus
   go_simp;refine aT (al _) λaB i=>?_;have f:=(a:Keeps aG bl an).fE i;refine c _ _ (l7 f) ?_;clear c K a i;have a:=f;clear f
   try simp only[Act.put,c_]
   refine Cu 8 9 #[true,true,true,true,true,true,true,true,true,false,false] #[true,true,true,true,true,true,true,true,false,true,false] aH aH aH aH aH aH aH gh gh (λK c=>?_) (λK c=>?_)
   all_goals simp only[dj,gY]
   rotate_left
   focus
    go_simp;have g:=aW aB (ae eG 214);have l:=a.size;have f:=a.alloc (ae eG 214);refine c _ _ (l7 f) ?_;clear c K a;have a:=f;clear f
    try simp only[show ∀ W:ai,W.drew.heap=W.heap from λ_=>rfl]at g l a⊢
    generalize (aB).alloc (ae eG 214)=wn at *;generalize (aB).heap.size=D at *
    try simp only[Act.put,c_]
    refine sl 8 #[true,true,true,true,true,true,true,true,true,true,false] aH aH aH aH gh (λK c=>?_);simp only[dj,gY];go_simp;refine c _ _ (l7 a) ?_;clear c K
    try simp only[Act.put,c_]
    obtain⟨m,rfl⟩:∃ x,x=wn:=⟨_,rfl⟩
   rotate_left
   focus
    go_simp;refine c _ _ (l7 a) ?_;clear c K
    try simp only[Act.put,c_]
    refine sl 9 #[true,true,true,true,true,true,true,true,true,true,false] aH aH aH aH gh (λK c=>?_);simp only[dj,gY];go_simp;have g:=aW aB (ae eG 214);have l:=a.size;have f:=a.alloc (ae eG 214);refine c _ _ (l7 f) ?_;clear c K a;have a:=f;clear f
    try simp only[show ∀ W:ai,W.drew.heap=W.heap from λ_=>rfl]at g l a⊢
    generalize (aB).alloc (ae eG 214)=wn at *;generalize (aB).heap.size=D at *
    try simp only[Act.put,c_]
    obtain⟨m,rfl⟩:∃ x,x=wn:=⟨_,rfl⟩
 all_goals
  refine XI aH ?_
  try simp only[Act.put,c_]
  have f0:=bJ g;have g0:=aP g;refine fk (λ_=>True) [] [10] 0 ?_;refine nM (cX (rS (Keeps.refl (λ_=>True) m) trivial _ _ _ _)) ?_;refine ih ?_;have r:=a.heap n id;have N:w.heap.size+1<bl.heap.size:=bR n;have hne:w.heap.size+1≠D:=U;have t:=Ab g (ag (-3932160)) (ag (-3932160)) (ag 3932160) (ag 3932160);have F:=(((eO (eO (eO (eO r hne _) hne _) hne _) hne _):(((((m).setCell (ad D 0 ab) (ag (-3932160))).setCell (ad D 1 ab) (ag (-3932160))).setCell (ad D 2 ab) (ag 3932160)).setCell (ad D 3 ab) (ag 3932160)).heap[w.heap.size+1]?=some (ae eG 214 (0,0))));have L:=rS ((y.trans a).mono (T:=λk=>k=D) (λ_ _ x=>x.elim)) (b:=D) rfl (ag (-3932160)) (ag (-3932160)) (ag 3932160) (ag 3932160);clear g0 f0 g r a;generalize ((((m).setCell (ad D 0 ab) (ag (-3932160))).setCell (ad D 1 ab) (ag (-3932160))).setCell (ad D 2 ab) (ag 3932160)).setCell (ad D 3 ab) (ag 3932160)=A at *;have g0:=aP t;go_wp2_with fail;refine aT (E _) λM u=>?_;clear g0;have z:Keeps aG A M:=(Keeps.refl _ A).fE u;have H:=z.heap t id;have p:=z.heap F id;have g0:=aP H;have f0:=bJ p;have eJ:=aP p;go_wp2_with fail;have G:=Ab p (ag (-3932160)) (ag (-3932160)) (ag 3932160) (ag 3932160);obtain⟨B,d1,d2,C⟩:=Fc 0 1 2 3 G ⟨rfl,rfl,rfl,rfl⟩;refine cU (v:=aV #[aM #[ag (-3932160),ag (-3932160),ag 3932160,ag 3932160],true]) (by simp[results,results369,go_sem,B,d1,d2,C]) rfl ?_;refine⟨rfl,(rS ((L.fE u).mono (T:=λk=>k=D\/k=w.heap.size+1) λ_ _=>Or.inl) (Or.inr rfl) _ _ _ _).below bA (λk hk=>?_)⟩
  have:=y.size
  omega
def A1(w:ai):az 359 #[] w λe w'=>e=.returned (aM #[ag (-3932160),ag (-3932160),ag 3932160,ag 3932160])/\Below w w w':=by
 have g:=aW w (ae eG 214);have i:=(a_ w).alloc (ae eG 214)
 go_in
 go_wp2_with fail;generalize w.alloc (ae eG 214)=bl at *;refine aT ((λW=>A0 W) _) λan c=>?_;go_wp2_with fail;refine aT ((λW=>Wu W) _) λaB d=>?_;have j:=(i.fE c).fE d;have h:=(((a_ bl).fE c).fE d).heap g id;have a:=cm h (ae #[ag (-3932160),ag (-3932160),ag 3932160,ag 3932160] 214);have f0:=bJ a;have eJ:=aP a;go_wp2_with fail;have b:=Ab a (ag (-3932160)) (ag (-3932160)) (ag 3932160) (ag 3932160);obtain⟨d1,d2,f⟩:=Fb 1 2 3 b ⟨rfl,rfl,rfl⟩;refine cU (v:=aM #[ag (-3932160),ag (-3932160),ag 3932160,ag 3932160]) (by simp[results,results359,go_sem,(bb b (k:=0) rfl),d1,d2,f]) rfl ?_;refine⟨rfl,(rS (((j.alloc _)).mono (T:=λk=>k=w.heap.size) λ_ _ x=>x.elim) rfl _ _ _ _).below bA (λk hk=>?_)⟩;omega
theorem dK{w:ai}{p:Addr}{v:aw}(h:w.cell? p=some v)(x:kz w):x.to.cell? p=some v:=
 (K6 (x.below.block p.block (mq w p h))).trans h
def gK(n a b:aa):aY:=decide (a<=n)&&decide (n<=b)
def rY(f ar co eV eQ dd x y:aa):aY:=gK f 0 65535&&(gK ar 0 3&&(gK co 0 8&&(gK eV 0 20&&(gK eQ 0 30&&(gK dd 0 2&&(iA (-3932160) (-3932160) 3932160 3932160 x y&&(decide (ar>0) == decide (eQ=0))))))))
def G2(x y u v f ar co eV eQ dd:aa)(w:ai):az 344 #[aM #[ag x,ag y,ag u,ag v,I f,I ar,I co,I eV,I eQ,I dd]] w λe w'=>e=.returned (.bool (rY f ar co eV eQ dd x y))/\Below w w w':=by
 have h1:=λW=>nJ f 0 65535 W;have h2:=λW=>nJ ar 0 3 W;have d:=λW=>nJ co 0 8 W;have g:=λW=>nJ eV 0 20 W;have i:=λW=>nJ eQ 0 30 W;have j:=λW=>nJ dd 0 2 W;have l:=λW=>Cb (-3932160) (-3932160) 3932160 3932160 x y W;unfold rY gK;generalize (decide (0<=f)&&decide (f<=65535))=b0 at *;generalize (decide (0<=ar)&&decide (ar<=3))=bs at *;generalize (decide (0<=co)&&decide (co<=8))=ez at *;generalize (decide (0<=eV)&&decide (eV<=20))=dR at *;generalize (decide (0<=eQ)&&decide (eQ<=30))=fV at *;generalize (decide (0<=dd)&&decide (dd<=2))=dS at *;generalize iA (-3932160) (-3932160) 3932160 3932160 x y=c6 at *;have n:=dK (bb (aW w (ae #[ag x,ag y,ag u,ag v,I f,I ar,I co,I eV,I eQ,I dd] 93)) (k:=0) rfl);have o:=dK (bb (aW w (ae #[ag x,ag y,ag u,ag v,I f,I ar,I co,I eV,I eQ,I dd] 93)) (k:=1) rfl);have p:=dK (bb (aW w (ae #[ag x,ag y,ag u,ag v,I f,I ar,I co,I eV,I eQ,I dd] 93)) (k:=2) rfl);have q:=dK (bb (aW w (ae #[ag x,ag y,ag u,ag v,I f,I ar,I co,I eV,I eQ,I dd] 93)) (k:=3) rfl);have r:=dK (bb (aW w (ae #[ag x,ag y,ag u,ag v,I f,I ar,I co,I eV,I eQ,I dd] 93)) (k:=4) rfl);have s:=dK (bb (aW w (ae #[ag x,ag y,ag u,ag v,I f,I ar,I co,I eV,I eQ,I dd] 93)) (k:=5) rfl);have t:=dK (bb (aW w (ae #[ag x,ag y,ag u,ag v,I f,I ar,I co,I eV,I eQ,I dd] 93)) (k:=6) rfl);have z:=dK (bb (aW w (ae #[ag x,ag y,ag u,ag v,I f,I ar,I co,I eV,I eQ,I dd] 93)) (k:=7) rfl);have A:=dK (bb (aW w (ae #[ag x,ag y,ag u,ag v,I f,I ar,I co,I eV,I eQ,I dd] 93)) (k:=8) rfl);have B:=dK (bb (aW w (ae #[ag x,ag y,ag u,ag v,I f,I ar,I co,I eV,I eQ,I dd] 93)) (k:=9) rfl);cases b0
 .go_in
  exact sK
 skip
 cases bs
 .go_in
  exact sK
 skip
 cases ez
 .go_in
  exact sK
 skip
 cases dR
 .go_in
  exact sK
 skip
 cases fV
 .go_in
  exact sK
 skip
 cases dS
 .go_in
  exact sK
 skip
 cases c6
 .go_in
  exact sK
 skip
 by_cases m:ar>0<;>by_cases h:eQ=0
 all_goals
  try subst h
  go_in
  go_wp2_with fail;refine o9 aH aH ?_
  repeat (go_big_quiet_step (first|(go_at_call 345;first|(with_reducible exact Calls.jv (h1 _))|(with_reducible exact Calls.jv (h2 _))|(with_reducible exact Calls.jv (d _))|(with_reducible exact Calls.jv (g _))|(with_reducible exact Calls.jv (i _))|(with_reducible exact Calls.jv (j _)))|(go_at_call 359;exact Calls.ka (A1 _))|(go_at_call 353;exact Calls.ka (l _))))
  refine wpQuiet_nil ?_;intro _ a;obtain⟨c,b⟩:=a;subst b;go_wp2_with fail;go_ret;exact⟨by first|rfl|simp_all,(((bY _ w).alloc bA _).trans (c.below.mono aI))⟩
def vF(x y u v du a:aa):aY:=decide (x=0/\y=0/\u=0/\v=0/\du=0/\a=0)
def WH(a b c d e f:aa)(w:ai):(binOp .eql 96 (aM #[ag a,ag b,ag c,ag d,I e,I f]) (aM #[ag 0,ag 0,ag 0,ag 0,I 0,I 0])).run prog w=.ok (.bool (vF a b c d e f)) w:=by
 have n:=underlying3;have h:=isAgg3;have p:=sizeOf3;have o:=underlying89;have l:=isAgg89;have z4:=sizeOf89;have m:=isAgg91;have q:=sizeOf91;have al:prog.underlying 96=some (.struct (prog.fieldsOf 96)):=aH;have ar:prog.stoodInHeld 96=false:=aH;have aX:=CC;rw[run_eql_struct,show(10000:J)=9999+1 from rfl,C' w 9999 96 _ _ al ar];simp only[Program.fieldsOf,underlying96];unfold vF;clear al ar;exact M9
def ua(x y u v du a:aa):aY:=vF x y u v du a || (gK du 1 2&&(gK a 1 40&&iA (-4194304) (-4194304) 4194304 4194304 x y))
def QT(x y u v du a:aa)(w:ai):az 343 #[aM #[ag x,ag y,ag u,ag v,I du,I a]] w λe w'=>e=.returned (.bool (ua x y u v du a))/\Below w w w':=by
 have h1:=λW=>nJ du 1 2 W;have h2:=λW=>nJ a 1 40 W;have b:=λW=>Cb (-4194304) (-4194304) 4194304 4194304 x y W;have g:=λW=>WH x y u v du a W;unfold ua gK;generalize (decide (1<=du)&&decide (du<=2))=b0 at *;generalize (decide (1<=a)&&decide (a<=40))=bs at *;generalize iA (-4194304) (-4194304) 4194304 4194304 x y=c6 at *;generalize vF x y u v du a=bu at *;have h:=dK (bb (aW w (ae #[ag x,ag y,ag u,ag v,I du,I a] 96)) (k:=0) rfl);have i:=dK (bb (aW w (ae #[ag x,ag y,ag u,ag v,I du,I a] 96)) (k:=1) rfl);have j:=dK (bb (aW w (ae #[ag x,ag y,ag u,ag v,I du,I a] 96)) (k:=2) rfl);have l:=dK (bb (aW w (ae #[ag x,ag y,ag u,ag v,I du,I a] 96)) (k:=3) rfl);have m:=dK (bb (aW w (ae #[ag x,ag y,ag u,ag v,I du,I a] 96)) (k:=4) rfl);have n:=dK (bb (aW w (ae #[ag x,ag y,ag u,ag v,I du,I a] 96)) (k:=5) rfl);cases bu
 .cases b0
  .go_in
   exact wT
  cases bs
  .go_in
   exact wT
  cases c6
  .go_in
   exact wT
  go_in
  exact wT
 go_in
 exact wT
def o1(v:J->aa)(j:J):aY:=ua (v (24+6*j)) (v (25+6*j)) (v (26+6*j)) (v (27+6*j)) (v (28+6*j)) (v (29+6*j))
def mN(v:J->aa)(o:J):aY:=rY (v (o+4)) (v (o+5)) (v (o+6)) (v (o+7)) (v (o+8)) (v (o+9)) (v o) (v (o+1))
def o3(v:J->aa):J->aY
 | 0=>true
 | j+1=>o3 v j&&o1 v j
def kZ(v:J->aa):aY:=o3 v 6&&(mN v 4&&(mN v 14&&(gK (v 0) 0 1073741824&&(gK (v 2) 0 1073741824&&gK (v 3) 1 600))))
def JP{v:J->aa}{j:J}(h:o1 v j=false)(b:j<6):o3 v 6=false:=by
 have:∀ k,j+1+k<=6->o3 v (j+1+k)=false:=by
  intro k
  induction k with
  | zero=>intro _;simp[o3,h]
  | succ k a=>intro hk;rw[show j+1+(k+1)=(j+1+k)+1 by omega];simp[o3,a lU]
 have:=this (6-(j+1)) U
 rwa [show j+1+(6-(j+1))=6 by omega]at this
def tP(v:J->aa)(o:J):a6 aw:=#[ag (v o),ag (v (o+1)),ag (v (o+2)),ag (v (o+3)),I (v (o+4)),I (v (o+5)),I (v (o+6)),I (v (o+7)),I (v (o+8)),I (v (o+9))]
structure ET(w wr:ai)(v:J->aa)(B:J)(j:J):ak where
 bc:wr.heap[B]?=some (ae (bo v) 99 (0,0))
 mz:Below w w wr
 ok:o3 v j=true
def GZ(v:J->aa)(w:ai):az 322 #[.agg (bo v)] w λe w'=>e=.returned (.bool (kZ v))/\Below w w w':=by
 go_in
 have g:=aW w (ae (bo v) 99);have u:=af (show ET w (w.alloc (ae (bo v) 99)) v w.heap.size 0 from⟨g,((bY w.heap.size w).alloc bA (ae (bo v) 99)),rfl⟩);go_wp2_with (refine dm (B3 v w.heap.size _ _ g) rfl rfl rfl ?_);generalize w.alloc (ae (bo v) 99)=bl at *;generalize C:w.heap.size=B at *;go_loopw [7] (λi wr=>∃ j:J,j<=6/\i=I j/\Hid (ET w wr v B j)) (λi _=>6-(intOf i).toNat)
 case atStart=>exact⟨0,U,rfl,u⟩
 obtain⟨j,D,rfl,aU⟩:=hrel;obtain⟨a,rfl⟩:∃ a:ai,a=wr:=⟨_,rfl⟩;by_cases E:(j:aa)<6
 .have t:=B2 v j U;unfold o2 at t;have h:=λW=>QT (v (24+6*j)) (v (25+6*j)) (v (26+6*j)) (v (27+6*j)) (v (28+6*j)) (v (29+6*j)) W;rw[show ua (v (24+6*j)) (v (25+6*j)) (v (26+6*j)) (v (27+6*j)) (v (28+6*j)) (v (29+6*j))=o1 v j from rfl]at h;go_wp2_with fail;refine aT (h _) λan c=>?_;have b:Keeps aG a an:=((Keeps.refl _ a).alloc _).fE c;cases ax:o1 v j
  .have y:=JP ax U;have d:=aU.out.mz.trans (b.below aU.out.mz.size (λk _ x=>x));go_wp2_with fail;go_ret;exact⟨by simp[kZ,y],d⟩
  go_wp2_with fail;go_roundw
  case rel=>
   exact⟨j+1,U,by go_num,⟨b.heap aU.out.bc id,aU.out.mz.trans (b.below aU.out.mz.size (λk _ x=>x)),by simp[o3,aU.out.ok,ax]⟩⟩
  simp[intOf];omega
 obtain rfl:j=6:=U;obtain⟨h1,h2,s⟩:=aU.out;have l:=λW=>G2 (v 4) (v 5) (v 6) (v 7) (v 8) (v 9) (v 10) (v 11) (v 12) (v 13) W;have m:=λW=>G2 (v 14) (v 15) (v 16) (v 17) (v 18) (v 19) (v 20) (v 21) (v 22) (v 23) W;rw[show rY (v 8) (v 9) (v 10) (v 11) (v 12) (v 13) (v 4) (v 5)=mN v 4 from rfl]at l;rw[show rY (v 18) (v 19) (v 20) (v 21) (v 22) (v 23) (v 14) (v 15)=mN v 14 from rfl]at m;have n:=λW=>nJ (v 0) 0 1073741824 W;have p:=λW=>nJ (v 2) 0 1073741824 W;have q:=λW=>nJ (v 3) 1 600 W;rw[show(decide (0<=v 0)&&decide (v 0<=1073741824))=gK (v 0) 0 1073741824 from rfl]at n;rw[show(decide (0<=v 2)&&decide (v 2<=1073741824))=gK (v 2) 0 1073741824 from rfl]at p;rw[show(decide (1<=v 3)&&decide (v 3<=600))=gK (v 3) 1 600 from rfl]at q;have z:kZ v=(mN v 4&&(mN v 14&&(gK (v 0) 0 1073741824&&(gK (v 2) 0 1073741824&&gK (v 3) 1 600)))):=by simp[kZ,s]
 generalize mN v 4=b0 at *;generalize mN v 14=bs at *;generalize gK (v 0) 0 1073741824=ez at *;generalize gK (v 2) 0 1073741824=dR at *;generalize gK (v 3) 1 600=fV at *;have r:=af z;have a':=bb h1 (fl v (o:=4) U);have fr:=bb h1 (fl v (o:=5) U);have gf:=bb h1 (fl v (o:=6) U);have g':=bb h1 (fl v (o:=7) U);have hd:=bb h1 (fl v (o:=8) U);have lb:a.cell? (ad B 9 ab)=some (I (v 9)):=bb h1 (fl v (o:=9) U);have G:a.cell? (ad B 10 ab)=some (I (v 10)):=bb h1 (fl v (o:=10) U);have H:a.cell? (ad B 11 ab)=some (I (v 11)):=bb h1 (fl v (o:=11) U);have K:a.cell? (ad B 12 ab)=some (I (v 12)):=bb h1 (fl v (o:=12) U);have L:a.cell? (ad B 13 ab)=some (I (v 13)):=bb h1 (fl v (o:=13) U);go_wp2_with fail;refine aT (l _) λan c=>?_;have b:=(a_ a).fE c;have g1:=b.heap h1 id;have d:=h2.trans (b.below h2.size (λk _ x=>x));cases b0
 .go_wp2_with fail;go_ret;exact⟨by rw[r.o];first|rfl|simp,d⟩
 have M:an.cell? (ad B 14 ab)=some (ag (v 14)):=bb g1 (fl v (o:=14) U);have N:an.cell? (ad B 15 ab)=some (ag (v 15)):=bb g1 (fl v (o:=15) U);have O:an.cell? (ad B 16 ab)=some (ag (v 16)):=bb g1 (fl v (o:=16) U);have P:an.cell? (ad B 17 ab)=some (ag (v 17)):=bb g1 (fl v (o:=17) U);have Q:an.cell? (ad B 18 ab)=some (I (v 18)):=bb g1 (fl v (o:=18) U);have R:an.cell? (ad B 19 ab)=some (I (v 19)):=bb g1 (fl v (o:=19) U);have T:an.cell? (ad B 20 ab)=some (I (v 20)):=bb g1 (fl v (o:=20) U);have V:an.cell? (ad B 21 ab)=some (I (v 21)):=bb g1 (fl v (o:=21) U);have X:an.cell? (ad B 22 ab)=some (I (v 22)):=bb g1 (fl v (o:=22) U);have Y:an.cell? (ad B 23 ab)=some (I (v 23)):=bb g1 (fl v (o:=23) U);go_wp2_with fail;refine aT (m _) λaB c=>?_;have b:=(a_ an).fE c;have f:=b.heap g1 id;have A:=d.trans (b.below d.size (λk _ x=>x));cases bs
 .exact wO
 have F:aB.cell? (ad B 0 ab)=some (I (v 0)):=bb f (fl v (o:=0) U);have S:aB.cell? (ad B 2 ab)=some (I (v 2)):=bb f (fl v (o:=2) U);have Z:aB.cell? (ad B 3 ab)=some (I (v 3)):=bb f (fl v (o:=3) U);go_wp2_with fail;refine br (n _) ?_;cases ez
 .exact wO
 go_wp2_with fail;refine br (p _) ?_;cases dR
 .exact wO
 go_wp2_with fail;refine br (q _) ?_;cases fV
 .exact wO
 exact wO
variable{eb:Type}{c:e4 eb}{B:J}{p:eb×(J->aa)}{k:J}
def W_(c:e4 eb)(p:eb×(J->aa)):c.step p 1=((c.aG p.1 (p.2 1)).1,bH p.2 1 (IntKind.u32.wrap (c.aG p.1 (p.2 1)).2)):=rfl
def Qe(aq:c.oC){w w':ai}{n:aa}{f:J}(au:p.2 1=n)(h:Fr c w B p f)(h1:c.St (c.aG p.1 n).1 k w')(h2:w'.heap[B]?=w.heap[B]?):Fr c (w'.setCell (ad B 1 ab) (aK (IntKind.u32.wrap (c.aG p.1 n).2))) B (c.step p 1) k:=by
 subst au;rw[W_];have g:=h2.trans h.bc;refine⟨aq.keeps (S:=λb=>b=B) h1 (Keeps.setCell (S:=λb=>b=B) (Keeps.refl _ _) (p:=ad B 1 ab) rfl _) (λe=>h.ne e.symm),?_,h.ne,λj i=>?_⟩
 .rw[bW g];exact cV some (cV (λa=>ae a _ (0,0)) (yg p.2 1 _))
 simp only[bH];by_cases e:j=1
 .subst e;rw[aD rfl];have d:=h.fit 1 U;refine⟨?_,λ_=>aq.okW _ _ d.1 (d.2 bq)⟩;show 0<=IntKind.u32.wrap _/\_;rw[wrap_u32];omega
 rw[aA e];exact h.fit j i
def Hc:ah J:=[0,1,2,3]
def kX(j:J):ah J:=Hc++(range j).flatMap λi=>qM (4+10*i) 6
def Xc(c:e4 eb)(p:eb×(J->aa))(j:J):c.steps p (kX (j+1))=c.steps (c.steps p (kX j)) (qM (4+10*j) 6):=by
 unfold kX e4.steps;rw[q',q8,<-dD,nj];simp
structure E0(c:e4 eb)(w wr:ai)(B k:J)(p:eb×(J->aa))(j:J):ak where
 fr:Fr c wr B (c.steps p (kX j)) (k+37+10*(2-j))
 keeps:Keeps (lv c B) w wr
def fU(v:J->aa):J->J
 | 0=>0
 | j+1=>fU v j+if kT v j then 0 else 2 ^ j
theorem vg(v:J->aa):∀ j,fU v j<2 ^ j
 | 0=>by simp[fU]
 | j+1=>by
  have h:=vg v j;have h2:2 ^ (j+1)=2*2 ^ j:=by rw[nn,ot]
  unfold fU;split<;>omega
def TG:∀ j:Fin 6,∀ b:Fin 64,b.val<2 ^ j.val->bits .or .i64 (b.val:aa) (wrap64 (2 ^ j.val))=((b.val+2 ^ j.val:J):aa):=by decide +kernel
def TH(v:J->aa)(j:J)(h:j<6)(b:¬ kT v j):bits .or .i64 (fU v j:J) (wrap64 (2 ^ j))=(fU v (j+1):J):=by
 have h1:=vg v j;have h2:2 ^ j<=2 ^ 6:=rh bq U;have a:=TG ⟨j,h⟩ ⟨fU v j,U⟩ h1;rw[show fU v (j+1)=fU v j+2 ^ j by simp[fU,b]];exact a
structure Ei(c:e4 eb)(w wr:ai)(B N k:J)(p:eb×(J->aa))(j:J):ak where
 fr:Fr c wr B p (k+37)
 bit:wr.heap[N]?=some (ae #[I (fU p.2 j:J)] 3 (0,0))
 To:N≠c.r
 Tp:N≠B
 new:w.heap.size<=N
 keeps:Keeps (lv c B) w wr
def k1(c:e4 eb)(y:aa)(p:eb×(J->aa)):J->eb×(J->aa)
 | 0=>p
 | j+1=>if bits .and .i64 (y / 2 ^ j) 1=1 then c.steps (k1 c y p j) (r_ (24+6*j))else k1 c y p j
structure EU(c:e4 eb)(w wr:ai)(B N k:J)(y:aa)(p:eb×(J->aa))(j:J):ak where
 fr:Fr c wr B (k1 c y p j) (k+6*(6-j))
 bit:wr.heap[N]?=some (ae #[I y] 3 (0,0))
 To:N≠c.r
 Tp:N≠B
 keeps:Keeps (lv c B) w wr
def Cj(c:e4 eb)(p:eb×(J->aa)):eb×(J->aa):=
 k1 c (c.aG (c.steps p (kX 2)).1 (fU (c.steps p (kX 2)).2 6:J)).2 ((c.aG (c.steps p (kX 2)).1 (fU (c.steps p (kX 2)).2 6:J)).1,(c.steps p (kX 2)).2) 6
def WM(j:J)(h:j<6):dt (24+6*j)=.i32/\dt (24+6*j+1)=.i32/\dt (24+6*j+2)=.i32/\dt (24+6*j+3)=.i32/\dt (24+6*j+4)=.i64/\dt (24+6*j+5)=.i64:=by
 match j,h with
 | 0,_=>decide
 | 1,_=>decide
 | 2,_=>decide
 | 3,_=>decide
 | 4,_=>decide
 | 5,_=>decide
def Qg(aq:c.oC)(w:ai)(h:Fr c w B p (k+61)):az 356 #[c.val,B] w λe w'=>e=aV #[]/\Fr c w' B (Cj c p) k/\Keeps (lv c B) w w':=by
 have Zw:=aq.z6;have Zv:=aq.lq;have Zu:=aq.xw;have m':w.cell? (ad B 1 ab)=some (aK (p.2 1)):=bb h.bc (fl p.2 (o:=1) U);have Z:=h.fit 1 U;have Zj:0<=p.2 1/\p.2 1<=4294967295:=Z.1;have Zd:IntKind.i64.wrap (p.2 1)=p.2 1:=et _ U;have a':Keeps aG w (w.alloc (ae #[I (p.2 1)] 3)):=(Keeps.refl _ w).alloc _;have s':=aW w (ae #[I (p.2 1)] 3);have ys:=h.keeps aq a' id id;have Y4:c.pO (p.2 1):=Z.2 bq;have Zy:=bR h.bc;have Zz:=aq.there h.st;clear Z h;generalize au:p.2 1=n at *
 go_in
 go_wp2_with fail;generalize w.alloc (ae #[I n] 3)=bl at *;generalize Zt:w.heap.size=D at *;have zd:=ys.drew aq;refine cB 8 ?_;refine fk (λ_=>True) (.range 4) [4,5,6,7] 0 ?_;refine f_ λK a=>?_;go_simp;refine a _ _ (cX (Keeps.refl _ _)) ?_;clear a K;refine f_ λK a=>?_;go_simp;refine a _ _ (cX (Keeps.refl _ _)) ?_;clear a K;refine f_ λK a=>?_;go_simp;refine a _ _ (cX (Keeps.refl _ _)) ?_;clear a K;refine km λK a=>?_;go_simp;refine(tn aq 0 U rfl _ zd).mono ?_;rintro e an ⟨rfl,u,M⟩;refine a _ _ (cX (M.mono λ_ _ _=>trivial)) ?_;clear a K;refine ih ?_;have vl:=M.heap (k:=D) s' (λh=>h.elim a7 a7);have Y2:(c.step p 0).2 1=n:=au;generalize Y5:c.step p 0=C at *;go_wp2_with fail;refine(aq.num _ u.st vl U rfl (by unfold mC;omega) Y4).mono ?_;rintro e aB ⟨rfl,TS,v',gf⟩;have G:aB.heap[B]?=an.heap[B]?:=gf.block B (bR u.bc) (λh=>h.elim u.ne a7);have R:=Qe aq Y2 u TS G;have Zr:=aP v';have cU:=bb (G.trans u.bc) (fl C.2 (o:=1) U);have cZ:=bJ (G.trans u.bc);have T':Keeps (λb=>b=B) aB (aB.setCell (ad B 1 ab) (aK (IntKind.u32.wrap (c.aG C.1 n).2))):=Keeps.setCell (S:=λb=>b=B) (Keeps.refl _ _) (p:=ad B 1 ab) rfl _;have W:=cK (cK (cK (S:=lv c B) (a'.mono λ_ _ x=>x.elim) ((Keeps.refl _ bl).drew.trans M) (λ_ _ x=>x)) gf (λj L P=>P.elim Or.inl a7)) T' (λj L P=>Or.inr P);go_wp2_with fail;clear T';rw[wrap_u32]at W R;generalize aB.setCell (ad B 1 ab) (aK ((c.aG C.1 n).2%4294967296))=bn at *;generalize Y6:c.step C 1=Zp at *;have zp:=R.drew aq;clear Zr cU cZ G gf M a' v' TS vl s' u ys zd m' Zd Y2 Y4 Zj au;refine cB 8 ?_;refine fk (λ_=>True) (.range 4) [4,5,6,7] 0 ?_;refine f_ λK a=>?_;go_simp;refine a _ _ (cX (Keeps.refl _ _)) ?_;clear a K;refine f_ λK a=>?_;go_simp;refine a _ _ (cX (Keeps.refl _ _)) ?_;clear a K;refine f_ λK a=>?_;go_simp;refine a _ _ (cX (Keeps.refl _ _)) ?_;clear a K;refine km λK a=>?_;go_simp;refine(tn aq 2 U rfl _ zp).mono ?_;rintro e ZB ⟨rfl,Aw,g'⟩;refine a _ _ (cX (g'.mono λ_ _ _=>trivial)) ?_;clear a K;refine ih ?_;have CW:=Aw.drew aq;go_wp2_with fail;refine cB 8 ?_;refine fk (λ_=>True) (.range 4) [4,5,6,7] 0 ?_;refine f_ λK a=>?_;go_simp;refine a _ _ (cX (Keeps.refl _ _)) ?_;clear a K;refine f_ λK a=>?_;go_simp;refine a _ _ (cX (Keeps.refl _ _)) ?_;clear a K;refine f_ λK a=>?_;go_simp;refine a _ _ (cX (Keeps.refl _ _)) ?_;clear a K;refine km λK a=>?_;go_simp;refine(tn aq 3 U rfl _ CW).mono ?_;rintro e Zq ⟨rfl,T,hd⟩;refine a _ _ (cX (hd.mono λ_ _ _=>trivial)) ?_;clear a K;refine ih ?_;have Tq:=(W.drew.trans g').drew.trans hd;clear g' hd W CW Aw zp R;have z:c.step (c.step Zp 2) 3=c.steps p Hc:=by subst Y6;subst Y5;rfl
 rw[z]at T;clear z Y5 Y6;have ps:=af (show E0 c w Zq B k p 0 from⟨T,Tq⟩);clear T Tq;generalize (c.aG C.1 n).2%4294967296=ZG at *;generalize (c.aG C.1 n).2=z2 at *;go_wp2_with fail;go_loopw [5,46] (λ_ i wr=>∃ j:J,j<=2/\i=I j/\Hid (E0 c w wr B k p j)) (λ_ i _=>2-(intOf i).toNat)
 case atStart=>exact⟨0,U,rfl,ps⟩
 obtain⟨j,L,rfl,aU⟩:=hrel;obtain⟨f,rfl⟩:∃ f:ai,f=wr:=⟨_,rfl⟩;clear ps;by_cases W':(j:aa)<2
 .have X:az 367 #[c.val,.pointer (some (ad B (4+10*j) ab))] f λe w'=>e=aV #[]/\Fr c w' B (c.steps (c.steps p (kX j)) (qM (4+10*j) 6)) (k+37+10*(2-(j+1)))/\Keeps (lv c B) f w':=by
   have q:=aU.out.fr;rw[show k+37+10*(2-j)=(k+37+10*(2-(j+1)))+10 by omega]at q;obtain rfl|rfl:j=0\/j=1:=U
   .exact Gt aq 4 U rfl rfl rfl rfl bq _ q
   exact Gt aq 14 U rfl rfl rfl rfl bq _ q
  rw[<-Xc]at X;rw[show 4+10*j=4+j*10 by omega]at X;go_wp2_with fail;refine X.mono ?_;rintro e ZC ⟨rfl,Zg,Zk⟩;go_wp2_with fail;go_roundw
  case rel=>exact⟨j+1,U,by go_num,⟨Zg,aU.out.keeps.trans Zk⟩⟩
  simp[intOf];omega
 obtain rfl:j=2:=U;have q:=aU.out.fr;have a:=aU.out.keeps;clear aU;have Zs:=bR q.bc;have G:=aq.there q.st;have lb:Keeps aG f (f.alloc (ae #[I 0] 3)):=(Keeps.refl _ f).alloc _;have V:=q.keeps aq lb id id;generalize Zl:c.steps p (kX 2)=d at *;have r':=af (show Ei c w (f.alloc (ae #[I 0] 3)) B f.heap.size k d 0 from⟨V,aW f _,U,U,a.size,a.trans (lb.mono λ_ _ x=>x.elim)⟩);have V':=B3 d.2 B _ _ V.bc;clear q a lb V;go_wp2_with (refine dm V' rfl rfl rfl ?_);generalize f.alloc (ae #[I 0] 3)=ZD at *;generalize Zx:f.heap.size=N at *;go_loopw [7,8,61] (λ_ _ i wr=>∃ j:J,j<=6/\i=I j/\Hid (Ei c w wr B N k d j)) (λ_ _ i _=>6-(intOf i).toNat)
 case atStart=>exact⟨0,U,rfl,r'⟩
 obtain⟨j,L,rfl,aU⟩:=hrel;obtain⟨A,rfl⟩:∃ A:ai,A=wr:=⟨_,rfl⟩;clear r' V';by_cases W':(j:aa)<6
 .have St:=B2 d.2 j U;have aj:=aU.out.bit;unfold o2 at St;by_cases r:kT d.2 j
  .have z:=WI d.2 j r;go_wp2_with fail;go_roundw
   case rel=>
    have⟨h1,h2,g,l,s,m⟩:=aU.out;exact⟨j+1,U,by go_num,⟨h1.keeps aq ((a_ A).alloc _) id id,by rw[show fU d.2 (j+1)=fU d.2 j by simp[fU,r]];exact cm h2 _,g,l,s,m.alloc _⟩⟩
   simp[intOf];omega
  have z:=WK d.2 j r;go_wp2_with fail;generalize l':A.alloc _=t;have Y:t.heap[N]?=some (ae #[I (fU d.2 j:J)] 3 (0,0)):=l'▸cm aj _;have O:Keeps aG A t:=l'▸(Keeps.refl _ A).alloc _;have m':=aP Y;have ZF:=bJ Y;clear St z l';refine iK 4 aH aH ?_;simp only[hI,il,hG,hA]
  repeat (go_big_quiet_step ((fail)))
  refine wpQuiet_nil ?_;intro _ Zb;have⟨nq,Zc⟩:=Zb;subst Zc;rw[TH d.2 j U r];generalize wrap64 (2 ^ j)=ZE;go_wp2_with fail;go_roundw
  case rel=>
   obtain⟨h1,h2,g,l,s,m⟩:=aU.out;have H:Keeps (λb=>b=N) A ((t.drewN nq).setCell (ad N 0 ab) (I (fU d.2 (j+1):J))):=Keeps.setCell (S:=λb=>b=N) ((O.drewN nq).mono λ_ _ x=>x.elim) (p:=ad N 0 ab) rfl _;exact⟨j+1,U,by go_num,⟨h1.keeps aq H (λe=>g e.symm) (λe=>l e.symm),by have:=bW (w:=t.drewN nq) Y 0 (I (fU d.2 (j+1):J));simpa using this,g,l,s,cK m H a7⟩⟩
  simp[intOf];omega
 obtain rfl:j=6:=U;have Ze:=aU.out;clear aU;obtain⟨h1,h2,g,l,s,m⟩:=Ze;have Zh:=vg d.2 6;have Y3:=aq.num (n:=(fU d.2 6:J)) (o:=0) _ h1.st h2 g rfl (by unfold mC;omega) (aq.okB _ U);generalize Zi:(fU d.2 6:aa)=F at *;go_wp2_with fail;refine Y3.mono ?_;rintro e t ⟨rfl,g1,g2,Q⟩;have O:Keeps (lv c B) w t:=cK m Q (λx P e=>e.elim Or.inl a7);have Q':Fr c t B ((c.aG d.1 F).1,d.2) (k+36):=⟨g1,(Q.block B (bR h1.bc) (λe=>e.elim h1.ne (λe=>l e.symm))).trans h1.bc,h1.ne,h1.fit⟩;have sd:=af (show EU c w t B N k (c.aG d.1 F).2 ((c.aG d.1 F).1,d.2) 0 from⟨Q',g2,g,l,O⟩);clear h1 h2 g l m s Zh Y3 g1 g2 Q O Q';generalize Zn:(c.aG d.1 F).2=y at *;generalize Zm:((c.aG d.1 F).1,d.2)=E at *;go_wp2_with fail;go_loopw [9,75] (λ_ i wr=>∃ j:J,j<=6/\i=I j/\Hid (EU c w wr B N k y E j)) (λ_ i _=>6-(intOf i).toNat)
 case atStart=>exact⟨0,U,rfl,sd⟩
 obtain⟨j,L,rfl,aU⟩:=hrel;obtain⟨f,rfl⟩:∃ f:ai,f=wr:=⟨_,rfl⟩;clear sd;by_cases W':(j:aa)<6
 .have m':=aP aU.out.bit;by_cases r:bits .and .i64 (y / 2 ^ j) 1=1
  .have Zo:(bits .and .i64 (y / 2 ^ j) 1 == 1)=true:=by rw[np];exact r
   have q:=aU.out.fr;rw[show k+6*(6-j)=(k+6*(6-(j+1)))+6 by omega]at q;obtain⟨Y7,Y8,Y9,Y_,Y',Za⟩:=WM j U;have al:=Qf aq (24+6*j) U Y7 Y8 Y9 Y_ Y' Za _ q;rw[show c.steps (k1 c y E j) (r_ (24+6*j))=k1 c y E (j+1)by simp[k1,r],show 24+6*j=24+j*6 by omega]at al;clear q Y7 Y8 Y9 Y_ Y' Za r;go_wp2_with fail;refine al.mono ?_;rintro e ZA ⟨rfl,Zf,H⟩;go_wp2_with fail;go_roundw
   case rel=>
    have⟨h1,h2,g,l,m⟩:=aU.out;exact⟨j+1,U,by go_num,⟨Zf,H.heap h2 (λe=>e.elim g l),g,l,m.trans H⟩⟩
   simp[intOf];omega
  have Zo:(bits .and .i64 (y / 2 ^ j) 1 == 1)=false:=by rw[er];exact r
  have z:k1 c y E (j+1)=k1 c y E j:=by simp[k1,r]
  clear r;go_wp2_with fail;go_roundw
  case rel=>
   have⟨h1,h2,g,l,m⟩:=aU.out;have s:Fr c f B (k1 c y E j) ((k+6*(6-(j+1)))+6):=by rw[show(k+6*(6-(j+1)))+6=k+6*(6-j)by omega];exact h1
   exact⟨j+1,U,by go_num,⟨by rw[z];exact⟨aq.less s.st,s.bc,s.ne,s.fit⟩,h2,g,l,m⟩⟩
  simp[intOf];omega
 obtain rfl:j=6:=U;obtain⟨h1,h2,g,l,m⟩:=aU.out;clear aU;go_wp2;refine p7 (v:=aV #[]) jc rfl ?_;subst Zm;subst Zn;subst Zi;subst Zl;exact⟨rfl,h1,m⟩
def sv(r:J):e4 (ah aQ) where
 T:=482
 r:=r
 tj:=424
 tk:=425
 St S k w:=sX w r S/\S.length+10*k<=9223372036854775807
 aG S n:=(S++num n.toNat,n)
 r4 S n:=(S++num (fz n),n)
 pO n:=0<=n
def Tr(r:J)(w:ai):(nilAhead 647 482 r "promptbook/freeze.number").run prog w=.ok (some false) w:=aH
def Ts(r:J)(w:ai):(nilAhead 647 482 r "promptbook/freeze.signed").run prog w=.ok (some false) w:=aH
def SO(r:J)(w:ai):(method 647 482 r "promptbook/freeze.number").run prog w=.ok (424,.pointer (some (ad r 0 ab))) w:=aH
def SP(r:J)(w:ai):(method 647 482 r "promptbook/freeze.signed").run prog w=.ok (425,.pointer (some (ad r 0 ab))) w:=aH
def Pq(x y:aw)(w:ai):(callFunc 424 #[x,y]).run prog w=.ok (.enter 424 #[x,y]) w:=aH
def Pr(x y:aw)(w:ai):(callFunc 425 #[x,y]).run prog w=.ok (.enter 425 #[x,y]) w:=aH
def Yy(r:J):(sv r).oC where
 z6:=Tr r
 E2:=Ts r
 lq:=SO r
 cB:=SP r
 xw:=Pq
 F2:=Pr
 keeps h hk i:=⟨hk.heap h.1 i,h.2⟩
 less h:=⟨h.1,by have:=h.2;omega⟩
 there h:=bR h.1
 num:=by
  intro S k B o cs t n w h e hne aq a g;obtain⟨m,rfl⟩:=lQ g;have a:-9223372036854775808<=(m:aa)/\(m:aa)<=9223372036854775807:=a;have f:=nR m qh;have h2:=h.2;refine aT (Yz r B o S cs t m h.1 e hne aq U U) ?_;rintro w' ⟨b,c,d⟩;refine⟨rfl,⟨b,?_⟩,?_,d.mono λ_ _=>Or.inl⟩
  .show(S++num _).length+_<=_;rw[cx];simp only[q4];omega
  show w'.heap[B]?=some (ae (cs.setIfInBounds o (I (m:aa))) t (0,0));rw[JE aq];exact c
 JK:=by
  intro S k B o cs t n w h e hne aq a;have a:-2147483648<=n/\n<=2147483647:=a;have f:=nR (fz n) (by unfold fy fz;split<;>omega);have h2:=h.2;refine aT (YA r B o S cs t n h.1 e hne aq a U) ?_;rintro w' ⟨b,c,d⟩;refine⟨rfl,⟨b,?_⟩,?_,d.mono λ_ _=>Or.inl⟩
  .show(S++num _).length+_<=_;rw[cx];omega
  show w'.heap[B]?=some (ae (cs.setIfInBounds o (ag n)) t (0,0));rw[JE aq];exact c
 Ge _ _ h:=h
 ok _ _ _ h:=h
 okB _ h:=h
 okW _ n _ _:=by
  show 0<=IntKind.u32.wrap _;rw[wrap_u32];omega
 Gf _ _ h:=h
def ug(v:J->aa)(o:J):ah aQ:=if dt o=.i32 then num (fz (v o))else num (v o).toNat
def b2(v:J->aa)(l:ah J):ah aQ:=l.flatMap (ug v)
def qV(v:J->aa):J->ah aQ
 | 0=>[]
 | j+1=>qV v j++if kT v j then []else b2 v (r_ (24+6*j))
def mc(v:J->aa):ah aQ:=b2 v (kX 2)++num (fU v 6)++qV v 6
def Cx(v:J->aa)(o:J):bH v o (v o)=v:=by
 funext j
 unfold bH;split<;>simp_all
def YC(r:J)(S:ah aQ)(v:J->aa)(aX:0<=v 1/\v 1<=4294967295)(o:J):(sv r).step (S,v) o=(S++ug v o,v):=by
 unfold e4.step ug;split
 .rename_i h;rw[aD h];show((S++num (fz (v o))),bH v o (v o))=_;rw[Cx]
 .rename_i h;have a:o=1:=by
   unfold dt at h;split at h
   .assumption
   split at h<;>(try cases h);split at h<;>split at h<;>cases h
  subst a;rw[aA (by rw[h];decide)];show((S++num (v 1).toNat),bH v 1 (IntKind.u32.wrap (v 1)))=_;rw[show IntKind.u32.wrap (v 1)=v 1 by rw[wrap_u32];omega,Cx]
 rename_i h1 h2;rw[aA h1];show((S++num (v o).toNat),bH v o (v o))=_;rw[Cx]
theorem CR(r:J)(v:J->aa)(aX:0<=v 1/\v 1<=4294967295):∀ (l:ah J) (S:ah aQ),(sv r).steps (S,v) l=(S++b2 v l,v)
 | [],S=>by simp[e4.steps,b2]
 | o :: l,S=>by
  have h:=CR r v aX l (S++ug v o);unfold e4.steps at h⊢;rw[od,YC r S v aX o,h];simp[b2]
def ta(v:J->aa)(i m:J):∃ x,(if kT v i then 0 else m)=x*m/\((x=0/\kT v i)\/(x=1/\¬ kT v i)):=by
 by_cases h:kT v i
 .exact⟨0,by simp[h],.inl ⟨rfl,h⟩⟩
 exact⟨1,by simp[h],.inr ⟨rfl,h⟩⟩
def N'(v:J->aa)(j:J)(h:j<6):fU v 6 / 2 ^ j%2=1↔¬ kT v j:=by
 have⟨a,i,p⟩:=ta v 0 1;have⟨b,k,q⟩:=ta v 1 2;have⟨c,l,r⟩:=ta v 2 4;have⟨d,m,s⟩:=ta v 3 8;have⟨f,n,t⟩:=ta v 4 16;have⟨g,o,u⟩:=ta v 5 32;have ax:fU v 6=(0+a*1+b*2+c*4+d*8+f*16+g*32):=by
  rw[<-i,<-k,<-l,<-m,<-n,<-o];rfl
 rw[ax];clear ax;have ca:a<=1:=U;have bP:b<=1:=U;have w:c<=1:=U
 match j,h with
 | 0,_=>
  rw[show(0+a*1+b*2+c*4+d*8+f*16+g*32) / 2 ^ 0%2=a by omega];exact p.elim (λh=>⟨λe=>U,λe=>absurd h.2 e⟩) λh=>⟨λ_=>h.2,λ_=>h.1⟩
 | 1,_=>
  rw[show(0+a*1+b*2+c*4+d*8+f*16+g*32) / 2 ^ 1%2=b by omega];exact q.elim (λh=>⟨λe=>U,λe=>absurd h.2 e⟩) λh=>⟨λ_=>h.2,λ_=>h.1⟩
 | 2,_=>
  rw[show(0+a*1+b*2+c*4+d*8+f*16+g*32) / 2 ^ 2%2=c by omega];exact r.elim (λh=>⟨λe=>U,λe=>absurd h.2 e⟩) λh=>⟨λ_=>h.2,λ_=>h.1⟩
 | 3,_=>
  rw[show(0+a*1+b*2+c*4+d*8+f*16+g*32) / 2 ^ 3%2=d by omega];exact s.elim (λh=>⟨λe=>U,λe=>absurd h.2 e⟩) λh=>⟨λ_=>h.2,λ_=>h.1⟩
 | 4,_=>
  rw[show(0+a*1+b*2+c*4+d*8+f*16+g*32) / 2 ^ 4%2=f by omega];exact t.elim (λh=>⟨λe=>U,λe=>absurd h.2 e⟩) λh=>⟨λ_=>h.2,λ_=>h.1⟩
 | 5,_=>
  rw[show(0+a*1+b*2+c*4+d*8+f*16+g*32) / 2 ^ 5%2=g by omega];exact u.elim (λh=>⟨λe=>U,λe=>absurd h.2 e⟩) λh=>⟨λ_=>h.2,λ_=>h.1⟩
def NQ:∀ j:Fin 6,∀ b:Fin 64,(bits .and .i64 ((b.val:aa) / 2 ^ j.val) 1=1)↔b.val / 2 ^ j.val%2=1:=by decide +kernel
def E5(v:J->aa)(j:J)(h:j<6):bits .and .i64 ((fU v 6:J) / 2 ^ j) 1=1↔¬ kT v j:=by
 rw[<-N' v j h];exact NQ ⟨j,h⟩ ⟨fU v 6,vg v 6⟩
theorem KP(r:J)(v:J->aa)(aX:0<=v 1/\v 1<=4294967295)(S:ah aQ):∀ j,j<=6->k1 (sv r) (fU v 6:J) (S,v) j=(S++qV v j,v)
 | 0,_=>by simp[k1,qV]
 | j+1,h=>by
  unfold k1 qV;rw[KP r v aX S j U];by_cases a:kT v j
  .rw[aA (λe=>(E5 v j U).1 e a),aD a,eX]
  rw[aD ((E5 v j U).2 a),aA a,CR r v aX,dD]
def YB(r:J)(v:J->aa)(aX:0<=v 1/\v 1<=4294967295):Cj (sv r) ([],v)=(mc v,v):=by
 unfold Cj;rw[CR r v aX];show k1 (sv r) (fU v 6:J) (([]++b2 v (kX 2))++num (Int.toNat (fU v 6:J)),v) 6=_;rw[KP r v aX _ 6 U,q4];rfl
def s7(v:J->aa):ak:=∀ j,j<60->mC (dt j) (v j)
theorem VH(v:J->aa)(B:J)(w:ai)(t:TypeId)(a:w.heap[B]?=some (ae (bo v) t (0,0))):(Instr.loadAt 99 B).run prog w=.ok (.agg (bo v)) w:=
 gq 99 60 B 0 (bo v) (bo v) t isAgg99 sizeOf99 (eh v) a (λj x z=>jS)
def nL{n a b:aa}(h:gK n a b=true)(bj:0<=a):0<=n:=by
 simp[gK]at h;omega
def IB{v:J->aa}{o:J}(h:mN v o=true)(j:J)(h1:4<=j)(h2:j<10):0<=v (o+j):=by
 simp only[mN,rY,ee]at h;obtain⟨a,b,c,d,e,f,_⟩:=h;obtain rfl|rfl|rfl|rfl|rfl|rfl:j=4\/j=5\/j=6\/j=7\/j=8\/j=9:=U
 .exact nL a U
 .exact nL b U
 .exact nL c U
 .exact nL d U
 .exact nL e U
 exact nL f U
def WL{v:J->aa}{j:J}(h:o3 v 6=true)(a:j<6):o1 v j=true:=by
 cases ax:o1 v j with
 | true=>rfl
 | false=>rw[JP ax a]at h;cases h
def WJ{v:J->aa}{j:J}(h:o1 v j=true)(k:J)(h1:28<=k)(h2:k<30):0<=v (k+6*j):=by
 simp only[o1,ua,vF,uq,ee,gg]at h;obtain rfl|rfl:k=28\/k=29:=U
 .rcases h with h|h
  .omega
  exact nL h.1 U
 rcases h with h|h
 .omega
 exact nL h.2.1 U
def UX{v:J->aa}(l:s7 v)(h:kZ v=true)(j:J)(m:j<60)(hk:dt j≠.i32):0<=v j:=by
 simp only[kZ,ee]at h;have⟨a,b,c,d,f,g⟩:=h;by_cases h1:j<4
 .obtain rfl|rfl|rfl|rfl:j=0\/j=1\/j=2\/j=3:=U
  .exact nL d U
  .exact(l 1 U).1
  .exact nL f U
  exact nL g U
 by_cases h2:j<24
 .have k:4<=(j-4)%10:=by
   by_cases e:(j-4)%10<4
   .exact absurd (by unfold dt;rw[aA U,aA h1,aD h2,aD e]) hk
   omega
  rcases (show j-4<10\/10<=j-4 by omega)with i|i
  .have:=IB b (j-4) U U
   rwa [show 4+(j-4)=j by omega]at this
  have:=IB c (j-14) U U
  rwa [show 14+(j-14)=j by omega]at this
 have k:4<=(j-24)%6:=by
  by_cases e:(j-24)%6<4
  .exact absurd (by unfold dt;rw[aA U,aA h1,aA h2,aD e]) hk
  omega
 have:=WJ (WL (j:=(j-24) / 6) a U) (24+(j-24)%6) U U
 rwa [show 24+(j-24)%6+6*((j-24) / 6)=j by omega]at this
def Qw(v:J->aa)(aX:s7 v)(w:ai):az 329 #[.agg (bo v)] w λe w'=>
  e=aV #[.string (if kZ v then⟨(mc v).toArray⟩else ByteArray.empty),I (if kZ v then 0 else 1)]/\Below w w w':=by
 have f:=aW w (ae (bo v) 99);have aj:=(bY w.heap.size w).alloc bA (ae (bo v) 99);have l:=VH v w.heap.size _ _ f;have b:=λW=>GZ v W;cases d:kZ v
 .rw[d]at b
  go_in
  go_wp2_with (refine dm l rfl rfl rfl ?_);refine aT (b _) λan c=>?_;have n:=aj.trans (c.mono aj.size);go_wp2_with fail;go_ret2;exact⟨rfl,n⟩
 rw[d]at b
 go_in
 go_wp2_with (refine dm l rfl rfl rfl ?_);refine aT (b _) λan c=>?_;have g:=(Keeps.bE (S:=aG) c a7).heap f id;have p:=bR g
 have m:Fr (sv an.heap.size) (an.alloc (ae #[.string ⟨#[]⟩] 484)) w.heap.size ([],v) (0+61):=
  ⟨⟨aW an (ae #[.string ⟨#[]⟩] 484),by show 0+10*(0+61)<=_;omega⟩,cm g _,by show w.heap.size≠an.heap.size;omega,λj i=>⟨aX j i,λhk=>(UX aX) d j i hk⟩⟩
 go_wp2_with fail;refine aT (Qg (Yy an.heap.size) _ m) ?_;rintro aB ⟨h,hk⟩;rw[YB _ v ((aX 1 U))]at h;have q:=aP h.st.1;have o:=((aj.trans (c.mono aj.size)).alloc U _).trans (hk.below (B:=w.heap.size) bU (λk hk a=>by simp only[lv]at a;rcases a with a|a;(· have:k=an.heap.size:=a;omega);(· omega)));go_wp2_with fail;go_ret2;exact⟨rfl,o⟩
end Go.Proofs.YtalagblioepadaaGreatDoor
