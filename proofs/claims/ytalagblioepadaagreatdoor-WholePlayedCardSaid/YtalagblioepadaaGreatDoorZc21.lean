/- The proof, part 21. -/
import Derived.Test.YtalagblioepadaaGreatDoorZc18
import Derived.Test.YtalagblioepadaaGreatDoorZc12
namespace Go.Proofs.YtalagblioepadaaGreatDoor
set_option linter.all false
open Proofs.Tryz List Go.RowKit
set_option maxRecDepth 100000
set_option maxHeartbeats 4000000
def sZ{p:ak}(h:p:=by first|(cases d<;>exact h)|cases h.1):p:=h
def gp{p:ak}(h:p:=by simp only[dm,hf];first|rfl|simp[go_sem]):p:=h
def sW{p:ak}(h:p:=by
 go_wp2_with fail;refine pk aH aH ?_
 repeat (go_big_quiet_step (first|(go_at_call 345;first|(with_reducible exact Calls.jF (h1 _))|(with_reducible exact Calls.jF (h2 _))|(with_reducible exact Calls.jF (d _))|(with_reducible exact Calls.jF (g _))|(with_reducible exact Calls.jF (i _))|(with_reducible exact Calls.jF (j _)))|(go_at_call 359;exact Calls.kl (Bl _))|(go_at_call 353;exact Calls.kl (l _))))
 refine wpQuiet_nil ?_;intro _ a;obtain⟨c,b⟩:=a;subst b;go_wp2_with fail;go_ret;exact⟨by first|rfl|simp_all,(((b3 _ w).alloc bs _).trans (c.below.mono aK))⟩
 ):p:=h
def xc{p:ak}(h:p:=by
 go_wp2_with fail;refine pk aH aH ?_
 repeat (go_big_quiet_step (first|(go_at_call 345;first|(with_reducible exact Calls.jF (h1 _))|(with_reducible exact Calls.jF (h2 _)))|(go_at_call 354;exact Calls.kl (Bk _))|(go_at_call 353;exact Calls.kl (b _))))
 refine wpQuiet_nil ?_;intro _ c;obtain⟨f,d⟩:=c;subst d;go_wp2_with fail;go_ret;exact⟨by first|rfl|simp_all,(((b3 _ w).alloc bs _).trans (f.below.mono aK))⟩
 ):p:=h
def NI{p:ak}(h:p:=by
 go_simp;by_cases h1:a=0<;>by_cases h2:b=0<;>by_cases g:c=0<;>by_cases i:d=0<;>by_cases j:e=0<;>by_cases k:f=0<;>simp[h1,h2,g,i,j,k]
 ):p:=h
def NZ{p:ak}(h:p:=by
 go_wp2_with fail;refine(Q4 n h w).mono ?_;rintro e w' ⟨rfl,rfl⟩;go_wp2;go_ret;exact⟨rfl,rfl⟩
 ):p:=h
def L3{p:ak}(h:p:=by
 go_wp2;go_ret;exact⟨by rw[show decide (a<=n)=false by simpa using h1];simp,rfl⟩
 ):p:=h
def w7{p:ak}(h:p:=by
 go_wp2;go_ret;exact⟨rfl,((b3 _ w).alloc bs _).alloc aK _⟩
 ):p:=h
def w8{p:ak}(h:p:=by
 go_wp2_with fail;go_ret;exact⟨by rw[r.o];first|rfl|simp,A⟩
 ):p:=h
def Eb{p:ak}(h:p:=by
 go_wp2;go_ret;exact⟨by simp[h1,h2],rfl⟩
 ):p:=h
def pe(v:J->aa)(j:J):a6 ax:=#[ag (v (24+6*j)),ag (v (25+6*j)),ag (v (26+6*j)),ag (v (27+6*j)),I (v (28+6*j)),I (v (29+6*j))]
def k6(v:J->aa)(j:J):ak:=v (24+6*j)=0/\v (25+6*j)=0/\v (26+6*j)=0/\v (27+6*j)=0/\v (28+6*j)=0/\v (29+6*j)=0
instance (v:J->aa)(j:J):Decidable (k6 v j):=by unfold k6;infer_instance
def nm(v:J->aa):a6 ax:=((range 36).map λj=>Value.int (dt (24+j)) (v (24+j))).toArray
def V_(v:J->aa)(w:ai):(Instr.index 97 (.agg (nm v)) (I 0)).run prog w=.ok (.agg (pe v 0)) w:=aH
def Wa(v:J->aa)(w:ai):(Instr.index 97 (.agg (nm v)) (I 1)).run prog w=.ok (.agg (pe v 1)) w:=aH
def Wb(v:J->aa)(w:ai):(Instr.index 97 (.agg (nm v)) (I 2)).run prog w=.ok (.agg (pe v 2)) w:=aH
def Wc(v:J->aa)(w:ai):(Instr.index 97 (.agg (nm v)) (I 3)).run prog w=.ok (.agg (pe v 3)) w:=aH
def Wd(v:J->aa)(w:ai):(Instr.index 97 (.agg (nm v)) (I 4)).run prog w=.ok (.agg (pe v 4)) w:=aH
def We(v:J->aa)(w:ai):(Instr.index 97 (.agg (nm v)) (I 5)).run prog w=.ok (.agg (pe v 5)) w:=aH
def Co(v:J->aa)(j:J)(h:j<6)(w:ai):(Instr.index 97 (.agg (nm v)) (I (j:J))).run prog w=.ok (.agg (pe v j)) w:=by
 match j,h with
 | 0,_=>exact V_ v w
 | 1,_=>exact Wa v w
 | 2,_=>exact Wb v w
 | 3,_=>exact Wc v w
 | 4,_=>exact Wd v w
 | 5,_=>exact We v w
def Cp(v:J->aa)(B:J)(w:ai)(t:TypeId)(b:w.heap[B]?=some (ae (bn v) t (0,0))):(Instr.loadAt 97 (.pointer (some (ad B 24 ab)))).run prog w=.ok (.agg (nm v)) w:=by
 refine gz 97 36 B 24 (nm v) (bn v) t isAgg97 sizeOf97 (by simp[nm]) b ?_;intro j x a;have h:j<36:=by
  have:=(kf.1 a).1
  simpa[nm]using this
 rw[ft _ U];simpa[nm,h]using a
def C4(a b:aa)(w:ai):(Op.equalIn 9999 91 (aQ #[ag a,ag b]) (aQ c2)).run prog w=.ok (decide (a=0)&&decide (b=0)) w:=by
 have c:prog.underlying 91=some (.struct (prog.fieldsOf 91)):=aH;have d:prog.stoodInHeld 91=false:=aH;rw[show(9999:J)=9998+1 from rfl,DA w 9998 91 _ _ c d];simp only[Program.fieldsOf,underlying91];go_simp;by_cases h1:a=0<;>by_cases h2:b=0<;>simp[h1,h2]
def Kg(a b c d e f:aa)(w:ai):(binOp .neq 96 (aQ #[ag a,ag b,ag c,ag d,I e,I f]) (aQ #[ag 0,ag 0,ag 0,ag 0,I 0,I 0])).run prog w=.ok (.bool (decide ¬ (a=0/\b=0/\c=0/\d=0/\e=0/\f=0))) w:=by
 have an:prog.underlying 96=some (.struct (prog.fieldsOf 96)):=aH;have au:prog.stoodInHeld 96=false:=aH;rw[run_neq_struct,show(10000:J)=9999+1 from rfl,DA w 9999 96 _ _ an au];simp only[Program.fieldsOf,underlying96];exact NI
def Xj(v:J->aa)(j:J)(h:k6 v j)(w:ai):(binOp .neq 96 (aQ #[ag (v (24+6*j)),ag (v (25+6*j)),ag (v (26+6*j)),ag (v (27+6*j)),I (v (28+6*j)),I (v (29+6*j))]) (aQ #[ag 0,ag 0,ag 0,ag 0,I 0,I 0])).run prog w=.ok (.bool false) w:=by
 rw[Kg]
 congr 2
 exact dd (uR h)
def Xl(v:J->aa)(j:J)(h:¬ k6 v j)(w:ai):(binOp .neq 96 (aQ #[ag (v (24+6*j)),ag (v (25+6*j)),ag (v (26+6*j)),ag (v (27+6*j)),I (v (28+6*j)),I (v (29+6*j))]) (aQ #[ag 0,ag 0,ag 0,ag 0,I 0,I 0])).run prog w=.ok (.bool true) w:=by
 rw[Kg]
 congr 2
 exact ee h
variable{w:ai}
def n1(n a b:aa)(w:ai):aA 345 #[I n,I a,I b] w λe w'=>e=.returned (.bool (decide (a<=n)&&decide (n<=b)))/\w=w':=by
 by_cases h1:a<=n
 .by_cases h2:n<=b
  .go_in
   exact Eb
  go_in
  go_wp2;go_ret;exact⟨by simp[h2],rfl⟩
 go_in
 exact L3
def iF(a b c d x y:aa):aY:=decide (a<=x)&&decide (x<=c)&&decide (b<=y)&&decide (y<=d)
def CA(a b c d x y:aa)(w:ai):aA 353 #[aQ #[ag a,ag b,ag c,ag d],aQ #[ag x,ag y]] w λe w'=>e=.returned (.bool (iF a b c d x y))/\Below w w w':=by
 by_cases h1:a<=x
 .by_cases h2:x<=c
  .by_cases f:b<=y
   .by_cases g:y<=d
    .rw[show iF a b c d x y=true by simp[iF,h1,h2,f,g]]
     go_in
     exact w7
    rw[show iF a b c d x y=false by simp[iF,g]]
    go_in
    exact w7
   rw[show iF a b c d x y=false by simp[iF,f]]
   go_in
   exact w7
  rw[show iF a b c d x y=false by simp[iF,h2]]
  go_in
  exact w7
 rw[show iF a b c d x y=false by simp[iF,h1]]
 go_in
 exact w7
def Bk(w:ai):aA 354 #[] w λe w'=>e=.returned (aQ #[ag (-4194304),ag (-4194304),ag 4194304,ag 4194304])/\Below w w w':=by
 have a:=dx _ _ _ _ (aX w (ae #[ag (-4194304),ag (-4194304),ag 4194304,ag 4194304] 214)) 4 rfl
 go_in
 go_wp2;refine cU (v:=aQ #[ag (-4194304),ag (-4194304),ag 4194304,ag 4194304]) (by simp[results,results354,asAddr,loadVar,loadCells,isAgg214,sizeOf214,a]) rfl ?_;exact⟨rfl,(b3 _ w).alloc bs _⟩
def Q6(n:aa)(h:-2147483648<=n/\n<=2147483647)(w:ai):aA 282 #[I n,I (-2147483648),I 2147483647] w λe w'=>e=.returned (I n)/\w=w':=by
 have a:min n 2147483647=n:=U
 go_in
 go_wp2
 all_goals go_ret
 all_goals exact⟨by first|rfl|(rw[show n=-2147483648 by omega];rfl),rfl⟩
def Q4(n:aa)(h:-2147483648<=n/\n<=2147483647)(w:ai):aA 214 #[I n] w λe w'=>e=.returned (ag n)/\w=w':=by
 have a:IntKind.i32.wrap n=n:=by rw[IntKind.wrap_i32];omega
 go_in
 go_wp2_with fail;refine(Q6 n h w).mono ?_;rintro e w' ⟨rfl,rfl⟩;go_wp2;go_ret;exact⟨rfl,rfl⟩
def Q3(a b n:aa)(bd:-2147483648<=a/\a<=2147483647)(aj:-2147483648<=b/\b<=2147483647)(h:-2147483648<=n/\n<=2147483647)(ar:a+b=n)(w:ai):aA 278 #[ag a,ag b] w λe w'=>e=.returned (ag n)/\w=w':=by
 have c:IntKind.i64.wrap a=a:=ev _ U;have d:IntKind.i64.wrap b=b:=ev _ U;have f:IntKind.i64.wrap (a+b)=n:=by rw[ev _ U,ar]
 go_in
 exact NZ
def Q5(a b n:aa)(bd:-2147483648<=a/\a<=2147483647)(aj:-2147483648<=b/\b<=2147483647)(h:-2147483648<=n/\n<=2147483647)(ar:a-b=n)(w:ai):aA 281 #[ag a,ag b] w λe w'=>e=.returned (ag n)/\w=w':=by
 have c:IntKind.i64.wrap a=a:=ev _ U;have d:IntKind.i64.wrap b=b:=ev _ U;have f:IntKind.i64.wrap (a-b)=n:=by rw[ev _ U,ar]
 go_in
 exact NZ
def W_(a d x:aa)(g:∀ w,aA 278 #[ag a,ag d] w λe w'=>e=.returned (ag x)/\w=w')(w:ai):aA 277 #[aQ #[ag a,ag a],aQ #[ag d,ag d],.func (.func 278) #[] #[]] w λe w'=>e=.returned (aQ #[ag x,ag x])/\Below w w w':=by
 go_in
 go_wp2_with fail;refine iR 13 aH aH ?_;simp only[hV,iy,hU,hI]
 repeat (go_big_quiet_step ((exact(g _).mono λ_ _ h=>⟨h.1,_,h.2.symm⟩)))
 refine wpQuiet_nil ?_;intro _ b;obtain⟨nq,c⟩:=b;subst c;go_wp2_with fail;refine cU (v:=aQ #[ag x,ag x]) xd rfl ?_;have f:=(((b3 w.heap.size w).alloc bs (ae #[ag a,ag a] 91)).alloc aK (ae #[ag d,ag d] 91)).alloc bT (ae c2 91);refine⟨rfl,l1 (l1 ?_ ?_ _) ?_ _⟩
 .exact w_
 all_goals show w.heap.size<=w.heap.size+1+1
 all_goals omega
def Xa(a d x:aa)(g:∀ w,aA 281 #[ag a,ag d] w λe w'=>e=.returned (ag x)/\w=w')(w:ai):aA 277 #[aQ #[ag a,ag a],aQ #[ag d,ag d],.func (.func 281) #[] #[]] w λe w'=>e=.returned (aQ #[ag x,ag x])/\Below w w w':=by
 go_in
 go_wp2_with fail;refine iR 13 aH aH ?_;simp only[hV,iy,hU,hI]
 repeat (go_big_quiet_step ((exact(g _).mono λ_ _ h=>⟨h.1,_,h.2.symm⟩)))
 refine wpQuiet_nil ?_;intro _ b;obtain⟨nq,c⟩:=b;subst c;go_wp2_with fail;refine cU (v:=aQ #[ag x,ag x]) xd rfl ?_;have f:=(((b3 w.heap.size w).alloc bs (ae #[ag a,ag a] 91)).alloc aK (ae #[ag d,ag d] 91)).alloc bT (ae c2 91);refine⟨rfl,l1 (l1 ?_ ?_ _) ?_ _⟩
 .exact w_
 all_goals show w.heap.size<=w.heap.size+1+1
 all_goals omega
def W5(a d x:aa)(j:∀ w,aA 278 #[ag a,ag d] w λe w'=>e=.returned (ag x)/\w=w')(w:ai):aA 211 #[aQ #[ag a,ag a],aQ #[ag d,ag d]] w λe w'=>e=.returned (aQ #[ag x,ag x])/\Below w w w':=by
 have c:=(((b3 w.heap.size w).alloc bs (ae #[ag a,ag a] 91)).alloc aK (ae #[ag d,ag d] 91)).alloc bT (ae c2 91);have f:=aX ((w.alloc (ae #[ag a,ag a] 91)).alloc (ae #[ag d,ag d] 91)) (ae c2 91);have aT:=λW=>W_ a d x j W
 go_in
 go_wp2_with fail;refine(aT _).mono ?_;rintro e ao ⟨rfl,aj⟩;have i:=c.trans (aj.mono c.size);have b:=(Keeps.bD (S:=aI) aj a7).heap f id;have av:((w.alloc (ae #[ag a,ag a] 91)).alloc (ae #[ag d,ag d] 91)).heap.size=w.heap.size+1+1:=aK;rw[av]at b;have k:=aS b;have l:=bI b;go_wp2_with fail;have h:=bV (bV b 0 (ag x)) 1 (ag x);have g:=dx _ _ _ _ h 2 rfl;simp only[sU,rA,w5]at g;refine cU (v:=aQ #[ag x,ag x]) Mv rfl ?_;refine⟨rfl,l1 (l1 i ?_ _) ?_ _⟩
 all_goals show w.heap.size<=w.heap.size+1+1
 all_goals omega
def W9(a d x:aa)(j:∀ w,aA 281 #[ag a,ag d] w λe w'=>e=.returned (ag x)/\w=w')(w:ai):aA 213 #[aQ #[ag a,ag a],aQ #[ag d,ag d]] w λe w'=>e=.returned (aQ #[ag x,ag x])/\Below w w w':=by
 have c:=(((b3 w.heap.size w).alloc bs (ae #[ag a,ag a] 91)).alloc aK (ae #[ag d,ag d] 91)).alloc bT (ae c2 91);have f:=aX ((w.alloc (ae #[ag a,ag a] 91)).alloc (ae #[ag d,ag d] 91)) (ae c2 91);have aT:=λW=>Xa a d x j W
 go_in
 go_wp2_with fail;refine(aT _).mono ?_;rintro e ao ⟨rfl,aj⟩;have i:=c.trans (aj.mono c.size);have b:=(Keeps.bD (S:=aI) aj a7).heap f id;have av:((w.alloc (ae #[ag a,ag a] 91)).alloc (ae #[ag d,ag d] 91)).heap.size=w.heap.size+1+1:=aK;rw[av]at b;have k:=aS b;have l:=bI b;go_wp2_with fail;have h:=bV (bV b 0 (ag x)) 1 (ag x);have g:=dx _ _ _ _ h 2 rfl;simp only[sU,rA,w5]at g;refine cU (v:=aQ #[ag x,ag x]) Mw rfl ?_;refine⟨rfl,l1 (l1 i ?_ _) ?_ _⟩
 all_goals show w.heap.size<=w.heap.size+1+1
 all_goals omega
def Kd(a b c d:aa)(h1:a<=c)(h2:b<=d)(w:ai):aA 375 #[aQ #[ag a,ag b,ag c,ag d]] w λe w'=>e=.returned (.bool true)/\Below w w w':=by
 go_in
 go_wp2;go_ret;exact⟨by first|rfl|simp[h2],(b3 _ w).alloc bs _⟩
def Ay{w:ai}{b:J}{t:TypeId}{bt bY bo eo:ax}(h:w.heap[b]?=some (ae #[bt,bY,bo,eo] t (0,0)))(a c v2 d:ax):((((w.setCell (ad b 0 ab) a).setCell (ad b 1 ab) c).setCell (ad b 2 ab) v2).setCell (ad b 3 ab) d).heap[b]?=some (ae #[a,c,v2,d] t (0,0)):=by
 have:=bV (bV (bV (bV h 0 a) 1 c) 2 v2) 3 d
 simpa using this
theorem r5{S:J->ak}{bk w:ai}{b:J}(h:Keeps S bk w)(aj:S b)(a c v2 d:ax):Keeps S bk ((((w.setCell (ad b 0 ab) a).setCell (ad b 1 ab) c).setCell (ad b 2 ab) v2).setCell (ad b 3 ab) d):=
 (((h.setCell (p:=ad b 0 ab) aj a).setCell (p:=ad b 1 ab) aj c).setCell (p:=ad b 2 ab) aj v2).setCell (p:=ad b 3 ab) aj d
def W7(w:ai):aA 369 #[aQ #[ag (-4194304),ag (-4194304),ag 4194304,ag 4194304],ag 262144] w λe w'=>e=aV #[aQ #[ag (-3932160),ag (-3932160),ag 3932160,ag 3932160],true]/\Below w w w':=by
 have q:=λW=>W5 (-4194304) 262144 (-3932160) (λw=>Q3 _ _ _ bq bq bq bq w) W;have an:=λW=>W9 4194304 262144 3932160 (λw=>Q5 _ _ _ bq bq bq bq w) W;have E:=λW=>Kd (-3932160) (-3932160) 3932160 3932160 bq bq W;have cb:=aX w (ae #[ag (-4194304),ag (-4194304),ag 4194304,ag 4194304] 214);have bO:=cm (cm cb (ae eJ 214)) (ae #[ag 262144,ag 262144] 91);have n:=cm (aX (w.alloc (ae #[ag (-4194304),ag (-4194304),ag 4194304,ag 4194304] 214)) (ae eJ 214)) (ae #[ag 262144,ag 262144] 91);have o:=aX ((w.alloc (ae #[ag (-4194304),ag (-4194304),ag 4194304,ag 4194304] 214)).alloc (ae eJ 214)) (ae #[ag 262144,ag 262144] 91);have y:=((((ba w).alloc (ae #[ag (-4194304),ag (-4194304),ag 4194304,ag 4194304] 214)).alloc (ae eJ 214))).alloc (ae #[ag 262144,ag 262144] 91);simp only[fK]at n o
 go_in
 go_wp2_with fail;generalize ((w.alloc (ae #[ag (-4194304),ag (-4194304),ag 4194304,ag 4194304] 214)).alloc (ae eJ 214)).alloc (ae #[ag 262144,ag 262144] 91)=bk at *;have O:=j8 (S:=aI) (w:=bk.drew) (bb bO (k:=0) rfl) id;have P:=j8 (S:=aI) (w:=bk.drew) (bb bO (k:=1) rfl) id;have Q:=j8 (S:=aI) (w:=bk.drew) (bb bO (k:=2) rfl) id;have R:=j8 (S:=aI) (w:=bk.drew) (bb bO (k:=3) rfl) id;have V:=j8 (S:=aI) (w:=bk.drew) (bb o (k:=0) rfl) id;have X:=j8 (S:=aI) (w:=bk.drew) (bb o (k:=1) rfl) id;refine cH 11 ?_;refine XD (λ_=>False) [0,1,2,4,5,6] [3,7,8,9] 1 rfl #[true,true,true,true,true,true,true,true,true,true,false] #[true,true,true,false,true,true,true,false,false,false,false] aH aH (λ_ _ _ d _ h=>sZ) ?_;simp only[eG,jz,lo,hf]
 repeat (go_big_quiet_step (fail))
 refine wpQuiet_nil ?_;have a:Keeps aI bk bk.drew:=(Keeps.refl _ bk).drew;refine CU 3 9 #[true,true,true,true,true,true,true,false,false,false,false] #[true,true,true,false,true,true,true,false,false,true,false] aH aH aH aH aH aH aH gp gp (λK c=>?_) (λK c=>?_)
 all_goals simp only[dm,hf]
 rotate_left
 focus
  go_simp;have g:(bk.alloc (ae eJ 214)).drew.heap[bk.heap.size]?=some (ae eJ 214 (0,0)):=aX bk (ae eJ 214);have f:=((ba bk).alloc (ae eJ 214)).drew;refine c _ _ (mi f) ?_;have a:=f;clear f;have⟨D,s⟩:=cO bk.heap.size;have l:bk.heap.size<=D:=U;rw[<-s]at g⊢;clear s;generalize (bk.alloc (ae eJ 214)).drew=wn at *
  try simp only[Act.put,c7]
  refine sA 3 #[true,true,true,true,true,true,true,false,false,true,false] aH aH aH aH gp (λK c=>?_);simp only[dm,hf];go_simp;refine aU (q _) λao i=>?_;have f:=(a:Keeps aI bk wn).fI i;have j:=(Keeps.bD (S:=aI) i a7).heap g id;refine c _ _ (mi f) ?_;clear c K a i g;have a:=f;have g:=j;clear f j
  try simp only[Act.put,c7]
  refine sA 7 #[true,true,true,true,true,true,true,true,false,true,false] aH aH aH aH gp (λK c=>?_);simp only[dm,hf];go_simp;refine aU (an _) λaC i=>?_;have f:=(a:Keeps aI bk ao).fI i;have j:=(Keeps.bD (S:=aI) i a7).heap g id;refine c _ _ (mi f) ?_;clear c K a i g;have a:=f;have g:=j;clear f j
  try simp only[Act.put,c7]
  refine sA 8 #[true,true,true,true,true,true,true,true,true,true,false] aH aH aH aH gp (λK c=>?_);simp only[dm,hf];go_simp;refine c _ _ (mi a) ?_;clear c K
  try simp only[Act.put,c7]
  obtain⟨m,rfl⟩:∃ x,x=aC:=⟨_,rfl⟩
 rotate_left
 focus
  go_simp;refine aU (q _) λao i=>?_;have f:=(a:Keeps aI bk bk.drew).fI i;refine c _ _ (mi f) ?_;clear c K a i;have a:=f;clear f
  try simp only[Act.put,c7]
  refine CU 7 9 #[true,true,true,true,true,true,true,true,false,false,false] #[true,true,true,true,true,true,true,false,false,true,false] aH aH aH aH aH aH aH gp gp (λK c=>?_) (λK c=>?_)
  all_goals simp only[dm,hf]
  rotate_left
  focus
   go_simp;have g:=aX ao (ae eJ 214);have l:=a.size;have f:=a.alloc (ae eJ 214);refine c _ _ (mi f) ?_;clear c K a;have a:=f;clear f
   try simp only[show ∀ W:ai,W.drew.heap=W.heap from λ_=>rfl]at g l a⊢
   generalize (ao).alloc (ae eJ 214)=wn at *;generalize (ao).heap.size=D at *
   try simp only[Act.put,c7]
   refine sA 7 #[true,true,true,true,true,true,true,true,false,true,false] aH aH aH aH gp (λK c=>?_);simp only[dm,hf];go_simp;refine aU (an _) λaC i=>?_;have f:=(a:Keeps aI bk wn).fI i;have j:=(Keeps.bD (S:=aI) i a7).heap g id;refine c _ _ (mi f) ?_;clear c K a i g;have a:=f;have g:=j;clear f j
   try simp only[Act.put,c7]
   refine sA 8 #[true,true,true,true,true,true,true,true,true,true,false] aH aH aH aH gp (λK c=>?_);simp only[dm,hf];go_simp;refine c _ _ (mi a) ?_;clear c K
   try simp only[Act.put,c7]
   obtain⟨m,rfl⟩:∃ x,x=aC:=⟨_,rfl⟩
  rotate_left
  focus
   go_simp;refine aU (an _) λaC i=>?_;have f:=(a:Keeps aI bk ao).fI i;refine c _ _ (mi f) ?_;clear c K a i;have a:=f;clear f
   try simp only[Act.put,c7]
   refine CU 8 9 #[true,true,true,true,true,true,true,true,true,false,false] #[true,true,true,true,true,true,true,true,false,true,false] aH aH aH aH aH aH aH gp gp (λK c=>?_) (λK c=>?_)
   all_goals simp only[dm,hf]
   rotate_left
   focus
    go_simp;have g:=aX aC (ae eJ 214);have l:=a.size;have f:=a.alloc (ae eJ 214);refine c _ _ (mi f) ?_;clear c K a;have a:=f;clear f
    try simp only[show ∀ W:ai,W.drew.heap=W.heap from λ_=>rfl]at g l a⊢
    generalize (aC).alloc (ae eJ 214)=wn at *;generalize (aC).heap.size=D at *
    try simp only[Act.put,c7]
    refine sA 8 #[true,true,true,true,true,true,true,true,true,true,false] aH aH aH aH gp (λK c=>?_);simp only[dm,hf];go_simp;refine c _ _ (mi a) ?_;clear c K
    try simp only[Act.put,c7]
    obtain⟨m,rfl⟩:∃ x,x=wn:=⟨_,rfl⟩
   rotate_left
   focus
    go_simp;refine c _ _ (mi a) ?_;clear c K
    try simp only[Act.put,c7]
    refine sA 9 #[true,true,true,true,true,true,true,true,true,true,false] aH aH aH aH gp (λK c=>?_);simp only[dm,hf];go_simp;have g:=aX aC (ae eJ 214);have l:=a.size;have f:=a.alloc (ae eJ 214);refine c _ _ (mi f) ?_;clear c K a;have a:=f;clear f
    try simp only[show ∀ W:ai,W.drew.heap=W.heap from λ_=>rfl]at g l a⊢
    generalize (aC).alloc (ae eJ 214)=wn at *;generalize (aC).heap.size=D at *
    try simp only[Act.put,c7]
    obtain⟨m,rfl⟩:∃ x,x=wn:=⟨_,rfl⟩
 all_goals
  refine Yk aH ?_
  try simp only[Act.put,c7]
  have f0:=bI g;have g0:=aS g;refine fs (λ_=>True) [] [10] 0 ?_;refine n3 (c0 (r5 (Keeps.refl (λ_=>True) m) trivial _ _ _ _)) ?_;refine iu ?_;have r:=a.heap n id;have N:w.heap.size+1<bk.heap.size:=bP n;have hne:w.heap.size+1≠D:=U;have t:=Ay g (ag (-3932160)) (ag (-3932160)) (ag 3932160) (ag 3932160);have F:=(((eU (eU (eU (eU r hne _) hne _) hne _) hne _):(((((m).setCell (ad D 0 ab) (ag (-3932160))).setCell (ad D 1 ab) (ag (-3932160))).setCell (ad D 2 ab) (ag 3932160)).setCell (ad D 3 ab) (ag 3932160)).heap[w.heap.size+1]?=some (ae eJ 214 (0,0))));have L:=r5 ((y.trans a).mono (T:=λk=>k=D) (λ_ _ x=>x.elim)) (b:=D) rfl (ag (-3932160)) (ag (-3932160)) (ag 3932160) (ag 3932160);clear g0 f0 g r a;generalize ((((m).setCell (ad D 0 ab) (ag (-3932160))).setCell (ad D 1 ab) (ag (-3932160))).setCell (ad D 2 ab) (ag 3932160)).setCell (ad D 3 ab) (ag 3932160)=A at *;have g0:=aS t;go_wp2_with fail;refine aU (E _) λM u=>?_;clear g0;have z:Keeps aI A M:=(Keeps.refl _ A).fI u;have H:=z.heap t id;have p:=z.heap F id;have g0:=aS H;have f0:=bI p;have eO:=aS p;go_wp2_with fail;have G:=Ay p (ag (-3932160)) (ag (-3932160)) (ag 3932160) (ag 3932160);obtain⟨B,d1,d2,C⟩:=FG 0 1 2 3 G ⟨rfl,rfl,rfl,rfl⟩;refine cU (v:=aV #[aQ #[ag (-3932160),ag (-3932160),ag 3932160,ag 3932160],true]) (by simp[results,results369,go_sem,B,d1,d2,C]) rfl ?_;refine⟨rfl,(r5 ((L.fI u).mono (T:=λk=>k=D\/k=w.heap.size+1) λ_ _=>Or.inl) (Or.inr rfl) _ _ _ _).below bs (λk hk=>?_)⟩
  have:=y.size
  omega
def Bl(w:ai):aA 359 #[] w λe w'=>e=.returned (aQ #[ag (-3932160),ag (-3932160),ag 3932160,ag 3932160])/\Below w w w':=by
 have g:=aX w (ae eJ 214);have i:=(ba w).alloc (ae eJ 214)
 go_in
 go_wp2_with fail;generalize w.alloc (ae eJ 214)=bk at *;refine aU ((λW=>Bk W) _) λao c=>?_;go_wp2_with fail;refine aU ((λW=>W7 W) _) λaC d=>?_;have j:=(i.fI c).fI d;have h:=(((ba bk).fI c).fI d).heap g id;have a:=cm h (ae #[ag (-3932160),ag (-3932160),ag 3932160,ag 3932160] 214);have f0:=bI a;have eO:=aS a;go_wp2_with fail;have b:=Ay a (ag (-3932160)) (ag (-3932160)) (ag 3932160) (ag 3932160);obtain⟨d1,d2,f⟩:=FF 1 2 3 b ⟨rfl,rfl,rfl⟩;refine cU (v:=aQ #[ag (-3932160),ag (-3932160),ag 3932160,ag 3932160]) (by simp[results,results359,go_sem,(bb b (k:=0) rfl),d1,d2,f]) rfl ?_;refine⟨rfl,(r5 (((j.alloc _)).mono (T:=λk=>k=w.heap.size) λ_ _ x=>x.elim) rfl _ _ _ _).below bs (λk hk=>?_)⟩;omega
theorem dK{w:ai}{p:Addr}{v:ax}(h:w.cell? p=some v)(x:kJ w):x.to.cell? p=some v:=
 (LB (x.below.block p.block (mE w p h))).trans h
def gP(n a b:aa):aY:=decide (a<=n)&&decide (n<=b)
def sa(f au co e1 eW dc x y:aa):aY:=gP f 0 65535&&(gP au 0 3&&(gP co 0 8&&(gP e1 0 20&&(gP eW 0 30&&(gP dc 0 2&&(iF (-3932160) (-3932160) 3932160 3932160 x y&&(decide (au>0) == decide (eW=0))))))))
def Hu(x y u v f au co e1 eW dc:aa)(w:ai):aA 344 #[aQ #[ag x,ag y,ag u,ag v,I f,I au,I co,I e1,I eW,I dc]] w λe w'=>e=.returned (.bool (sa f au co e1 eW dc x y))/\Below w w w':=by
 have h1:=λW=>n1 f 0 65535 W;have h2:=λW=>n1 au 0 3 W;have d:=λW=>n1 co 0 8 W;have g:=λW=>n1 e1 0 20 W;have i:=λW=>n1 eW 0 30 W;have j:=λW=>n1 dc 0 2 W;have l:=λW=>CA (-3932160) (-3932160) 3932160 3932160 x y W;unfold sa gP;generalize (decide (0<=f)&&decide (f<=65535))=bY at *;generalize (decide (0<=au)&&decide (au<=3))=bo at *;generalize (decide (0<=co)&&decide (co<=8))=eo at *;generalize (decide (0<=e1)&&decide (e1<=20))=dM at *;generalize (decide (0<=eW)&&decide (eW<=30))=fN at *;generalize (decide (0<=dc)&&decide (dc<=2))=eb at *;generalize iF (-3932160) (-3932160) 3932160 3932160 x y=c5 at *;have n:=dK (bb (aX w (ae #[ag x,ag y,ag u,ag v,I f,I au,I co,I e1,I eW,I dc] 93)) (k:=0) rfl);have o:=dK (bb (aX w (ae #[ag x,ag y,ag u,ag v,I f,I au,I co,I e1,I eW,I dc] 93)) (k:=1) rfl);have p:=dK (bb (aX w (ae #[ag x,ag y,ag u,ag v,I f,I au,I co,I e1,I eW,I dc] 93)) (k:=2) rfl);have q:=dK (bb (aX w (ae #[ag x,ag y,ag u,ag v,I f,I au,I co,I e1,I eW,I dc] 93)) (k:=3) rfl);have r:=dK (bb (aX w (ae #[ag x,ag y,ag u,ag v,I f,I au,I co,I e1,I eW,I dc] 93)) (k:=4) rfl);have s:=dK (bb (aX w (ae #[ag x,ag y,ag u,ag v,I f,I au,I co,I e1,I eW,I dc] 93)) (k:=5) rfl);have t:=dK (bb (aX w (ae #[ag x,ag y,ag u,ag v,I f,I au,I co,I e1,I eW,I dc] 93)) (k:=6) rfl);have z:=dK (bb (aX w (ae #[ag x,ag y,ag u,ag v,I f,I au,I co,I e1,I eW,I dc] 93)) (k:=7) rfl);have A:=dK (bb (aX w (ae #[ag x,ag y,ag u,ag v,I f,I au,I co,I e1,I eW,I dc] 93)) (k:=8) rfl);have B:=dK (bb (aX w (ae #[ag x,ag y,ag u,ag v,I f,I au,I co,I e1,I eW,I dc] 93)) (k:=9) rfl);cases bY
 .go_in
  exact sW
 skip
 cases bo
 .go_in
  exact sW
 skip
 cases eo
 .go_in
  exact sW
 skip
 cases dM
 .go_in
  exact sW
 skip
 cases fN
 .go_in
  exact sW
 skip
 cases eb
 .go_in
  exact sW
 skip
 cases c5
 .go_in
  exact sW
 skip
 by_cases m:au>0<;>by_cases h:eW=0
 all_goals
  try subst h
  go_in
  go_wp2_with fail;refine pk aH aH ?_
  repeat (go_big_quiet_step (first|(go_at_call 345;first|(with_reducible exact Calls.jF (h1 _))|(with_reducible exact Calls.jF (h2 _))|(with_reducible exact Calls.jF (d _))|(with_reducible exact Calls.jF (g _))|(with_reducible exact Calls.jF (i _))|(with_reducible exact Calls.jF (j _)))|(go_at_call 359;exact Calls.kl (Bl _))|(go_at_call 353;exact Calls.kl (l _))))
  refine wpQuiet_nil ?_;intro _ a;obtain⟨c,b⟩:=a;subst b;go_wp2_with fail;go_ret;exact⟨by first|rfl|simp_all,(((b3 _ w).alloc bs _).trans (c.below.mono aK))⟩
def vT(x y u v du a:aa):aY:=decide (x=0/\y=0/\u=0/\v=0/\du=0/\a=0)
def Xi(a b c d e f:aa)(w:ai):(binOp .eql 96 (aQ #[ag a,ag b,ag c,ag d,I e,I f]) (aQ #[ag 0,ag 0,ag 0,ag 0,I 0,I 0])).run prog w=.ok (.bool (vT a b c d e f)) w:=by
 have n:=underlying3;have h:=isAgg3;have p:=sizeOf3;have o:=underlying89;have l:=isAgg89;have z4:=sizeOf89;have m:=isAgg91;have q:=sizeOf91;have an:prog.underlying 96=some (.struct (prog.fieldsOf 96)):=aH;have au:prog.stoodInHeld 96=false:=aH;have aW:=C4;rw[run_eql_struct,show(10000:J)=9999+1 from rfl,DA w 9999 96 _ _ an au];simp only[Program.fieldsOf,underlying96];unfold vT;clear an au;exact NI
def uv(x y u v du a:aa):aY:=vT x y u v du a || (gP du 1 2&&(gP a 1 40&&iF (-4194304) (-4194304) 4194304 4194304 x y))
def Rv(x y u v du a:aa)(w:ai):aA 343 #[aQ #[ag x,ag y,ag u,ag v,I du,I a]] w λe w'=>e=.returned (.bool (uv x y u v du a))/\Below w w w':=by
 have h1:=λW=>n1 du 1 2 W;have h2:=λW=>n1 a 1 40 W;have b:=λW=>CA (-4194304) (-4194304) 4194304 4194304 x y W;have g:=λW=>Xi x y u v du a W;unfold uv gP;generalize (decide (1<=du)&&decide (du<=2))=bY at *;generalize (decide (1<=a)&&decide (a<=40))=bo at *;generalize iF (-4194304) (-4194304) 4194304 4194304 x y=c5 at *;generalize vT x y u v du a=bt at *;have h:=dK (bb (aX w (ae #[ag x,ag y,ag u,ag v,I du,I a] 96)) (k:=0) rfl);have i:=dK (bb (aX w (ae #[ag x,ag y,ag u,ag v,I du,I a] 96)) (k:=1) rfl);have j:=dK (bb (aX w (ae #[ag x,ag y,ag u,ag v,I du,I a] 96)) (k:=2) rfl);have l:=dK (bb (aX w (ae #[ag x,ag y,ag u,ag v,I du,I a] 96)) (k:=3) rfl);have m:=dK (bb (aX w (ae #[ag x,ag y,ag u,ag v,I du,I a] 96)) (k:=4) rfl);have n:=dK (bb (aX w (ae #[ag x,ag y,ag u,ag v,I du,I a] 96)) (k:=5) rfl);cases bt
 .cases bY
  .go_in
   exact xc
  cases bo
  .go_in
   exact xc
  cases c5
  .go_in
   exact xc
  go_in
  exact xc
 go_in
 exact xc
def pd(v:J->aa)(j:J):aY:=uv (v (24+6*j)) (v (25+6*j)) (v (26+6*j)) (v (27+6*j)) (v (28+6*j)) (v (29+6*j))
def na(v:J->aa)(o:J):aY:=sa (v (o+4)) (v (o+5)) (v (o+6)) (v (o+7)) (v (o+8)) (v (o+9)) (v o) (v (o+1))
def pf(v:J->aa):J->aY
 | 0=>true
 | j+1=>pf v j&&pd v j
def k'(v:J->aa):aY:=pf v 6&&(na v 4&&(na v 14&&(gP (v 0) 0 1073741824&&(gP (v 2) 0 1073741824&&gP (v 3) 1 600))))
def Kh{v:J->aa}{j:J}(h:pd v j=false)(b:j<6):pf v 6=false:=by
 have:∀ k,j+1+k<=6->pf v (j+1+k)=false:=by
  intro k
  induction k with
  | zero=>intro _;simp[pf,h]
  | succ k a=>intro hk;rw[show j+1+(k+1)=(j+1+k)+1 by omega];simp[pf,a kh]
 have:=this (6-(j+1)) U
 rwa [show j+1+(6-(j+1))=6 by omega]at this
def uf(v:J->aa)(o:J):a6 ax:=#[ag (v o),ag (v (o+1)),ag (v (o+2)),ag (v (o+3)),I (v (o+4)),I (v (o+5)),I (v (o+6)),I (v (o+7)),I (v (o+8)),I (v (o+9))]
structure Fj(w wr:ai)(v:J->aa)(B:J)(j:J):ak where
 bc:wr.heap[B]?=some (ae (bn v) 99 (0,0))
 mN:Below w w wr
 ok:pf v j=true
def Hr(v:J->aa)(w:ai):aA 322 #[.agg (bn v)] w λe w'=>e=.returned (.bool (k' v))/\Below w w w':=by
 go_in
 have g:=aX w (ae (bn v) 99);have u:=af (show Fj w (w.alloc (ae (bn v) 99)) v w.heap.size 0 from⟨g,((b3 w.heap.size w).alloc bs (ae (bn v) 99)),rfl⟩);go_wp2_with (refine dp (Cp v w.heap.size _ _ g) rfl rfl rfl ?_);generalize w.alloc (ae (bn v) 99)=bk at *;generalize C:w.heap.size=B at *;go_loopw [7] (λi wr=>∃ j:J,j<=6/\i=I j/\Hid (Fj w wr v B j)) (λi _=>6-(intOf i).toNat)
 case atStart=>exact⟨0,U,rfl,u⟩
 obtain⟨j,D,rfl,aT⟩:=hrel;obtain⟨a,rfl⟩:∃ a:ai,a=wr:=⟨_,rfl⟩;by_cases E:(j:aa)<6
 .have t:=Co v j U;unfold pe at t;have h:=λW=>Rv (v (24+6*j)) (v (25+6*j)) (v (26+6*j)) (v (27+6*j)) (v (28+6*j)) (v (29+6*j)) W;rw[show uv (v (24+6*j)) (v (25+6*j)) (v (26+6*j)) (v (27+6*j)) (v (28+6*j)) (v (29+6*j))=pd v j from rfl]at h;go_wp2_with fail;refine aU (h _) λao c=>?_;have b:Keeps aI a ao:=((Keeps.refl _ a).alloc _).fI c;cases av:pd v j
  .have y:=Kh av U;have d:=aT.out.mN.trans (b.below aT.out.mN.size (λk _ x=>x));go_wp2_with fail;go_ret;exact⟨by simp[k',y],d⟩
  go_wp2_with fail;go_roundw
  case rel=>
   exact⟨j+1,U,by go_num,⟨b.heap aT.out.bc id,aT.out.mN.trans (b.below aT.out.mN.size (λk _ x=>x)),by simp[pf,aT.out.ok,av]⟩⟩
  simp[intOf];omega
 obtain rfl:j=6:=U;obtain⟨h1,h2,s⟩:=aT.out;have l:=λW=>Hu (v 4) (v 5) (v 6) (v 7) (v 8) (v 9) (v 10) (v 11) (v 12) (v 13) W;have m:=λW=>Hu (v 14) (v 15) (v 16) (v 17) (v 18) (v 19) (v 20) (v 21) (v 22) (v 23) W;rw[show sa (v 8) (v 9) (v 10) (v 11) (v 12) (v 13) (v 4) (v 5)=na v 4 from rfl]at l;rw[show sa (v 18) (v 19) (v 20) (v 21) (v 22) (v 23) (v 14) (v 15)=na v 14 from rfl]at m;have n:=λW=>n1 (v 0) 0 1073741824 W;have p:=λW=>n1 (v 2) 0 1073741824 W;have q:=λW=>n1 (v 3) 1 600 W;rw[show(decide (0<=v 0)&&decide (v 0<=1073741824))=gP (v 0) 0 1073741824 from rfl]at n;rw[show(decide (0<=v 2)&&decide (v 2<=1073741824))=gP (v 2) 0 1073741824 from rfl]at p;rw[show(decide (1<=v 3)&&decide (v 3<=600))=gP (v 3) 1 600 from rfl]at q;have z:k' v=(na v 4&&(na v 14&&(gP (v 0) 0 1073741824&&(gP (v 2) 0 1073741824&&gP (v 3) 1 600)))):=by simp[k',s]
 generalize na v 4=bY at *;generalize na v 14=bo at *;generalize gP (v 0) 0 1073741824=eo at *;generalize gP (v 2) 0 1073741824=dM at *;generalize gP (v 3) 1 600=fN at *;have r:=af z;have a':=bb h1 (ft v (o:=4) U);have fr:=bb h1 (ft v (o:=5) U);have gf:=bb h1 (ft v (o:=6) U);have g':=bb h1 (ft v (o:=7) U);have hd:=bb h1 (ft v (o:=8) U);have lb:a.cell? (ad B 9 ab)=some (I (v 9)):=bb h1 (ft v (o:=9) U);have G:a.cell? (ad B 10 ab)=some (I (v 10)):=bb h1 (ft v (o:=10) U);have H:a.cell? (ad B 11 ab)=some (I (v 11)):=bb h1 (ft v (o:=11) U);have K:a.cell? (ad B 12 ab)=some (I (v 12)):=bb h1 (ft v (o:=12) U);have L:a.cell? (ad B 13 ab)=some (I (v 13)):=bb h1 (ft v (o:=13) U);go_wp2_with fail;refine aU (l _) λao c=>?_;have b:=(ba a).fI c;have g1:=b.heap h1 id;have d:=h2.trans (b.below h2.size (λk _ x=>x));cases bY
 .go_wp2_with fail;go_ret;exact⟨by rw[r.o];first|rfl|simp,d⟩
 have M:ao.cell? (ad B 14 ab)=some (ag (v 14)):=bb g1 (ft v (o:=14) U);have N:ao.cell? (ad B 15 ab)=some (ag (v 15)):=bb g1 (ft v (o:=15) U);have O:ao.cell? (ad B 16 ab)=some (ag (v 16)):=bb g1 (ft v (o:=16) U);have P:ao.cell? (ad B 17 ab)=some (ag (v 17)):=bb g1 (ft v (o:=17) U);have Q:ao.cell? (ad B 18 ab)=some (I (v 18)):=bb g1 (ft v (o:=18) U);have R:ao.cell? (ad B 19 ab)=some (I (v 19)):=bb g1 (ft v (o:=19) U);have T:ao.cell? (ad B 20 ab)=some (I (v 20)):=bb g1 (ft v (o:=20) U);have V:ao.cell? (ad B 21 ab)=some (I (v 21)):=bb g1 (ft v (o:=21) U);have X:ao.cell? (ad B 22 ab)=some (I (v 22)):=bb g1 (ft v (o:=22) U);have Y:ao.cell? (ad B 23 ab)=some (I (v 23)):=bb g1 (ft v (o:=23) U);go_wp2_with fail;refine aU (m _) λaC c=>?_;have b:=(ba ao).fI c;have f:=b.heap g1 id;have A:=d.trans (b.below d.size (λk _ x=>x));cases bo
 .exact w8
 have F:aC.cell? (ad B 0 ab)=some (I (v 0)):=bb f (ft v (o:=0) U);have S:aC.cell? (ad B 2 ab)=some (I (v 2)):=bb f (ft v (o:=2) U);have Z:aC.cell? (ad B 3 ab)=some (I (v 3)):=bb f (ft v (o:=3) U);go_wp2_with fail;refine bA (n _) ?_;cases eo
 .exact w8
 go_wp2_with fail;refine bA (p _) ?_;cases dM
 .exact w8
 go_wp2_with fail;refine bA (q _) ?_;cases fN
 .exact w8
 exact w8
variable{ea:Type}{c:e' ea}{B:J}{p:ea×(J->aa)}{k:J}
def XN(c:e' ea)(p:ea×(J->aa)):c.step p 1=((c.aI p.1 (p.2 1)).1,bF p.2 1 (IntKind.u32.wrap (c.aI p.1 (p.2 1)).2)):=rfl
def QP(al:c.oP){w w':ai}{n:aa}{f:J}(ar:p.2 1=n)(h:Fr c w B p f)(h1:c.St (c.aI p.1 n).1 k w')(h2:w'.heap[B]?=w.heap[B]?):Fr c (w'.setCell (ad B 1 ab) (aP (IntKind.u32.wrap (c.aI p.1 n).2))) B (c.step p 1) k:=by
 subst ar;rw[XN];have g:=h2.trans h.bc;refine⟨al.keeps (S:=λb=>b=B) h1 (Keeps.setCell (S:=λb=>b=B) (Keeps.refl _ _) (p:=ad B 1 ab) rfl _) (λe=>h.ne e.symm),?_,h.ne,λj i=>?_⟩
 .rw[bV g];exact cV some (cV (λa=>ae a _ (0,0)) (yC p.2 1 _))
 simp only[bF];by_cases e:j=1
 .subst e;rw[aD rfl];have d:=h.fit 1 U;refine⟨?_,λ_=>al.okW _ _ d.1 (d.2 bq)⟩;show 0<=IntKind.u32.wrap _/\_;rw[wrap_u32];omega
 rw[az e];exact h.fit j i
def HE:ah J:=[0,1,2,3]
def k9(j:J):ah J:=HE++(range j).flatMap λi=>q3 (4+10*i) 6
def XP(c:e' ea)(p:ea×(J->aa))(j:J):c.steps p (k9 (j+1))=c.steps (c.steps p (k9 j)) (q3 (4+10*j) 6):=by
 unfold k9 e'.steps;rw[qs,ry,<-dD,nB];simp
structure Fs(c:e' ea)(w wr:ai)(B k:J)(p:ea×(J->aa))(j:J):ak where
 fr:Fr c wr B (c.steps p (k9 j)) (k+37+10*(2-j))
 keeps:Keeps (lL c B) w wr
def gb(v:J->aa):J->J
 | 0=>0
 | j+1=>gb v j+if k6 v j then 0 else 2 ^ j
theorem vw(v:J->aa):∀ j,gb v j<2 ^ j
 | 0=>by simp[gb]
 | j+1=>by
  have h:=vw v j;have h2:2 ^ (j+1)=2*2 ^ j:=by rw[nG,oH]
  unfold gb;split<;>omega
def Ui:∀ j:Fin 6,∀ b:Fin 64,b.val<2 ^ j.val->bits .or .i64 (b.val:aa) (wrap64 (2 ^ j.val))=((b.val+2 ^ j.val:J):aa):=by decide +kernel
def Uj(v:J->aa)(j:J)(h:j<6)(b:¬ k6 v j):bits .or .i64 (gb v j:J) (wrap64 (2 ^ j))=(gb v (j+1):J):=by
 have h1:=vw v j;have h2:2 ^ j<=2 ^ 6:=rF bq U;have a:=Ui ⟨j,h⟩ ⟨gb v j,U⟩ h1;rw[show gb v (j+1)=gb v j+2 ^ j by simp[gb,b]];exact a
structure EK(c:e' ea)(w wr:ai)(B N k:J)(p:ea×(J->aa))(j:J):ak where
 fr:Fr c wr B p (k+37)
 bit:wr.heap[N]?=some (ae #[I (gb p.2 j:J)] 3 (0,0))
 T1:N≠c.r
 T2:N≠B
 new:w.heap.size<=N
 keeps:Keeps (lL c B) w wr
def lf(c:e' ea)(y:aa)(p:ea×(J->aa)):J->ea×(J->aa)
 | 0=>p
 | j+1=>if bits .and .i64 (y / 2 ^ j) 1=1 then c.steps (lf c y p j) (sn (24+6*j))else lf c y p j
structure Fk(c:e' ea)(w wr:ai)(B N k:J)(y:aa)(p:ea×(J->aa))(j:J):ak where
 fr:Fr c wr B (lf c y p j) (k+6*(6-j))
 bit:wr.heap[N]?=some (ae #[I y] 3 (0,0))
 T1:N≠c.r
 T2:N≠B
 keeps:Keeps (lL c B) w wr
def CI(c:e' ea)(p:ea×(J->aa)):ea×(J->aa):=
 lf c (c.aI (c.steps p (k9 2)).1 (gb (c.steps p (k9 2)).2 6:J)).2 ((c.aI (c.steps p (k9 2)).1 (gb (c.steps p (k9 2)).2 6:J)).1,(c.steps p (k9 2)).2) 6
def Xn(j:J)(h:j<6):dt (24+6*j)=.i32/\dt (24+6*j+1)=.i32/\dt (24+6*j+2)=.i32/\dt (24+6*j+3)=.i32/\dt (24+6*j+4)=.i64/\dt (24+6*j+5)=.i64:=by
 match j,h with
 | 0,_=>decide
 | 1,_=>decide
 | 2,_=>decide
 | 3,_=>decide
 | 4,_=>decide
 | 5,_=>decide
def QR(al:c.oP)(w:ai)(h:Fr c w B p (k+61)):aA 356 #[c.val,B] w λe w'=>e=aV #[]/\Fr c w' B (CI c p) k/\Keeps (lL c B) w w':=by
 have Z':=al.Ap;have Z_:=al.lI;have Z9:=al.xT;have mv:w.cell? (ad B 1 ab)=some (aP (p.2 1)):=bb h.bc (ft p.2 (o:=1) U);have Z:=h.fit 1 U;have ZY:0<=p.2 1/\p.2 1<=4294967295:=Z.1;have ZS:IntKind.i64.wrap (p.2 1)=p.2 1:=ev _ U;have a':Keeps aI w (w.alloc (ae #[I (p.2 1)] 3)):=(Keeps.refl _ w).alloc _;have sd:=aX w (ae #[I (p.2 1)] 3);have v':=h.keeps al a' id id;have ZH:c.p3 (p.2 1):=Z.2 bq;have aab:=bP h.bc;have aac:=al.there h.st;clear Z h;generalize ar:p.2 1=n at *
 go_in
 go_wp2_with fail;generalize w.alloc (ae #[I n] 3)=bk at *;generalize Z8:w.heap.size=D at *;have ys:=v'.drew al;refine cH 8 ?_;refine fs (λ_=>True) (.range 4) [4,5,6,7] 0 ?_;refine gi λK a=>?_;go_simp;refine a _ _ (c0 (Keeps.refl _ _)) ?_;clear a K;refine gi λK a=>?_;go_simp;refine a _ _ (c0 (Keeps.refl _ _)) ?_;clear a K;refine gi λK a=>?_;go_simp;refine a _ _ (c0 (Keeps.refl _ _)) ?_;clear a K;refine kv λK a=>?_;go_simp;refine(tD al 0 U rfl _ ys).mono ?_;rintro e ao ⟨rfl,u,M⟩;refine a _ _ (c0 (M.mono λ_ _ _=>trivial)) ?_;clear a K;refine iu ?_;have s':=M.heap (k:=D) sd (λh=>h.elim a7 a7);have W':(c.step p 0).2 1=n:=ar;generalize ZI:c.step p 0=C at *;go_wp2_with fail;refine(al.num _ u.st s' U rfl (by unfold mO;omega) ZH).mono ?_;rintro e aC ⟨rfl,Tq,vl,gf⟩;have G:aC.heap[B]?=ao.heap[B]?:=gf.block B (bP u.bc) (λh=>h.elim u.ne a7);have R:=QP al W' u Tq G;have Z6:=aS vl;have cU:=bb (G.trans u.bc) (ft C.2 (o:=1) U);have dd:=bI (G.trans u.bc);have TS:Keeps (λb=>b=B) aC (aC.setCell (ad B 1 ab) (aP (IntKind.u32.wrap (c.aI C.1 n).2))):=Keeps.setCell (S:=λb=>b=B) (Keeps.refl _ _) (p:=ad B 1 ab) rfl _;have W:=cL (cL (cL (S:=lL c B) (a'.mono λ_ _ x=>x.elim) ((Keeps.refl _ bk).drew.trans M) (λ_ _ x=>x)) gf (λj L P=>P.elim Or.inl a7)) TS (λj L P=>Or.inr P);go_wp2_with fail;clear TS;rw[wrap_u32]at W R;generalize aC.setCell (ad B 1 ab) (aP ((c.aI C.1 n).2%4294967296))=bm at *;generalize ZJ:c.step C 1=Z4 at *;have zd:=R.drew al;clear Z6 cU dd G gf M a' vl Tq s' sd u v' ys mv ZS W' ZH ZY ar;refine cH 8 ?_;refine fs (λ_=>True) (.range 4) [4,5,6,7] 0 ?_;refine gi λK a=>?_;go_simp;refine a _ _ (c0 (Keeps.refl _ _)) ?_;clear a K;refine gi λK a=>?_;go_simp;refine a _ _ (c0 (Keeps.refl _ _)) ?_;clear a K;refine gi λK a=>?_;go_simp;refine a _ _ (c0 (Keeps.refl _ _)) ?_;clear a K;refine kv λK a=>?_;go_simp;refine(tD al 2 U rfl _ zd).mono ?_;rintro e aae ⟨rfl,zp,g'⟩;refine a _ _ (c0 (g'.mono λ_ _ _=>trivial)) ?_;clear a K;refine iu ?_;have Aw:=zp.drew al;go_wp2_with fail;refine cH 8 ?_;refine fs (λ_=>True) (.range 4) [4,5,6,7] 0 ?_;refine gi λK a=>?_;go_simp;refine a _ _ (c0 (Keeps.refl _ _)) ?_;clear a K;refine gi λK a=>?_;go_simp;refine a _ _ (c0 (Keeps.refl _ _)) ?_;clear a K;refine gi λK a=>?_;go_simp;refine a _ _ (c0 (Keeps.refl _ _)) ?_;clear a K;refine kv λK a=>?_;go_simp;refine(tD al 3 U rfl _ Aw).mono ?_;rintro e Z5 ⟨rfl,T,hd⟩;refine a _ _ (c0 (hd.mono λ_ _ _=>trivial)) ?_;clear a K;refine iu ?_;have St:=(W.drew.trans g').drew.trans hd;clear g' hd W Aw zp zd R;have z:c.step (c.step Z4 2) 3=c.steps p HE:=by subst ZJ;subst ZI;rfl
 rw[z]at T;clear z ZI ZJ;have m':=af (show Fs c w Z5 B k p 0 from⟨T,St⟩);clear T St;generalize (c.aI C.1 n).2%4294967296=aaj at *;generalize (c.aI C.1 n).2=z2 at *;go_wp2_with fail;go_loopw [5,46] (λ_ i wr=>∃ j:J,j<=2/\i=I j/\Hid (Fs c w wr B k p j)) (λ_ i _=>2-(intOf i).toNat)
 case atStart=>exact⟨0,U,rfl,m'⟩
 obtain⟨j,L,rfl,aT⟩:=hrel;obtain⟨f,rfl⟩:∃ f:ai,f=wr:=⟨_,rfl⟩;clear m';by_cases V':(j:aa)<2
 .have X:aA 367 #[c.val,.pointer (some (ad B (4+10*j) ab))] f λe w'=>e=aV #[]/\Fr c w' B (c.steps (c.steps p (k9 j)) (q3 (4+10*j) 6)) (k+37+10*(2-(j+1)))/\Keeps (lL c B) f w':=by
   have q:=aT.out.fr;rw[show k+37+10*(2-j)=(k+37+10*(2-(j+1)))+10 by omega]at q;obtain rfl|rfl:j=0\/j=1:=U
   .exact GZ al 4 U rfl rfl rfl rfl bq _ q
   exact GZ al 14 U rfl rfl rfl rfl bq _ q
  rw[<-XP]at X;rw[show 4+10*j=4+j*10 by omega]at X;go_wp2_with fail;refine X.mono ?_;rintro e aaf ⟨rfl,ZV,ZZ⟩;go_wp2_with fail;go_roundw
  case rel=>exact⟨j+1,U,by go_num,⟨ZV,aT.out.keeps.trans ZZ⟩⟩
  simp[intOf];omega
 obtain rfl:j=2:=U;have q:=aT.out.fr;have a:=aT.out.keeps;clear aT;have Z7:=bP q.bc;have G:=al.there q.st;have lb:Keeps aI f (f.alloc (ae #[I 0] 3)):=(Keeps.refl _ f).alloc _;have V:=q.keeps al lb id id;generalize Z0:c.steps p (k9 2)=d at *;have ps:=af (show EK c w (f.alloc (ae #[I 0] 3)) B f.heap.size k d 0 from⟨V,aX f _,U,U,a.size,a.trans (lb.mono λ_ _ x=>x.elim)⟩);have T':=Cp d.2 B _ _ V.bc;clear q a lb V;go_wp2_with (refine dp T' rfl rfl rfl ?_);generalize f.alloc (ae #[I 0] 3)=aag at *;generalize aaa:f.heap.size=N at *;go_loopw [7,8,61] (λ_ _ i wr=>∃ j:J,j<=6/\i=I j/\Hid (EK c w wr B N k d j)) (λ_ _ i _=>6-(intOf i).toNat)
 case atStart=>exact⟨0,U,rfl,ps⟩
 obtain⟨j,L,rfl,aT⟩:=hrel;obtain⟨A,rfl⟩:∃ A:ai,A=wr:=⟨_,rfl⟩;clear ps T';by_cases V':(j:aa)<6
 .have Q':=Co d.2 j U;have aj:=aT.out.bit;unfold pe at Q';by_cases r:k6 d.2 j
  .have z:=Xj d.2 j r;go_wp2_with fail;go_roundw
   case rel=>
    have⟨h1,h2,g,l,s,m⟩:=aT.out;exact⟨j+1,U,by go_num,⟨h1.keeps al ((ba A).alloc _) id id,by rw[show gb d.2 (j+1)=gb d.2 j by simp[gb,r]];exact cm h2 _,g,l,s,m.alloc _⟩⟩
   simp[intOf];omega
  have z:=Xl d.2 j r;go_wp2_with fail;generalize l':A.alloc _=t;have Y:t.heap[N]?=some (ae #[I (gb d.2 j:J)] 3 (0,0)):=l'▸cm aj _;have O:Keeps aI A t:=l'▸(Keeps.refl _ A).alloc _;have mv:=aS Y;have aai:=bI Y;clear Q' z l';refine iR 4 aH aH ?_;simp only[hV,iy,hU,hI]
  repeat (go_big_quiet_step ((fail)))
  refine wpQuiet_nil ?_;intro _ ZQ;have⟨nq,ZR⟩:=ZQ;subst ZR;rw[Uj d.2 j U r];generalize wrap64 (2 ^ j)=aah;go_wp2_with fail;go_roundw
  case rel=>
   obtain⟨h1,h2,g,l,s,m⟩:=aT.out;have H:Keeps (λb=>b=N) A ((t.drewN nq).setCell (ad N 0 ab) (I (gb d.2 (j+1):J))):=Keeps.setCell (S:=λb=>b=N) ((O.drewN nq).mono λ_ _ x=>x.elim) (p:=ad N 0 ab) rfl _;exact⟨j+1,U,by go_num,⟨h1.keeps al H (λe=>g e.symm) (λe=>l e.symm),by have:=bV (w:=t.drewN nq) Y 0 (I (gb d.2 (j+1):J));simpa using this,g,l,s,cL m H a7⟩⟩
  simp[intOf];omega
 obtain rfl:j=6:=U;have ZT:=aT.out;clear aT;obtain⟨h1,h2,g,l,s,m⟩:=ZT;have ZW:=vw d.2 6;have ZG:=al.num (n:=(gb d.2 6:J)) (o:=0) _ h1.st h2 g rfl (by unfold mO;omega) (al.okB _ U);generalize ZX:(gb d.2 6:aa)=F at *;go_wp2_with fail;refine ZG.mono ?_;rintro e t ⟨rfl,g1,g2,Q⟩;have O:Keeps (lL c B) w t:=cL m Q (λx P e=>e.elim Or.inl a7);have CW:Fr c t B ((c.aI d.1 F).1,d.2) (k+36):=⟨g1,(Q.block B (bP h1.bc) (λe=>e.elim h1.ne (λe=>l e.symm))).trans h1.bc,h1.ne,h1.fit⟩;have r':=af (show Fk c w t B N k (c.aI d.1 F).2 ((c.aI d.1 F).1,d.2) 0 from⟨CW,g2,g,l,O⟩);clear h1 h2 g l m s ZW ZG g1 g2 Q O CW;generalize Z2:(c.aI d.1 F).2=y at *;generalize Z1:((c.aI d.1 F).1,d.2)=E at *;go_wp2_with fail;go_loopw [9,75] (λ_ i wr=>∃ j:J,j<=6/\i=I j/\Hid (Fk c w wr B N k y E j)) (λ_ i _=>6-(intOf i).toNat)
 case atStart=>exact⟨0,U,rfl,r'⟩
 obtain⟨j,L,rfl,aT⟩:=hrel;obtain⟨f,rfl⟩:∃ f:ai,f=wr:=⟨_,rfl⟩;clear r';by_cases V':(j:aa)<6
 .have mv:=aS aT.out.bit;by_cases r:bits .and .i64 (y / 2 ^ j) 1=1
  .have Z3:(bits .and .i64 (y / 2 ^ j) 1 == 1)=true:=by rw[nH];exact r
   have q:=aT.out.fr;rw[show k+6*(6-j)=(k+6*(6-(j+1)))+6 by omega]at q;obtain⟨ZK,ZL,ZM,ZN,ZO,ZP⟩:=Xn j U;have an:=QQ al (24+6*j) U ZK ZL ZM ZN ZO ZP _ q;rw[show c.steps (lf c y E j) (sn (24+6*j))=lf c y E (j+1)by simp[lf,r],show 24+6*j=24+j*6 by omega]at an;clear q ZK ZL ZM ZN ZO ZP r;go_wp2_with fail;refine an.mono ?_;rintro e aad ⟨rfl,ZU,H⟩;go_wp2_with fail;go_roundw
   case rel=>
    have⟨h1,h2,g,l,m⟩:=aT.out;exact⟨j+1,U,by go_num,⟨ZU,H.heap h2 (λe=>e.elim g l),g,l,m.trans H⟩⟩
   simp[intOf];omega
  have Z3:(bits .and .i64 (y / 2 ^ j) 1 == 1)=false:=by rw[eu];exact r
  have z:lf c y E (j+1)=lf c y E j:=by simp[lf,r]
  clear r;go_wp2_with fail;go_roundw
  case rel=>
   have⟨h1,h2,g,l,m⟩:=aT.out;have s:Fr c f B (lf c y E j) ((k+6*(6-(j+1)))+6):=by rw[show(k+6*(6-(j+1)))+6=k+6*(6-j)by omega];exact h1
   exact⟨j+1,U,by go_num,⟨by rw[z];exact⟨al.less s.st,s.bc,s.ne,s.fit⟩,h2,g,l,m⟩⟩
  simp[intOf];omega
 obtain rfl:j=6:=U;obtain⟨h1,h2,g,l,m⟩:=aT.out;clear aT;go_wp2;refine qk (v:=aV #[]) jj rfl ?_;subst Z1;subst Z2;subst ZX;subst Z0;exact⟨rfl,h1,m⟩
def sH(r:J):e' (ah aR) where
 T:=482
 r:=r
 tz:=424
 tA:=425
 St S k w:=ta w r S/\S.length+10*k<=9223372036854775807
 aI S n:=(S++num n.toNat,n)
 si S n:=(S++num (fC n),n)
 p3 n:=0<=n
def T4(r:J)(w:ai):(nilAhead 647 482 r "promptbook/freeze.number").run prog w=.ok (some false) w:=aH
def T5(r:J)(w:ai):(nilAhead 647 482 r "promptbook/freeze.signed").run prog w=.ok (some false) w:=aH
def Tr(r:J)(w:ai):(method 647 482 r "promptbook/freeze.number").run prog w=.ok (424,.pointer (some (ad r 0 ab))) w:=aH
def Ts(r:J)(w:ai):(method 647 482 r "promptbook/freeze.signed").run prog w=.ok (425,.pointer (some (ad r 0 ab))) w:=aH
def P3(x y:ax)(w:ai):(callFunc 424 #[x,y]).run prog w=.ok (.enter 424 #[x,y]) w:=aH
def P4(x y:ax)(w:ai):(callFunc 425 #[x,y]).run prog w=.ok (.enter 425 #[x,y]) w:=aH
def Za(r:J):(sH r).oP where
 Ap:=T4 r
 Fu:=T5 r
 lI:=Tr r
 cH:=Ts r
 xT:=P3
 Gw:=P4
 keeps h hk i:=⟨hk.heap h.1 i,h.2⟩
 less h:=⟨h.1,by have:=h.2;omega⟩
 there h:=bP h.1
 num:=by
  intro S k B o cs t n w h e hne al a g;obtain⟨m,rfl⟩:=l2 g;have a:-9223372036854775808<=(m:aa)/\(m:aa)<=9223372036854775807:=a;have f:=n' m qy;have h2:=h.2;refine aU (Zb r B o S cs t m h.1 e hne al U U) ?_;rintro w' ⟨b,c,d⟩;refine⟨rfl,⟨b,?_⟩,?_,d.mono λ_ _=>Or.inl⟩
  .show(S++num _).length+_<=_;rw[cx];simp only[rq];omega
  show w'.heap[B]?=some (ae (cs.setIfInBounds o (I (m:aa))) t (0,0));rw[J6 al];exact c
 Kb:=by
  intro S k B o cs t n w h e hne al a;have a:-2147483648<=n/\n<=2147483647:=a;have f:=n' (fC n) (by unfold fB fC;split<;>omega);have h2:=h.2;refine aU (Zc r B o S cs t n h.1 e hne al a U) ?_;rintro w' ⟨b,c,d⟩;refine⟨rfl,⟨b,?_⟩,?_,d.mono λ_ _=>Or.inl⟩
  .show(S++num _).length+_<=_;rw[cx];omega
  show w'.heap[B]?=some (ae (cs.setIfInBounds o (ag n)) t (0,0));rw[J6 al];exact c
 GL _ _ h:=h
 ok _ _ _ h:=h
 okB _ h:=h
 okW _ n _ _:=by
  show 0<=IntKind.u32.wrap _;rw[wrap_u32];omega
 GM _ _ h:=h
def uA(v:J->aa)(o:J):ah aR:=if dt o=.i32 then num (fC (v o))else num (v o).toNat
def bW(v:J->aa)(l:ah J):ah aR:=l.flatMap (uA v)
def re(v:J->aa):J->ah aR
 | 0=>[]
 | j+1=>re v j++if k6 v j then []else bW v (sn (24+6*j))
def mr(v:J->aa):ah aR:=bW v (k9 2)++num (gb v 6)++re v 6
def CZ(v:J->aa)(o:J):bF v o (v o)=v:=by
 funext j
 unfold bF;split<;>simp_all
def Ze(r:J)(S:ah aR)(v:J->aa)(aW:0<=v 1/\v 1<=4294967295)(o:J):(sH r).step (S,v) o=(S++uA v o,v):=by
 unfold e'.step uA;split
 .rename_i h;rw[aD h];show((S++num (fC (v o))),bF v o (v o))=_;rw[CZ]
 .rename_i h;have a:o=1:=by
   unfold dt at h;split at h
   .assumption
   split at h<;>(try cases h);split at h<;>split at h<;>cases h
  subst a;rw[az (by rw[h];decide)];show((S++num (v 1).toNat),bF v 1 (IntKind.u32.wrap (v 1)))=_;rw[show IntKind.u32.wrap (v 1)=v 1 by rw[wrap_u32];omega,CZ]
 rename_i h1 h2;rw[az h1];show((S++num (v o).toNat),bF v o (v o))=_;rw[CZ]
theorem Dh(r:J)(v:J->aa)(aW:0<=v 1/\v 1<=4294967295):∀ (l:ah J) (S:ah aR),(sH r).steps (S,v) l=(S++bW v l,v)
 | [],S=>by simp[e'.steps,bW]
 | o :: l,S=>by
  have h:=Dh r v aW l (S++uA v o);unfold e'.steps at h⊢;rw[oC,Ze r S v aW o,h];simp[bW]
def tp(v:J->aa)(i m:J):∃ x,(if k6 v i then 0 else m)=x*m/\((x=0/\k6 v i)\/(x=1/\¬ k6 v i)):=by
 by_cases h:k6 v i
 .exact⟨0,by simp[h],.inl ⟨rfl,h⟩⟩
 exact⟨1,by simp[h],.inr ⟨rfl,h⟩⟩
def OL(v:J->aa)(j:J)(h:j<6):gb v 6 / 2 ^ j%2=1↔¬ k6 v j:=by
 have⟨a,i,p⟩:=tp v 0 1;have⟨b,k,q⟩:=tp v 1 2;have⟨c,l,r⟩:=tp v 2 4;have⟨d,m,s⟩:=tp v 3 8;have⟨f,n,t⟩:=tp v 4 16;have⟨g,o,u⟩:=tp v 5 32;have av:gb v 6=(0+a*1+b*2+c*4+d*8+f*16+g*32):=by
  rw[<-i,<-k,<-l,<-m,<-n,<-o];rfl
 rw[av];clear av;have cb:a<=1:=U;have bO:b<=1:=U;have w:c<=1:=U
 match j,h with
 | 0,_=>
  rw[show(0+a*1+b*2+c*4+d*8+f*16+g*32) / 2 ^ 0%2=a by omega];exact p.elim (λh=>⟨λe=>U,λe=>absurd h.2 e⟩) λh=>⟨λ_=>h.2,λ_=>h.1⟩
 | 1,_=>
  rw[show(0+a*1+b*2+c*4+d*8+f*16+g*32) / 2 ^ 1%2=b by omega];exact q.elim (λh=>⟨λe=>U,λe=>absurd h.2 e⟩) λh=>⟨λ_=>h.2,λ_=>h.1⟩
 | 2,_=>
  rw[show(0+a*1+b*2+c*4+d*8+f*16+g*32) / 2 ^ 2%2=c by omega];exact r.elim (λh=>⟨λe=>U,λe=>absurd h.2 e⟩) λh=>⟨λ_=>h.2,λ_=>h.1⟩
 | 3,_=>
  rw[show(0+a*1+b*2+c*4+d*8+f*16+g*32) / 2 ^ 3%2=d by omega];exact s.elim (λh=>⟨λe=>U,λe=>absurd h.2 e⟩) λh=>⟨λ_=>h.2,λ_=>h.1⟩
 | 4,_=>
  rw[show(0+a*1+b*2+c*4+d*8+f*16+g*32) / 2 ^ 4%2=f by omega];exact t.elim (λh=>⟨λe=>U,λe=>absurd h.2 e⟩) λh=>⟨λ_=>h.2,λ_=>h.1⟩
 | 5,_=>
  rw[show(0+a*1+b*2+c*4+d*8+f*16+g*32) / 2 ^ 5%2=g by omega];exact u.elim (λh=>⟨λe=>U,λe=>absurd h.2 e⟩) λh=>⟨λ_=>h.2,λ_=>h.1⟩
def Om:∀ j:Fin 6,∀ b:Fin 64,(bits .and .i64 ((b.val:aa) / 2 ^ j.val) 1=1)↔b.val / 2 ^ j.val%2=1:=by decide +kernel
def Fx(v:J->aa)(j:J)(h:j<6):bits .and .i64 ((gb v 6:J) / 2 ^ j) 1=1↔¬ k6 v j:=by
 rw[<-OL v j h];exact Om ⟨j,h⟩ ⟨gb v 6,vw v 6⟩
theorem Lj(r:J)(v:J->aa)(aW:0<=v 1/\v 1<=4294967295)(S:ah aR):∀ j,j<=6->lf (sH r) (gb v 6:J) (S,v) j=(S++re v j,v)
 | 0,_=>by simp[lf,re]
 | j+1,h=>by
  unfold lf re;rw[Lj r v aW S j U];by_cases a:k6 v j
  .rw[az (λe=>(Fx v j U).1 e a),aD a,e4]
  rw[aD ((Fx v j U).2 a),az a,Dh r v aW,dD]
def Zd(r:J)(v:J->aa)(aW:0<=v 1/\v 1<=4294967295):CI (sH r) ([],v)=(mr v,v):=by
 unfold CI;rw[Dh r v aW];show lf (sH r) (gb v 6:J) (([]++bW v (k9 2))++num (Int.toNat (gb v 6:J)),v) 6=_;rw[Lj r v aW _ 6 U,rq];rfl
def tk(v:J->aa):ak:=∀ j,j<60->mO (dt j) (v j)
theorem Wg(v:J->aa)(B:J)(w:ai)(t:TypeId)(a:w.heap[B]?=some (ae (bn v) t (0,0))):(Instr.loadAt 99 B).run prog w=.ok (.agg (bn v)) w:=
 gz 99 60 B 0 (bn v) (bn v) t isAgg99 sizeOf99 (eg v) a (λj x z=>jZ)
def n2{n a b:aa}(h:gP n a b=true)(bd:0<=a):0<=n:=by
 simp[gP]at h;omega
def I3{v:J->aa}{o:J}(h:na v o=true)(j:J)(h1:4<=j)(h2:j<10):0<=v (o+j):=by
 simp only[na,sa,d']at h;obtain⟨a,b,c,d,e,f,_⟩:=h;obtain rfl|rfl|rfl|rfl|rfl|rfl:j=4\/j=5\/j=6\/j=7\/j=8\/j=9:=U
 .exact n2 a U
 .exact n2 b U
 .exact n2 c U
 .exact n2 d U
 .exact n2 e U
 exact n2 f U
def Xm{v:J->aa}{j:J}(h:pf v 6=true)(a:j<6):pd v j=true:=by
 cases av:pd v j with
 | true=>rfl
 | false=>rw[Kh av a]at h;cases h
def Xk{v:J->aa}{j:J}(h:pd v j=true)(k:J)(h1:28<=k)(h2:k<30):0<=v (k+6*j):=by
 simp only[pd,uv,vT,uH,d',fZ]at h;obtain rfl|rfl:k=28\/k=29:=U
 .rcases h with h|h
  .omega
  exact n2 h.1 U
 rcases h with h|h
 .omega
 exact n2 h.2.1 U
def Vw{v:J->aa}(l:tk v)(h:k' v=true)(j:J)(m:j<60)(hk:dt j≠.i32):0<=v j:=by
 simp only[k',d']at h;have⟨a,b,c,d,f,g⟩:=h;by_cases h1:j<4
 .obtain rfl|rfl|rfl|rfl:j=0\/j=1\/j=2\/j=3:=U
  .exact n2 d U
  .exact(l 1 U).1
  .exact n2 f U
  exact n2 g U
 by_cases h2:j<24
 .have k:4<=(j-4)%10:=by
   by_cases e:(j-4)%10<4
   .exact absurd (by unfold dt;rw[az U,az h1,aD h2,aD e]) hk
   omega
  rcases (show j-4<10\/10<=j-4 by omega)with i|i
  .have:=I3 b (j-4) U U
   rwa [show 4+(j-4)=j by omega]at this
  have:=I3 c (j-14) U U
  rwa [show 14+(j-14)=j by omega]at this
 have k:4<=(j-24)%6:=by
  by_cases e:(j-24)%6<4
  .exact absurd (by unfold dt;rw[az U,az h1,az h2,aD e]) hk
  omega
 have:=Xk (Xm (j:=(j-24) / 6) a U) (24+(j-24)%6) U U
 rwa [show 24+(j-24)%6+6*((j-24) / 6)=j by omega]at this
def Q7(v:J->aa)(aW:tk v)(w:ai):aA 329 #[.agg (bn v)] w λe w'=>
  e=aV #[.string (if k' v then⟨(mr v).toArray⟩else ByteArray.empty),I (if k' v then 0 else 1)]/\Below w w w':=by
 have f:=aX w (ae (bn v) 99);have aj:=(b3 w.heap.size w).alloc bs (ae (bn v) 99);have l:=Wg v w.heap.size _ _ f;have b:=λW=>Hr v W;cases d:k' v
 .rw[d]at b
  go_in
  go_wp2_with (refine dp l rfl rfl rfl ?_);refine aU (b _) λao c=>?_;have n:=aj.trans (c.mono aj.size);go_wp2_with fail;go_ret2;exact⟨rfl,n⟩
 rw[d]at b
 go_in
 go_wp2_with (refine dp l rfl rfl rfl ?_);refine aU (b _) λao c=>?_;have g:=(Keeps.bD (S:=aI) c a7).heap f id;have p:=bP g
 have m:Fr (sH ao.heap.size) (ao.alloc (ae #[.string ⟨#[]⟩] 484)) w.heap.size ([],v) (0+61):=
  ⟨⟨aX ao (ae #[.string ⟨#[]⟩] 484),by show 0+10*(0+61)<=_;omega⟩,cm g _,by show w.heap.size≠ao.heap.size;omega,λj i=>⟨aW j i,λhk=>(Vw aW) d j i hk⟩⟩
 go_wp2_with fail;refine aU (QR (Za ao.heap.size) _ m) ?_;rintro aC ⟨h,hk⟩;rw[Zd _ v ((aW 1 U))]at h;have q:=aS h.st.1;have o:=((aj.trans (c.mono aj.size)).alloc U _).trans (hk.below (B:=w.heap.size) bT (λk hk a=>by simp only[lL]at a;rcases a with a|a;(· have:k=ao.heap.size:=a;omega);(· omega)));go_wp2_with fail;go_ret2;exact⟨rfl,o⟩
end Go.Proofs.YtalagblioepadaaGreatDoor
