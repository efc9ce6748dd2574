/- The proof, part 21. -/
import Derived.Test.YtalagblioepadaaGreatDoorZd18
import Derived.Test.YtalagblioepadaaGreatDoorZd12
namespace Go.Proofs.YtalagblioepadaaGreatDoor
set_option linter.all false
open Proofs.Tryz List Go.RowKit
set_option maxRecDepth 100000
set_option maxHeartbeats 4000000
def th{p:al}(h:p:=by first|(cases d<;>exact h)|cases h.1):p:=h
def gF{p:al}(h:p:=by simp only[du,hr];first|rfl|simp[go_sem]):p:=h
def te{p:al}(h:p:=by
 go_wp2_with fail;refine pF aI aI ?_
 repeat (go_big_quiet_step (first|(go_at_call 345;first|(with_reducible exact Calls.jU (h1 _))|(with_reducible exact Calls.jU (h2 _))|(with_reducible exact Calls.jU (d _))|(with_reducible exact Calls.jU (g _))|(with_reducible exact Calls.jU (i _))|(with_reducible exact Calls.jU (j _)))|(go_at_call 359;exact Calls.kB (BR _))|(go_at_call 353;exact Calls.kB (l _))))
 refine wpQuiet_nil ?_;intro _ a;obtain⟨c,b⟩:=a;subst b;go_wp2_with fail;go_ret;exact⟨by first|rfl|simp_all,(((b7 _ w).alloc bx _).trans (c.below.mono aM))⟩
 ):p:=h
def xv{p:al}(h:p:=by
 go_wp2_with fail;refine pF aI aI ?_
 repeat (go_big_quiet_step (first|(go_at_call 345;first|(with_reducible exact Calls.jU (h1 _))|(with_reducible exact Calls.jU (h2 _)))|(go_at_call 354;exact Calls.kB (BQ _))|(go_at_call 353;exact Calls.kB (b _))))
 refine wpQuiet_nil ?_;intro _ c;obtain⟨f,d⟩:=c;subst d;go_wp2_with fail;go_ret;exact⟨by first|rfl|simp_all,(((b7 _ w).alloc bx _).trans (f.below.mono aM))⟩
 ):p:=h
def Oq{p:al}(h:p:=by
 go_simp;by_cases h1:a=0<;>by_cases h2:b=0<;>by_cases g:c=0<;>by_cases i:d=0<;>by_cases j:e=0<;>by_cases k:f=0<;>simp[h1,h2,g,i,j,k]
 ):p:=h
def OL{p:al}(h:p:=by
 go_wp2_with fail;refine(RO n h w).mono ?_;rintro e w' ⟨rfl,rfl⟩;go_wp2;go_ret;exact⟨rfl,rfl⟩
 ):p:=h
def MG{p:al}(h:p:=by
 go_wp2;go_ret;exact⟨by rw[show decide (a<=n)=false by simpa using h1];simp,rfl⟩
 ):p:=h
def xo{p:al}(h:p:=by
 go_wp2;go_ret;exact⟨rfl,((b7 _ w).alloc bx _).alloc aM _⟩
 ):p:=h
def xp{p:al}(h:p:=by
 go_wp2_with fail;go_ret;exact⟨by rw[r.o];first|rfl|simp,A⟩
 ):p:=h
def EJ{p:al}(h:p:=by
 go_wp2;go_ret;exact⟨by simp[h1,h2],rfl⟩
 ):p:=h
def pz(v:J->aa)(j:J):a7 ay:=#[ai (v (24+6*j)),ai (v (25+6*j)),ai (v (26+6*j)),ai (v (27+6*j)),I (v (28+6*j)),I (v (29+6*j))]
def ln(v:J->aa)(j:J):al:=v (24+6*j)=0/\v (25+6*j)=0/\v (26+6*j)=0/\v (27+6*j)=0/\v (28+6*j)=0/\v (29+6*j)=0
instance (v:J->aa)(j:J):Decidable (ln v j):=by unfold ln;infer_instance
def nG(v:J->aa):a7 ay:=((range 36).map λj=>Value.int (dA (24+j)) (v (24+j))).toArray
def WT(v:J->aa)(w:aj):(Instr.index 97 (.agg (nG v)) (I 0)).run prog w=.ok (.agg (pz v 0)) w:=aI
def WU(v:J->aa)(w:aj):(Instr.index 97 (.agg (nG v)) (I 1)).run prog w=.ok (.agg (pz v 1)) w:=aI
def WV(v:J->aa)(w:aj):(Instr.index 97 (.agg (nG v)) (I 2)).run prog w=.ok (.agg (pz v 2)) w:=aI
def WW(v:J->aa)(w:aj):(Instr.index 97 (.agg (nG v)) (I 3)).run prog w=.ok (.agg (pz v 3)) w:=aI
def WX(v:J->aa)(w:aj):(Instr.index 97 (.agg (nG v)) (I 4)).run prog w=.ok (.agg (pz v 4)) w:=aI
def WY(v:J->aa)(w:aj):(Instr.index 97 (.agg (nG v)) (I 5)).run prog w=.ok (.agg (pz v 5)) w:=aI
def CU(v:J->aa)(j:J)(h:j<6)(w:aj):(Instr.index 97 (.agg (nG v)) (I (j:J))).run prog w=.ok (.agg (pz v j)) w:=by
 match j,h with
 | 0,_=>exact WT v w
 | 1,_=>exact WU v w
 | 2,_=>exact WV v w
 | 3,_=>exact WW v w
 | 4,_=>exact WX v w
 | 5,_=>exact WY v w
def CV(v:J->aa)(B:J)(w:aj)(t:TypeId)(b:w.heap[B]?=some (af (br v) t (0,0))):(Instr.loadAt 97 (.pointer (some (ae B 24 ad)))).run prog w=.ok (.agg (nG v)) w:=by
 refine gd 97 36 B 24 (nG v) (br v) t isAgg97 sizeOf97 (by simp[nG]) b ?_;intro j x a;have h:j<36:=by
  have:=(jv.1 a).1
  simpa[nG]using this
 rw[fD _ U];simpa[nG,h]using a
def Dz(a b:aa)(w:aj):(Op.equalIn 9999 91 (aL #[ai a,ai b]) (aL c_)).run prog w=.ok (decide (a=0)&&decide (b=0)) w:=by
 have c:prog.underlying 91=some (.struct (prog.fieldsOf 91)):=aI;have d:prog.stoodInHeld 91=false:=aI;rw[show(9999:J)=9998+1 from rfl,D5 w 9998 91 _ _ c d];simp only[Program.fieldsOf,underlying91];go_simp;by_cases h1:a=0<;>by_cases h2:b=0<;>simp[h1,h2]
def KT(a b c d e f:aa)(w:aj):(binOp .neq 96 (aL #[ai a,ai b,ai c,ai d,I e,I f]) (aL #[ai 0,ai 0,ai 0,ai 0,I 0,I 0])).run prog w=.ok (.bool (decide ¬ (a=0/\b=0/\c=0/\d=0/\e=0/\f=0))) w:=by
 have ar:prog.underlying 96=some (.struct (prog.fieldsOf 96)):=aI;have au:prog.stoodInHeld 96=false:=aI;rw[run_neq_struct,show(10000:J)=9999+1 from rfl,D5 w 9999 96 _ _ ar au];simp only[Program.fieldsOf,underlying96];exact Oq
def X2(v:J->aa)(j:J)(h:ln v j)(w:aj):(binOp .neq 96 (aL #[ai (v (24+6*j)),ai (v (25+6*j)),ai (v (26+6*j)),ai (v (27+6*j)),I (v (28+6*j)),I (v (29+6*j))]) (aL #[ai 0,ai 0,ai 0,ai 0,I 0,I 0])).run prog w=.ok (.bool false) w:=by
 rw[KT]
 congr 2
 exact di (vf h)
def X4(v:J->aa)(j:J)(h:¬ ln v j)(w:aj):(binOp .neq 96 (aL #[ai (v (24+6*j)),ai (v (25+6*j)),ai (v (26+6*j)),ai (v (27+6*j)),I (v (28+6*j)),I (v (29+6*j))]) (aL #[ai 0,ai 0,ai 0,ai 0,I 0,I 0])).run prog w=.ok (.bool true) w:=by
 rw[KT]
 congr 2
 exact ei h
variable{w:aj}
def oq(n a b:aa)(w:aj):aA 345 #[I n,I a,I b] w λe w'=>e=.returned (.bool (decide (a<=n)&&decide (n<=b)))/\w=w':=by
 by_cases h1:a<=n
 .by_cases h2:n<=b
  .go_in
   exact EJ
  go_in
  go_wp2;go_ret;exact⟨by simp[h2],rfl⟩
 go_in
 exact MG
def iV(a b c d x y:aa):a1:=decide (a<=x)&&decide (x<=c)&&decide (b<=y)&&decide (y<=d)
def C7(a b c d x y:aa)(w:aj):aA 353 #[aL #[ai a,ai b,ai c,ai d],aL #[ai x,ai y]] w λe w'=>e=.returned (.bool (iV a b c d x y))/\Below w w w':=by
 by_cases h1:a<=x
 .by_cases h2:x<=c
  .by_cases f:b<=y
   .by_cases g:y<=d
    .rw[show iV a b c d x y=true by simp[iV,h1,h2,f,g]]
     go_in
     exact xo
    rw[show iV a b c d x y=false by simp[iV,g]]
    go_in
    exact xo
   rw[show iV a b c d x y=false by simp[iV,f]]
   go_in
   exact xo
  rw[show iV a b c d x y=false by simp[iV,h2]]
  go_in
  exact xo
 rw[show iV a b c d x y=false by simp[iV,h1]]
 go_in
 exact xo
def BQ(w:aj):aA 354 #[] w λe w'=>e=.returned (aL #[ai (-4194304),ai (-4194304),ai 4194304,ai 4194304])/\Below w w w':=by
 have a:=dF _ _ _ _ (aX w (af #[ai (-4194304),ai (-4194304),ai 4194304,ai 4194304] 214)) 4 rfl
 go_in
 go_wp2;refine c1 (v:=aL #[ai (-4194304),ai (-4194304),ai 4194304,ai 4194304]) (by simp[results,results354,asAddr,loadVar,loadCells,isAgg214,sizeOf214,a]) rfl ?_;exact⟨rfl,(b7 _ w).alloc bx _⟩
def RQ(n:aa)(h:-2147483648<=n/\n<=2147483647)(w:aj):aA 282 #[I n,I (-2147483648),I 2147483647] w λe w'=>e=.returned (I n)/\w=w':=by
 have a:min n 2147483647=n:=U
 go_in
 go_wp2
 all_goals go_ret
 all_goals exact⟨by first|rfl|(rw[show n=-2147483648 by omega];rfl),rfl⟩
def RO(n:aa)(h:-2147483648<=n/\n<=2147483647)(w:aj):aA 214 #[I n] w λe w'=>e=.returned (ai n)/\w=w':=by
 have a:IntKind.i32.wrap n=n:=by rw[IntKind.wrap_i32];omega
 go_in
 go_wp2_with fail;refine(RQ n h w).mono ?_;rintro e w' ⟨rfl,rfl⟩;go_wp2;go_ret;exact⟨rfl,rfl⟩
def RN(a b n:aa)(bh:-2147483648<=a/\a<=2147483647)(ak:-2147483648<=b/\b<=2147483647)(h:-2147483648<=n/\n<=2147483647)(av:a+b=n)(w:aj):aA 278 #[ai a,ai b] w λe w'=>e=.returned (ai n)/\w=w':=by
 have c:IntKind.i64.wrap a=a:=eG _ U;have d:IntKind.i64.wrap b=b:=eG _ U;have f:IntKind.i64.wrap (a+b)=n:=by rw[eG _ U,av]
 go_in
 exact OL
def RP(a b n:aa)(bh:-2147483648<=a/\a<=2147483647)(ak:-2147483648<=b/\b<=2147483647)(h:-2147483648<=n/\n<=2147483647)(av:a-b=n)(w:aj):aA 281 #[ai a,ai b] w λe w'=>e=.returned (ai n)/\w=w':=by
 have c:IntKind.i64.wrap a=a:=eG _ U;have d:IntKind.i64.wrap b=b:=eG _ U;have f:IntKind.i64.wrap (a-b)=n:=by rw[eG _ U,av]
 go_in
 exact OL
def XS(a d x:aa)(g:∀ w,aA 278 #[ai a,ai d] w λe w'=>e=.returned (ai x)/\w=w')(w:aj):aA 277 #[aL #[ai a,ai a],aL #[ai d,ai d],.func (.func 278) #[] #[]] w λe w'=>e=.returned (aL #[ai x,ai x])/\Below w w w':=by
 go_in
 go_wp2_with fail;refine iN 13 aI aI ?_;simp only[hY,iE,hX,hF]
 repeat (go_big_quiet_step ((exact(g _).mono λ_ _ h=>⟨h.1,_,h.2.symm⟩)))
 refine wpQuiet_nil ?_;intro _ b;obtain⟨nq,c⟩:=b;subst c;go_wp2_with fail;refine c1 (v:=aL #[ai x,ai x]) xw rfl ?_;have f:=(((b7 w.heap.size w).alloc bx (af #[ai a,ai a] 91)).alloc aM (af #[ai d,ai d] 91)).alloc b1 (af c_ 91);refine⟨rfl,mi (mi ?_ ?_ _) ?_ _⟩
 .exact xr
 all_goals show w.heap.size<=w.heap.size+1+1
 all_goals omega
def XT(a d x:aa)(g:∀ w,aA 281 #[ai a,ai d] w λe w'=>e=.returned (ai x)/\w=w')(w:aj):aA 277 #[aL #[ai a,ai a],aL #[ai d,ai d],.func (.func 281) #[] #[]] w λe w'=>e=.returned (aL #[ai x,ai x])/\Below w w w':=by
 go_in
 go_wp2_with fail;refine iN 13 aI aI ?_;simp only[hY,iE,hX,hF]
 repeat (go_big_quiet_step ((exact(g _).mono λ_ _ h=>⟨h.1,_,h.2.symm⟩)))
 refine wpQuiet_nil ?_;intro _ b;obtain⟨nq,c⟩:=b;subst c;go_wp2_with fail;refine c1 (v:=aL #[ai x,ai x]) xw rfl ?_;have f:=(((b7 w.heap.size w).alloc bx (af #[ai a,ai a] 91)).alloc aM (af #[ai d,ai d] 91)).alloc b1 (af c_ 91);refine⟨rfl,mi (mi ?_ ?_ _) ?_ _⟩
 .exact xr
 all_goals show w.heap.size<=w.heap.size+1+1
 all_goals omega
def XN(a d x:aa)(j:∀ w,aA 278 #[ai a,ai d] w λe w'=>e=.returned (ai x)/\w=w')(w:aj):aA 211 #[aL #[ai a,ai a],aL #[ai d,ai d]] w λe w'=>e=.returned (aL #[ai x,ai x])/\Below w w w':=by
 have c:=(((b7 w.heap.size w).alloc bx (af #[ai a,ai a] 91)).alloc aM (af #[ai d,ai d] 91)).alloc b1 (af c_ 91);have f:=aX ((w.alloc (af #[ai a,ai a] 91)).alloc (af #[ai d,ai d] 91)) (af c_ 91);have aV:=λW=>XS a d x j W
 go_in
 go_wp2_with fail;refine(aV _).mono ?_;rintro e ao ⟨rfl,ak⟩;have i:=c.trans (ak.mono c.size);have b:=(Keeps.bJ (S:=aG) ak a8).heap f id;have aw:((w.alloc (af #[ai a,ai a] 91)).alloc (af #[ai d,ai d] 91)).heap.size=w.heap.size+1+1:=aM;rw[aw]at b;have k:=aO b;have l:=bP b;go_wp2_with fail;have h:=b3 (b3 b 0 (ai x)) 1 (ai x);have g:=dF _ _ _ _ h 2 rfl;simp only[tc,rT,xm]at g;refine c1 (v:=aL #[ai x,ai x]) Na rfl ?_;refine⟨rfl,mi (mi i ?_ _) ?_ _⟩
 all_goals show w.heap.size<=w.heap.size+1+1
 all_goals omega
def XR(a d x:aa)(j:∀ w,aA 281 #[ai a,ai d] w λe w'=>e=.returned (ai x)/\w=w')(w:aj):aA 213 #[aL #[ai a,ai a],aL #[ai d,ai d]] w λe w'=>e=.returned (aL #[ai x,ai x])/\Below w w w':=by
 have c:=(((b7 w.heap.size w).alloc bx (af #[ai a,ai a] 91)).alloc aM (af #[ai d,ai d] 91)).alloc b1 (af c_ 91);have f:=aX ((w.alloc (af #[ai a,ai a] 91)).alloc (af #[ai d,ai d] 91)) (af c_ 91);have aV:=λW=>XT a d x j W
 go_in
 go_wp2_with fail;refine(aV _).mono ?_;rintro e ao ⟨rfl,ak⟩;have i:=c.trans (ak.mono c.size);have b:=(Keeps.bJ (S:=aG) ak a8).heap f id;have aw:((w.alloc (af #[ai a,ai a] 91)).alloc (af #[ai d,ai d] 91)).heap.size=w.heap.size+1+1:=aM;rw[aw]at b;have k:=aO b;have l:=bP b;go_wp2_with fail;have h:=b3 (b3 b 0 (ai x)) 1 (ai x);have g:=dF _ _ _ _ h 2 rfl;simp only[tc,rT,xm]at g;refine c1 (v:=aL #[ai x,ai x]) Nb rfl ?_;refine⟨rfl,mi (mi i ?_ _) ?_ _⟩
 all_goals show w.heap.size<=w.heap.size+1+1
 all_goals omega
def KQ(a b c d:aa)(h1:a<=c)(h2:b<=d)(w:aj):aA 375 #[aL #[ai a,ai b,ai c,ai d]] w λe w'=>e=.returned (.bool true)/\Below w w w':=by
 go_in
 go_wp2;go_ret;exact⟨by first|rfl|simp[h2],(b7 _ w).alloc bx _⟩
def A0{w:aj}{b:J}{t:TypeId}{bz b6 bw eC:ay}(h:w.heap[b]?=some (af #[bz,b6,bw,eC] t (0,0)))(a c v2 d:ay):((((w.setCell (ae b 0 ad) a).setCell (ae b 1 ad) c).setCell (ae b 2 ad) v2).setCell (ae b 3 ad) d).heap[b]?=some (af #[a,c,v2,d] t (0,0)):=by
 have:=b3 (b3 (b3 (b3 h 0 a) 1 c) 2 v2) 3 d
 simpa using this
theorem sr{S:J->al}{bn w:aj}{b:J}(h:Keeps S bn w)(ak:S b)(a c v2 d:ay):Keeps S bn ((((w.setCell (ae b 0 ad) a).setCell (ae b 1 ad) c).setCell (ae b 2 ad) v2).setCell (ae b 3 ad) d):=
 (((h.setCell (p:=ae b 0 ad) ak a).setCell (p:=ae b 1 ad) ak c).setCell (p:=ae b 2 ad) ak v2).setCell (p:=ae b 3 ad) ak d
def XP(w:aj):aA 369 #[aL #[ai (-4194304),ai (-4194304),ai 4194304,ai 4194304],ai 262144] w λe w'=>e=aY #[aL #[ai (-3932160),ai (-3932160),ai 3932160,ai 3932160],true]/\Below w w w':=by
 have q:=λW=>XN (-4194304) 262144 (-3932160) (λw=>RN _ _ _ bt bt bt bt w) W;have ar:=λW=>XR 4194304 262144 3932160 (λw=>RP _ _ _ bt bt bt bt w) W;have E:=λW=>KQ (-3932160) (-3932160) 3932160 3932160 bt bt W;have b':=aX w (af #[ai (-4194304),ai (-4194304),ai 4194304,ai 4194304] 214);have bR:=cw (cw b' (af eT 214)) (af #[ai 262144,ai 262144] 91);have n:=cw (aX (w.alloc (af #[ai (-4194304),ai (-4194304),ai 4194304,ai 4194304] 214)) (af eT 214)) (af #[ai 262144,ai 262144] 91);have o:=aX ((w.alloc (af #[ai (-4194304),ai (-4194304),ai 4194304,ai 4194304] 214)).alloc (af eT 214)) (af #[ai 262144,ai 262144] 91);have y:=((((bb w).alloc (af #[ai (-4194304),ai (-4194304),ai 4194304,ai 4194304] 214)).alloc (af eT 214))).alloc (af #[ai 262144,ai 262144] 91);simp only[fH]at n o
 go_in
 go_wp2_with fail;generalize ((w.alloc (af #[ai (-4194304),ai (-4194304),ai 4194304,ai 4194304] 214)).alloc (af eT 214)).alloc (af #[ai 262144,ai 262144] 91)=bn at *;have O:=jE (S:=aG) (w:=bn.drew) (bf bR (k:=0) rfl) id;have P:=jE (S:=aG) (w:=bn.drew) (bf bR (k:=1) rfl) id;have Q:=jE (S:=aG) (w:=bn.drew) (bf bR (k:=2) rfl) id;have R:=jE (S:=aG) (w:=bn.drew) (bf bR (k:=3) rfl) id;have V:=jE (S:=aG) (w:=bn.drew) (bf o (k:=0) rfl) id;have X:=jE (S:=aG) (w:=bn.drew) (bf o (k:=1) rfl) id;refine cJ 11 ?_;refine Yp (λ_=>False) [0,1,2,4,5,6] [3,7,8,9] 1 rfl #[true,true,true,true,true,true,true,true,true,true,false] #[true,true,true,false,true,true,true,false,false,false,false] aI aI (λ_ _ _ d _ h=>th) ?_;simp only[eQ,jQ,lG,hr]
 repeat (go_big_quiet_step (fail))
 refine wpQuiet_nil ?_;have a:Keeps aG bn bn.drew:=(Keeps.refl _ bn).drew;refine Dq 3 9 #[true,true,true,true,true,true,true,false,false,false,false] #[true,true,true,false,true,true,true,false,false,true,false] aI aI aI aI aI aI aI gF gF (λK c=>?_) (λK c=>?_)
 all_goals simp only[du,hr]
 rotate_left
 focus
  go_simp;have g:(bn.alloc (af eT 214)).drew.heap[bn.heap.size]?=some (af eT 214 (0,0)):=aX bn (af eT 214);have f:=((bb bn).alloc (af eT 214)).drew;refine c _ _ (mB f) ?_;have a:=f;clear f;have⟨D,s⟩:=cT bn.heap.size;have l:bn.heap.size<=D:=U;rw[<-s]at g⊢;clear s;generalize (bn.alloc (af eT 214)).drew=wn at *
  try simp only[Act.put,c8]
  refine sU 3 #[true,true,true,true,true,true,true,false,false,true,false] aI aI aI aI gF (λK c=>?_);simp only[du,hr];go_simp;refine aW (q _) λao i=>?_;have f:=(a:Keeps aG bn wn).fT i;have j:=(Keeps.bJ (S:=aG) i a8).heap g id;refine c _ _ (mB f) ?_;clear c K a i g;have a:=f;have g:=j;clear f j
  try simp only[Act.put,c8]
  refine sU 7 #[true,true,true,true,true,true,true,true,false,true,false] aI aI aI aI gF (λK c=>?_);simp only[du,hr];go_simp;refine aW (ar _) λaD i=>?_;have f:=(a:Keeps aG bn ao).fT i;have j:=(Keeps.bJ (S:=aG) i a8).heap g id;refine c _ _ (mB f) ?_;clear c K a i g;have a:=f;have g:=j;clear f j
  try simp only[Act.put,c8]
  refine sU 8 #[true,true,true,true,true,true,true,true,true,true,false] aI aI aI aI gF (λK c=>?_);simp only[du,hr];go_simp;refine c _ _ (mB a) ?_;clear c K
  try simp only[Act.put,c8]
  obtain⟨m,rfl⟩:∃ x,x=aD:=⟨_,rfl⟩
 rotate_left
 focus
  go_simp;refine aW (q _) λao i=>?_;have f:=(a:Keeps aG bn bn.drew).fT i;refine c _ _ (mB f) ?_;clear c K a i;have a:=f;clear f
  try simp only[Act.put,c8]
  refine Dq 7 9 #[true,true,true,true,true,true,true,true,false,false,false] #[true,true,true,true,true,true,true,false,false,true,false] aI aI aI aI aI aI aI gF gF (λK c=>?_) (λK c=>?_)
  all_goals simp only[du,hr]
  rotate_left
  focus
   go_simp;have g:=aX ao (af eT 214);have l:=a.size;have f:=a.alloc (af eT 214);refine c _ _ (mB f) ?_;clear c K a;have a:=f;clear f
   try simp only[show ∀ W:aj,W.drew.heap=W.heap from λ_=>rfl]at g l a⊢
   generalize (ao).alloc (af eT 214)=wn at *;generalize (ao).heap.size=D at *
   try simp only[Act.put,c8]
   refine sU 7 #[true,true,true,true,true,true,true,true,false,true,false] aI aI aI aI gF (λK c=>?_);simp only[du,hr];go_simp;refine aW (ar _) λaD i=>?_;have f:=(a:Keeps aG bn wn).fT i;have j:=(Keeps.bJ (S:=aG) i a8).heap g id;refine c _ _ (mB f) ?_;clear c K a i g;have a:=f;have g:=j;clear f j
   try simp only[Act.put,c8]
   refine sU 8 #[true,true,true,true,true,true,true,true,true,true,false] aI aI aI aI gF (λK c=>?_);simp only[du,hr];go_simp;refine c _ _ (mB a) ?_;clear c K
   try simp only[Act.put,c8]
   obtain⟨m,rfl⟩:∃ x,x=aD:=⟨_,rfl⟩
  rotate_left
  focus
   go_simp;refine aW (ar _) λaD i=>?_;have f:=(a:Keeps aG bn ao).fT i;refine c _ _ (mB f) ?_;clear c K a i;have a:=f;clear f
   try simp only[Act.put,c8]
   refine Dq 8 9 #[true,true,true,true,true,true,true,true,true,false,false] #[true,true,true,true,true,true,true,true,false,true,false] aI aI aI aI aI aI aI gF gF (λK c=>?_) (λK c=>?_)
   all_goals simp only[du,hr]
   rotate_left
   focus
    go_simp;have g:=aX aD (af eT 214);have l:=a.size;have f:=a.alloc (af eT 214);refine c _ _ (mB f) ?_;clear c K a;have a:=f;clear f
    try simp only[show ∀ W:aj,W.drew.heap=W.heap from λ_=>rfl]at g l a⊢
    generalize (aD).alloc (af eT 214)=wn at *;generalize (aD).heap.size=D at *
    try simp only[Act.put,c8]
    refine sU 8 #[true,true,true,true,true,true,true,true,true,true,false] aI aI aI aI gF (λK c=>?_);simp only[du,hr];go_simp;refine c _ _ (mB a) ?_;clear c K
    try simp only[Act.put,c8]
    obtain⟨m,rfl⟩:∃ x,x=wn:=⟨_,rfl⟩
   rotate_left
   focus
    go_simp;refine c _ _ (mB a) ?_;clear c K
    try simp only[Act.put,c8]
    refine sU 9 #[true,true,true,true,true,true,true,true,true,true,false] aI aI aI aI gF (λK c=>?_);simp only[du,hr];go_simp;have g:=aX aD (af eT 214);have l:=a.size;have f:=a.alloc (af eT 214);refine c _ _ (mB f) ?_;clear c K a;have a:=f;clear f
    try simp only[show ∀ W:aj,W.drew.heap=W.heap from λ_=>rfl]at g l a⊢
    generalize (aD).alloc (af eT 214)=wn at *;generalize (aD).heap.size=D at *
    try simp only[Act.put,c8]
    obtain⟨m,rfl⟩:∃ x,x=wn:=⟨_,rfl⟩
 all_goals
  refine Y4 aI ?_
  try simp only[Act.put,c8]
  have f0:=bP g;have g0:=aO g;refine fu (λ_=>True) [] [10] 0 ?_;refine ou (c6 (sr (Keeps.refl (λ_=>True) m) trivial _ _ _ _)) ?_;refine iI ?_;have r:=a.heap n id;have N:w.heap.size+1<bn.heap.size:=bT n;have hne:w.heap.size+1≠D:=U;have t:=A0 g (ai (-3932160)) (ai (-3932160)) (ai 3932160) (ai 3932160);have F:=(((e0 (e0 (e0 (e0 r hne _) hne _) hne _) hne _):(((((m).setCell (ae D 0 ad) (ai (-3932160))).setCell (ae D 1 ad) (ai (-3932160))).setCell (ae D 2 ad) (ai 3932160)).setCell (ae D 3 ad) (ai 3932160)).heap[w.heap.size+1]?=some (af eT 214 (0,0))));have L:=sr ((y.trans a).mono (T:=λk=>k=D) (λ_ _ x=>x.elim)) (b:=D) rfl (ai (-3932160)) (ai (-3932160)) (ai 3932160) (ai 3932160);clear g0 f0 g r a;generalize ((((m).setCell (ae D 0 ad) (ai (-3932160))).setCell (ae D 1 ad) (ai (-3932160))).setCell (ae D 2 ad) (ai 3932160)).setCell (ae D 3 ad) (ai 3932160)=A at *;have g0:=aO t;go_wp2_with fail;refine aW (E _) λM u=>?_;clear g0;have z:Keeps aG A M:=(Keeps.refl _ A).fT u;have H:=z.heap t id;have p:=z.heap F id;have g0:=aO H;have f0:=bP p;have eV:=aO p;go_wp2_with fail;have G:=A0 p (ai (-3932160)) (ai (-3932160)) (ai 3932160) (ai 3932160);obtain⟨B,d1,d2,C⟩:=Ge 0 1 2 3 G ⟨rfl,rfl,rfl,rfl⟩;refine c1 (v:=aY #[aL #[ai (-3932160),ai (-3932160),ai 3932160,ai 3932160],true]) (by simp[results,results369,go_sem,B,d1,d2,C]) rfl ?_;refine⟨rfl,(sr ((L.fT u).mono (T:=λk=>k=D\/k=w.heap.size+1) λ_ _=>Or.inl) (Or.inr rfl) _ _ _ _).below bx (λk hk=>?_)⟩
  have:=y.size
  omega
def BR(w:aj):aA 359 #[] w λe w'=>e=.returned (aL #[ai (-3932160),ai (-3932160),ai 3932160,ai 3932160])/\Below w w w':=by
 have g:=aX w (af eT 214);have i:=(bb w).alloc (af eT 214)
 go_in
 go_wp2_with fail;generalize w.alloc (af eT 214)=bn at *;refine aW ((λW=>BQ W) _) λao c=>?_;go_wp2_with fail;refine aW ((λW=>XP W) _) λaD d=>?_;have j:=(i.fT c).fT d;have h:=(((bb bn).fT c).fT d).heap g id;have a:=cw h (af #[ai (-3932160),ai (-3932160),ai 3932160,ai 3932160] 214);have f0:=bP a;have eV:=aO a;go_wp2_with fail;have b:=A0 a (ai (-3932160)) (ai (-3932160)) (ai 3932160) (ai 3932160);obtain⟨d1,d2,f⟩:=Gd 1 2 3 b ⟨rfl,rfl,rfl⟩;refine c1 (v:=aL #[ai (-3932160),ai (-3932160),ai 3932160,ai 3932160]) (by simp[results,results359,go_sem,(bf b (k:=0) rfl),d1,d2,f]) rfl ?_;refine⟨rfl,(sr (((j.alloc _)).mono (T:=λk=>k=w.heap.size) λ_ _ x=>x.elim) rfl _ _ _ _).below bx (λk hk=>?_)⟩;omega
theorem dX{w:aj}{p:Addr}{v:ay}(h:w.cell? p=some v)(x:k0 w):x.to.cell? p=some v:=
 (Md (x.below.block p.block (mU w p h))).trans h
def ha(n a b:aa):a1:=decide (a<=n)&&decide (n<=b)
def sA(f au co e7 eg dk x y:aa):a1:=ha f 0 65535&&(ha au 0 3&&(ha co 0 8&&(ha e7 0 20&&(ha eg 0 30&&(ha dk 0 2&&(iV (-3932160) (-3932160) 3932160 3932160 x y&&(decide (au>0) == decide (eg=0))))))))
def H9(x y u v f au co e7 eg dk:aa)(w:aj):aA 344 #[aL #[ai x,ai y,ai u,ai v,I f,I au,I co,I e7,I eg,I dk]] w λe w'=>e=.returned (.bool (sA f au co e7 eg dk x y))/\Below w w w':=by
 have h1:=λW=>oq f 0 65535 W;have h2:=λW=>oq au 0 3 W;have d:=λW=>oq co 0 8 W;have g:=λW=>oq e7 0 20 W;have i:=λW=>oq eg 0 30 W;have j:=λW=>oq dk 0 2 W;have l:=λW=>C7 (-3932160) (-3932160) 3932160 3932160 x y W;unfold sA ha;generalize (decide (0<=f)&&decide (f<=65535))=b6 at *;generalize (decide (0<=au)&&decide (au<=3))=bw at *;generalize (decide (0<=co)&&decide (co<=8))=eC at *;generalize (decide (0<=e7)&&decide (e7<=20))=dY at *;generalize (decide (0<=eg)&&decide (eg<=30))=fV at *;generalize (decide (0<=dk)&&decide (dk<=2))=ek at *;generalize iV (-3932160) (-3932160) 3932160 3932160 x y=c2 at *;have n:=dX (bf (aX w (af #[ai x,ai y,ai u,ai v,I f,I au,I co,I e7,I eg,I dk] 93)) (k:=0) rfl);have o:=dX (bf (aX w (af #[ai x,ai y,ai u,ai v,I f,I au,I co,I e7,I eg,I dk] 93)) (k:=1) rfl);have p:=dX (bf (aX w (af #[ai x,ai y,ai u,ai v,I f,I au,I co,I e7,I eg,I dk] 93)) (k:=2) rfl);have q:=dX (bf (aX w (af #[ai x,ai y,ai u,ai v,I f,I au,I co,I e7,I eg,I dk] 93)) (k:=3) rfl);have r:=dX (bf (aX w (af #[ai x,ai y,ai u,ai v,I f,I au,I co,I e7,I eg,I dk] 93)) (k:=4) rfl);have s:=dX (bf (aX w (af #[ai x,ai y,ai u,ai v,I f,I au,I co,I e7,I eg,I dk] 93)) (k:=5) rfl);have t:=dX (bf (aX w (af #[ai x,ai y,ai u,ai v,I f,I au,I co,I e7,I eg,I dk] 93)) (k:=6) rfl);have z:=dX (bf (aX w (af #[ai x,ai y,ai u,ai v,I f,I au,I co,I e7,I eg,I dk] 93)) (k:=7) rfl);have A:=dX (bf (aX w (af #[ai x,ai y,ai u,ai v,I f,I au,I co,I e7,I eg,I dk] 93)) (k:=8) rfl);have B:=dX (bf (aX w (af #[ai x,ai y,ai u,ai v,I f,I au,I co,I e7,I eg,I dk] 93)) (k:=9) rfl);cases b6
 .go_in
  exact te
 skip
 cases bw
 .go_in
  exact te
 skip
 cases eC
 .go_in
  exact te
 skip
 cases dY
 .go_in
  exact te
 skip
 cases fV
 .go_in
  exact te
 skip
 cases ek
 .go_in
  exact te
 skip
 cases c2
 .go_in
  exact te
 skip
 by_cases m:au>0<;>by_cases h:eg=0
 all_goals
  try subst h
  go_in
  go_wp2_with fail;refine pF aI aI ?_
  repeat (go_big_quiet_step (first|(go_at_call 345;first|(with_reducible exact Calls.jU (h1 _))|(with_reducible exact Calls.jU (h2 _))|(with_reducible exact Calls.jU (d _))|(with_reducible exact Calls.jU (g _))|(with_reducible exact Calls.jU (i _))|(with_reducible exact Calls.jU (j _)))|(go_at_call 359;exact Calls.kB (BR _))|(go_at_call 353;exact Calls.kB (l _))))
  refine wpQuiet_nil ?_;intro _ a;obtain⟨c,b⟩:=a;subst b;go_wp2_with fail;go_ret;exact⟨by first|rfl|simp_all,(((b7 _ w).alloc bx _).trans (c.below.mono aM))⟩
def wk(x y u v dB a:aa):a1:=decide (x=0/\y=0/\u=0/\v=0/\dB=0/\a=0)
def X1(a b c d e f:aa)(w:aj):(binOp .eql 96 (aL #[ai a,ai b,ai c,ai d,I e,I f]) (aL #[ai 0,ai 0,ai 0,ai 0,I 0,I 0])).run prog w=.ok (.bool (wk a b c d e f)) w:=by
 have n:=underlying3;have h:=isAgg3;have p:=sizeOf3;have o:=underlying89;have l:=isAgg89;have z4:=sizeOf89;have m:=isAgg91;have q:=sizeOf91;have ar:prog.underlying 96=some (.struct (prog.fieldsOf 96)):=aI;have au:prog.stoodInHeld 96=false:=aI;have aU:=Dz;rw[run_eql_struct,show(10000:J)=9999+1 from rfl,D5 w 9999 96 _ _ ar au];simp only[Program.fieldsOf,underlying96];unfold wk;clear ar au;exact Oq
def uJ(x y u v dB a:aa):a1:=wk x y u v dB a || (ha dB 1 2&&(ha a 1 40&&iV (-4194304) (-4194304) 4194304 4194304 x y))
def Sd(x y u v dB a:aa)(w:aj):aA 343 #[aL #[ai x,ai y,ai u,ai v,I dB,I a]] w λe w'=>e=.returned (.bool (uJ x y u v dB a))/\Below w w w':=by
 have h1:=λW=>oq dB 1 2 W;have h2:=λW=>oq a 1 40 W;have b:=λW=>C7 (-4194304) (-4194304) 4194304 4194304 x y W;have g:=λW=>X1 x y u v dB a W;unfold uJ ha;generalize (decide (1<=dB)&&decide (dB<=2))=b6 at *;generalize (decide (1<=a)&&decide (a<=40))=bw at *;generalize iV (-4194304) (-4194304) 4194304 4194304 x y=c2 at *;generalize wk x y u v dB a=bz at *;have h:=dX (bf (aX w (af #[ai x,ai y,ai u,ai v,I dB,I a] 96)) (k:=0) rfl);have i:=dX (bf (aX w (af #[ai x,ai y,ai u,ai v,I dB,I a] 96)) (k:=1) rfl);have j:=dX (bf (aX w (af #[ai x,ai y,ai u,ai v,I dB,I a] 96)) (k:=2) rfl);have l:=dX (bf (aX w (af #[ai x,ai y,ai u,ai v,I dB,I a] 96)) (k:=3) rfl);have m:=dX (bf (aX w (af #[ai x,ai y,ai u,ai v,I dB,I a] 96)) (k:=4) rfl);have n:=dX (bf (aX w (af #[ai x,ai y,ai u,ai v,I dB,I a] 96)) (k:=5) rfl);cases bz
 .cases b6
  .go_in
   exact xv
  cases bw
  .go_in
   exact xv
  cases c2
  .go_in
   exact xv
  go_in
  exact xv
 go_in
 exact xv
def py(v:J->aa)(j:J):a1:=uJ (v (24+6*j)) (v (25+6*j)) (v (26+6*j)) (v (27+6*j)) (v (28+6*j)) (v (29+6*j))
def nx(v:J->aa)(o:J):a1:=sA (v (o+4)) (v (o+5)) (v (o+6)) (v (o+7)) (v (o+8)) (v (o+9)) (v o) (v (o+1))
def pA(v:J->aa):J->a1
 | 0=>true
 | j+1=>pA v j&&py v j
def lv(v:J->aa):a1:=pA v 6&&(nx v 4&&(nx v 14&&(ha (v 0) 0 1073741824&&(ha (v 2) 0 1073741824&&ha (v 3) 1 600))))
def KU{v:J->aa}{j:J}(h:py v j=false)(b:j<6):pA v 6=false:=by
 have:∀ k,j+1+k<=6->pA v (j+1+k)=false:=by
  intro k
  induction k with
  | zero=>intro _;simp[pA,h]
  | succ k a=>intro hk;rw[show j+1+(k+1)=(j+1+k)+1 by omega];simp[pA,a iO]
 have:=this (6-(j+1)) U
 rwa [show j+1+(6-(j+1))=6 by omega]at this
def uy(v:J->aa)(o:J):a7 ay:=#[ai (v o),ai (v (o+1)),ai (v (o+2)),ai (v (o+3)),I (v (o+4)),I (v (o+5)),I (v (o+6)),I (v (o+7)),I (v (o+8)),I (v (o+9))]
structure FU(w wr:aj)(v:J->aa)(B:J)(j:J):al where
 bd:wr.heap[B]?=some (af (br v) 99 (0,0))
 nc:Below w w wr
 ok:pA v j=true
def H6(v:J->aa)(w:aj):aA 322 #[.agg (br v)] w λe w'=>e=.returned (.bool (lv v))/\Below w w w':=by
 go_in
 have g:=aX w (af (br v) 99);have u:=ag (show FU w (w.alloc (af (br v) 99)) v w.heap.size 0 from⟨g,((b7 w.heap.size w).alloc bx (af (br v) 99)),rfl⟩);go_wp2_with (refine dn (CV v w.heap.size _ _ g) rfl rfl rfl ?_);generalize w.alloc (af (br v) 99)=bn at *;generalize C:w.heap.size=B at *;go_loopw [7] (λi wr=>∃ j:J,j<=6/\i=I j/\Hid (FU w wr v B j)) (λi _=>6-(intOf i).toNat)
 case atStart=>exact⟨0,U,rfl,u⟩
 obtain⟨j,D,rfl,aV⟩:=hrel;obtain⟨a,rfl⟩:∃ a:aj,a=wr:=⟨_,rfl⟩;by_cases E:(j:aa)<6
 .have t:=CU v j U;unfold pz at t;have h:=λW=>Sd (v (24+6*j)) (v (25+6*j)) (v (26+6*j)) (v (27+6*j)) (v (28+6*j)) (v (29+6*j)) W;rw[show uJ (v (24+6*j)) (v (25+6*j)) (v (26+6*j)) (v (27+6*j)) (v (28+6*j)) (v (29+6*j))=py v j from rfl]at h;go_wp2_with fail;refine aW (h _) λao c=>?_;have b:Keeps aG a ao:=((Keeps.refl _ a).alloc _).fT c;cases aw:py v j
  .have y:=KU aw U;have d:=aV.out.nc.trans (b.below aV.out.nc.size (λk _ x=>x));go_wp2_with fail;go_ret;exact⟨by simp[lv,y],d⟩
  go_wp2_with fail;go_roundw
  case rel=>
   exact⟨j+1,U,by go_num,⟨b.heap aV.out.bd id,aV.out.nc.trans (b.below aV.out.nc.size (λk _ x=>x)),by simp[pA,aV.out.ok,aw]⟩⟩
  simp[intOf];omega
 obtain rfl:j=6:=U;obtain⟨h1,h2,s⟩:=aV.out;have l:=λW=>H9 (v 4) (v 5) (v 6) (v 7) (v 8) (v 9) (v 10) (v 11) (v 12) (v 13) W;have m:=λW=>H9 (v 14) (v 15) (v 16) (v 17) (v 18) (v 19) (v 20) (v 21) (v 22) (v 23) W;rw[show sA (v 8) (v 9) (v 10) (v 11) (v 12) (v 13) (v 4) (v 5)=nx v 4 from rfl]at l;rw[show sA (v 18) (v 19) (v 20) (v 21) (v 22) (v 23) (v 14) (v 15)=nx v 14 from rfl]at m;have n:=λW=>oq (v 0) 0 1073741824 W;have p:=λW=>oq (v 2) 0 1073741824 W;have q:=λW=>oq (v 3) 1 600 W;rw[show(decide (0<=v 0)&&decide (v 0<=1073741824))=ha (v 0) 0 1073741824 from rfl]at n;rw[show(decide (0<=v 2)&&decide (v 2<=1073741824))=ha (v 2) 0 1073741824 from rfl]at p;rw[show(decide (1<=v 3)&&decide (v 3<=600))=ha (v 3) 1 600 from rfl]at q;have z:lv v=(nx v 4&&(nx v 14&&(ha (v 0) 0 1073741824&&(ha (v 2) 0 1073741824&&ha (v 3) 1 600)))):=by simp[lv,s]
 generalize nx v 4=b6 at *;generalize nx v 14=bw at *;generalize ha (v 0) 0 1073741824=eC at *;generalize ha (v 2) 0 1073741824=dY at *;generalize ha (v 3) 1 600=fV at *;have r:=ag z;have ab:=bf h1 (fD v (o:=4) U);have a':=bf h1 (fD v (o:=5) U);have fr:=bf h1 (fD v (o:=6) U);have gf:=bf h1 (fD v (o:=7) U);have g':=bf h1 (fD v (o:=8) U);have hd:a.cell? (ae B 9 ad)=some (I (v 9)):=bf h1 (fD v (o:=9) U);have G:a.cell? (ae B 10 ad)=some (I (v 10)):=bf h1 (fD v (o:=10) U);have H:a.cell? (ae B 11 ad)=some (I (v 11)):=bf h1 (fD v (o:=11) U);have K:a.cell? (ae B 12 ad)=some (I (v 12)):=bf h1 (fD v (o:=12) U);have L:a.cell? (ae B 13 ad)=some (I (v 13)):=bf h1 (fD v (o:=13) U);go_wp2_with fail;refine aW (l _) λao c=>?_;have b:=(bb a).fT c;have g1:=b.heap h1 id;have d:=h2.trans (b.below h2.size (λk _ x=>x));cases b6
 .go_wp2_with fail;go_ret;exact⟨by rw[r.o];first|rfl|simp,d⟩
 have M:ao.cell? (ae B 14 ad)=some (ai (v 14)):=bf g1 (fD v (o:=14) U);have N:ao.cell? (ae B 15 ad)=some (ai (v 15)):=bf g1 (fD v (o:=15) U);have O:ao.cell? (ae B 16 ad)=some (ai (v 16)):=bf g1 (fD v (o:=16) U);have P:ao.cell? (ae B 17 ad)=some (ai (v 17)):=bf g1 (fD v (o:=17) U);have Q:ao.cell? (ae B 18 ad)=some (I (v 18)):=bf g1 (fD v (o:=18) U);have R:ao.cell? (ae B 19 ad)=some (I (v 19)):=bf g1 (fD v (o:=19) U);have T:ao.cell? (ae B 20 ad)=some (I (v 20)):=bf g1 (fD v (o:=20) U);have V:ao.cell? (ae B 21 ad)=some (I (v 21)):=bf g1 (fD v (o:=21) U);have X:ao.cell? (ae B 22 ad)=some (I (v 22)):=bf g1 (fD v (o:=22) U);have Y:ao.cell? (ae B 23 ad)=some (I (v 23)):=bf g1 (fD v (o:=23) U);go_wp2_with fail;refine aW (m _) λaD c=>?_;have b:=(bb ao).fT c;have f:=b.heap g1 id;have A:=d.trans (b.below d.size (λk _ x=>x));cases bw
 .exact xp
 have F:aD.cell? (ae B 0 ad)=some (I (v 0)):=bf f (fD v (o:=0) U);have S:aD.cell? (ae B 2 ad)=some (I (v 2)):=bf f (fD v (o:=2) U);have Z:aD.cell? (ae B 3 ad)=some (I (v 3)):=bf f (fD v (o:=3) U);go_wp2_with fail;refine bE (n _) ?_;cases eC
 .exact xp
 go_wp2_with fail;refine bE (p _) ?_;cases dY
 .exact xp
 go_wp2_with fail;refine bE (q _) ?_;cases fV
 .exact xp
 exact xp
variable{ej:Type}{c:fh ej}{B:J}{p:ej×(J->aa)}{k:J}
def Yv(c:fh ej)(p:ej×(J->aa)):c.step p 1=((c.aG p.1 (p.2 1)).1,bK p.2 1 (IntKind.u32.wrap (c.aG p.1 (p.2 1)).2)):=rfl
def Rz(an:c.o6){w w':aj}{n:aa}{f:J}(av:p.2 1=n)(h:Fr c w B p f)(h1:c.St (c.aG p.1 n).1 k w')(h2:w'.heap[B]?=w.heap[B]?):Fr c (w'.setCell (ae B 1 ad) (aR (IntKind.u32.wrap (c.aG p.1 n).2))) B (c.step p 1) k:=by
 subst av;rw[Yv];have g:=h2.trans h.bd;refine⟨an.keeps (S:=λb=>b=B) h1 (Keeps.setCell (S:=λb=>b=B) (Keeps.refl _ _) (p:=ae B 1 ad) rfl _) (λe=>h.ne e.symm),?_,h.ne,λj i=>?_⟩
 .rw[b3 g];exact c5 some (c5 (λa=>af a _ (0,0)) (yT p.2 1 _))
 simp only[bK];by_cases e:j=1
 .subst e;rw[aE rfl];have d:=h.fit 1 U;refine⟨?_,λ_=>an.okW _ _ d.1 (d.2 bt)⟩;show 0<=IntKind.u32.wrap _/\_;rw[wrap_u32];omega
 rw[aB e];exact h.fit j i
def Ii:ah J:=[0,1,2,3]
def lq(j:J):ah J:=Ii++(range j).flatMap λi=>rm (4+10*i) 6
def Yy(c:fh ej)(p:ej×(J->aa))(j:J):c.steps p (lq (j+1))=c.steps (c.steps p (lq j)) (rm (4+10*j) 6):=by
 unfold lq fh.steps;rw[qK,rR,<-dL,mX];simp
structure F1(c:fh ej)(w wr:aj)(B k:J)(p:ej×(J->aa))(j:J):al where
 fr:Fr c wr B (c.steps p (lq j)) (k+37+10*(2-j))
 keeps:Keeps (l2 c B) w wr
def gl(v:J->aa):J->J
 | 0=>0
 | j+1=>gl v j+if ln v j then 0 else 2 ^ j
theorem vN(v:J->aa):∀ j,gl v j<2 ^ j
 | 0=>by simp[gl]
 | j+1=>by
  have h:=vN v j;have h2:2 ^ (j+1)=2*2 ^ j:=by rw[nX,oZ]
  unfold gl;split<;>omega
def UX:∀ j:Fin 6,∀ b:Fin 64,b.val<2 ^ j.val->bits .or .i64 (b.val:aa) (wrap64 (2 ^ j.val))=((b.val+2 ^ j.val:J):aa):=by decide +kernel
def UY(v:J->aa)(j:J)(h:j<6)(b:¬ ln v j):bits .or .i64 (gl v j:J) (wrap64 (2 ^ j))=(gl v (j+1):J):=by
 have h1:=vN v j;have h2:2 ^ j<=2 ^ 6:=rX bt U;have a:=UX ⟨j,h⟩ ⟨gl v j,U⟩ h1;rw[show gl v (j+1)=gl v j+2 ^ j by simp[gl,b]];exact a
structure Fh(c:fh ej)(w wr:aj)(B N k:J)(p:ej×(J->aa))(j:J):al where
 fr:Fr c wr B p (k+37)
 bit:wr.heap[N]?=some (af #[I (gl p.2 j:J)] 3 (0,0))
 UE:N≠c.r
 yU:N≠B
 new:w.heap.size<=N
 keeps:Keeps (l2 c B) w wr
def ly(c:fh ej)(y:aa)(p:ej×(J->aa)):J->ej×(J->aa)
 | 0=>p
 | j+1=>if bits .and .i64 (y / 2 ^ j) 1=1 then c.steps (ly c y p j) (sL (24+6*j))else ly c y p j
structure FV(c:fh ej)(w wr:aj)(B N k:J)(y:aa)(p:ej×(J->aa))(j:J):al where
 fr:Fr c wr B (ly c y p j) (k+6*(6-j))
 bit:wr.heap[N]?=some (af #[I y] 3 (0,0))
 UE:N≠c.r
 yU:N≠B
 keeps:Keeps (l2 c B) w wr
def Dd(c:fh ej)(p:ej×(J->aa)):ej×(J->aa):=
 ly c (c.aG (c.steps p (lq 2)).1 (gl (c.steps p (lq 2)).2 6:J)).2 ((c.aG (c.steps p (lq 2)).1 (gl (c.steps p (lq 2)).2 6:J)).1,(c.steps p (lq 2)).2) 6
def X6(j:J)(h:j<6):dA (24+6*j)=.i32/\dA (24+6*j+1)=.i32/\dA (24+6*j+2)=.i32/\dA (24+6*j+3)=.i32/\dA (24+6*j+4)=.i64/\dA (24+6*j+5)=.i64:=by
 match j,h with
 | 0,_=>decide
 | 1,_=>decide
 | 2,_=>decide
 | 3,_=>decide
 | 4,_=>decide
 | 5,_=>decide
def RB(an:c.o6)(w:aj)(h:Fr c w B p (k+61)):aA 356 #[c.val,B] w λe w'=>e=aY #[]/\Fr c w' B (Dd c p) k/\Keeps (l2 c B) w w':=by
 have aaU:=an.AT;have aaT:=an.lZ;have aaS:=an.x';have l':w.cell? (ae B 1 ad)=some (aR (p.2 1)):=bf h.bd (fD p.2 (o:=1) U);have Z:=h.fit 1 U;have aaH:0<=p.2 1/\p.2 1<=4294967295:=Z.1;have aaB:IntKind.i64.wrap (p.2 1)=p.2 1:=eG _ U;have ab:Keeps aG w (w.alloc (af #[I (p.2 1)] 3)):=(Keeps.refl _ w).alloc _;have sd:=aX w (af #[I (p.2 1)] 3);have v':=h.keeps an ab id id;have aar:c.qi (p.2 1):=Z.2 bt;have aaW:=bT h.bd;have aaX:=an.there h.st;clear Z h;generalize av:p.2 1=n at *
 go_in
 go_wp2_with fail;generalize w.alloc (af #[I n] 3)=bn at *;generalize aaR:w.heap.size=D at *;have ys:=v'.drew an;refine cJ 8 ?_;refine fu (λ_=>True) (.range 4) [4,5,6,7] 0 ?_;refine gu λK a=>?_;go_simp;refine a _ _ (c6 (Keeps.refl _ _)) ?_;clear a K;refine gu λK a=>?_;go_simp;refine a _ _ (c6 (Keeps.refl _ _)) ?_;clear a K;refine gu λK a=>?_;go_simp;refine a _ _ (c6 (Keeps.refl _ _)) ?_;clear a K;refine ko λK a=>?_;go_simp;refine(tT an 0 U rfl _ ys).mono ?_;rintro e ao ⟨rfl,u,M⟩;refine a _ _ (c6 (M.mono λ_ _ _=>trivial)) ?_;clear a K;refine iI ?_;have s':=M.heap (k:=D) sd (λh=>h.elim a8 a8);have W':(c.step p 0).2 1=n:=av;generalize aas:c.step p 0=C at *;go_wp2_with fail;refine(an.num _ u.st s' U rfl (by unfold nf;omega) aar).mono ?_;rintro e aD ⟨rfl,Tq,vl,a'⟩;have G:aD.heap[B]?=ao.heap[B]?:=a'.block B (bT u.bd) (λh=>h.elim u.ne a8);have R:=Rz an W' u Tq G;have aaP:=aO vl;have c1:=bf (G.trans u.bd) (fD C.2 (o:=1) U);have di:=bP (G.trans u.bd);have TS:Keeps (λb=>b=B) aD (aD.setCell (ae B 1 ad) (aR (IntKind.u32.wrap (c.aG C.1 n).2))):=Keeps.setCell (S:=λb=>b=B) (Keeps.refl _ _) (p:=ae B 1 ad) rfl _;have W:=cN (cN (cN (S:=l2 c B) (ab.mono λ_ _ x=>x.elim) ((Keeps.refl _ bn).drew.trans M) (λ_ _ x=>x)) a' (λj L P=>P.elim Or.inl a8)) TS (λj L P=>Or.inr P);go_wp2_with fail;clear TS;rw[wrap_u32]at W R;generalize aD.setCell (ae B 1 ad) (aR ((c.aG C.1 n).2%4294967296))=bq at *;generalize aat:c.step C 1=aaN at *;have zd:=R.drew an;clear aaP c1 di G a' M ab vl Tq s' sd u v' ys l' aaB W' aar aaH av;refine cJ 8 ?_;refine fu (λ_=>True) (.range 4) [4,5,6,7] 0 ?_;refine gu λK a=>?_;go_simp;refine a _ _ (c6 (Keeps.refl _ _)) ?_;clear a K;refine gu λK a=>?_;go_simp;refine a _ _ (c6 (Keeps.refl _ _)) ?_;clear a K;refine gu λK a=>?_;go_simp;refine a _ _ (c6 (Keeps.refl _ _)) ?_;clear a K;refine ko λK a=>?_;go_simp;refine(tT an 2 U rfl _ zd).mono ?_;rintro e aaZ ⟨rfl,zp,gf⟩;refine a _ _ (c6 (gf.mono λ_ _ _=>trivial)) ?_;clear a K;refine iI ?_;have Aw:=zp.drew an;go_wp2_with fail;refine cJ 8 ?_;refine fu (λ_=>True) (.range 4) [4,5,6,7] 0 ?_;refine gu λK a=>?_;go_simp;refine a _ _ (c6 (Keeps.refl _ _)) ?_;clear a K;refine gu λK a=>?_;go_simp;refine a _ _ (c6 (Keeps.refl _ _)) ?_;clear a K;refine gu λK a=>?_;go_simp;refine a _ _ (c6 (Keeps.refl _ _)) ?_;clear a K;refine ko λK a=>?_;go_simp;refine(tT an 3 U rfl _ Aw).mono ?_;rintro e aaO ⟨rfl,T,g'⟩;refine a _ _ (c6 (g'.mono λ_ _ _=>trivial)) ?_;clear a K;refine iI ?_;have St:=(W.drew.trans gf).drew.trans g';clear gf g' W Aw zp zd R;have z:c.step (c.step aaN 2) 3=c.steps p Ii:=by subst aat;subst aas;rfl
 rw[z]at T;clear z aas aat;have m':=ag (show F1 c w aaO B k p 0 from⟨T,St⟩);clear T St;generalize (c.aG C.1 n).2%4294967296=aa4 at *;generalize (c.aG C.1 n).2=z2 at *;go_wp2_with fail;go_loopw [5,46] (λ_ i wr=>∃ j:J,j<=2/\i=I j/\Hid (F1 c w wr B k p j)) (λ_ i _=>2-(intOf i).toNat)
 case atStart=>exact⟨0,U,rfl,m'⟩
 obtain⟨j,L,rfl,aV⟩:=hrel;obtain⟨f,rfl⟩:∃ f:aj,f=wr:=⟨_,rfl⟩;clear m';by_cases V':(j:aa)<2
 .have X:aA 367 #[c.val,.pointer (some (ae B (4+10*j) ad))] f λe w'=>e=aY #[]/\Fr c w' B (c.steps (c.steps p (lq j)) (rm (4+10*j) 6)) (k+37+10*(2-(j+1)))/\Keeps (l2 c B) f w':=by
   have q:=aV.out.fr;rw[show k+37+10*(2-j)=(k+37+10*(2-(j+1)))+10 by omega]at q;obtain rfl|rfl:j=0\/j=1:=U
   .exact HC an 4 U rfl rfl rfl rfl bt _ q
   exact HC an 14 U rfl rfl rfl rfl bt _ q
  rw[<-Yy]at X;rw[show 4+10*j=4+j*10 by omega]at X;go_wp2_with fail;refine X.mono ?_;rintro e aa0 ⟨rfl,aaE,aaI⟩;go_wp2_with fail;go_roundw
  case rel=>exact⟨j+1,U,by go_num,⟨aaE,aV.out.keeps.trans aaI⟩⟩
  simp[intOf];omega
 obtain rfl:j=2:=U;have q:=aV.out.fr;have a:=aV.out.keeps;clear aV;have aaQ:=bT q.bd;have G:=an.there q.st;have hd:Keeps aG f (f.alloc (af #[I 0] 3)):=(Keeps.refl _ f).alloc _;have V:=q.keeps an hd id id;generalize aaJ:c.steps p (lq 2)=d at *;have ps:=ag (show Fh c w (f.alloc (af #[I 0] 3)) B f.heap.size k d 0 from⟨V,aX f _,U,U,a.size,a.trans (hd.mono λ_ _ x=>x.elim)⟩);have T':=CV d.2 B _ _ V.bd;clear q a hd V;go_wp2_with (refine dn T' rfl rfl rfl ?_);generalize f.alloc (af #[I 0] 3)=aa1 at *;generalize aaV:f.heap.size=N at *;go_loopw [7,8,61] (λ_ _ i wr=>∃ j:J,j<=6/\i=I j/\Hid (Fh c w wr B N k d j)) (λ_ _ i _=>6-(intOf i).toNat)
 case atStart=>exact⟨0,U,rfl,ps⟩
 obtain⟨j,L,rfl,aV⟩:=hrel;obtain⟨A,rfl⟩:∃ A:aj,A=wr:=⟨_,rfl⟩;clear ps T';by_cases V':(j:aa)<6
 .have Q':=CU d.2 j U;have ak:=aV.out.bit;unfold pz at Q';by_cases r:ln d.2 j
  .have z:=X2 d.2 j r;go_wp2_with fail;go_roundw
   case rel=>
    have⟨h1,h2,g,l,s,m⟩:=aV.out;exact⟨j+1,U,by go_num,⟨h1.keeps an ((bb A).alloc _) id id,by rw[show gl d.2 (j+1)=gl d.2 j by simp[gl,r]];exact cw h2 _,g,l,s,m.alloc _⟩⟩
   simp[intOf];omega
  have z:=X4 d.2 j r;go_wp2_with fail;generalize lb:A.alloc _=t;have Y:t.heap[N]?=some (af #[I (gl d.2 j:J)] 3 (0,0)):=lb▸cw ak _;have O:Keeps aG A t:=lb▸(Keeps.refl _ A).alloc _;have l':=aO Y;have aa3:=bP Y;clear Q' z lb;refine iN 4 aI aI ?_;simp only[hY,iE,hX,hF]
  repeat (go_big_quiet_step ((fail)))
  refine wpQuiet_nil ?_;intro _ aaz;have⟨nq,aaA⟩:=aaz;subst aaA;rw[UY d.2 j U r];generalize wrap64 (2 ^ j)=aa2;go_wp2_with fail;go_roundw
  case rel=>
   obtain⟨h1,h2,g,l,s,m⟩:=aV.out;have H:Keeps (λb=>b=N) A ((t.drewN nq).setCell (ae N 0 ad) (I (gl d.2 (j+1):J))):=Keeps.setCell (S:=λb=>b=N) ((O.drewN nq).mono λ_ _ x=>x.elim) (p:=ae N 0 ad) rfl _;exact⟨j+1,U,by go_num,⟨h1.keeps an H (λe=>g e.symm) (λe=>l e.symm),by have:=b3 (w:=t.drewN nq) Y 0 (I (gl d.2 (j+1):J));simpa using this,g,l,s,cN m H a8⟩⟩
  simp[intOf];omega
 obtain rfl:j=6:=U;have aaC:=aV.out;clear aV;obtain⟨h1,h2,g,l,s,m⟩:=aaC;have aaF:=vN d.2 6;have aaq:=an.num (n:=(gl d.2 6:J)) (o:=0) _ h1.st h2 g rfl (by unfold nf;omega) (an.okB _ U);generalize aaG:(gl d.2 6:aa)=F at *;go_wp2_with fail;refine aaq.mono ?_;rintro e t ⟨rfl,g1,g2,Q⟩;have O:Keeps (l2 c B) w t:=cN m Q (λx P e=>e.elim Or.inl a8);have CW:Fr c t B ((c.aG d.1 F).1,d.2) (k+36):=⟨g1,(Q.block B (bT h1.bd) (λe=>e.elim h1.ne (λe=>l e.symm))).trans h1.bd,h1.ne,h1.fit⟩;have r':=ag (show FV c w t B N k (c.aG d.1 F).2 ((c.aG d.1 F).1,d.2) 0 from⟨CW,g2,g,l,O⟩);clear h1 h2 g l m s aaF aaq g1 g2 Q O CW;generalize aaL:(c.aG d.1 F).2=y at *;generalize aaK:((c.aG d.1 F).1,d.2)=E at *;go_wp2_with fail;go_loopw [9,75] (λ_ i wr=>∃ j:J,j<=6/\i=I j/\Hid (FV c w wr B N k y E j)) (λ_ i _=>6-(intOf i).toNat)
 case atStart=>exact⟨0,U,rfl,r'⟩
 obtain⟨j,L,rfl,aV⟩:=hrel;obtain⟨f,rfl⟩:∃ f:aj,f=wr:=⟨_,rfl⟩;clear r';by_cases V':(j:aa)<6
 .have l':=aO aV.out.bit;by_cases r:bits .and .i64 (y / 2 ^ j) 1=1
  .have aaM:(bits .and .i64 (y / 2 ^ j) 1 == 1)=true:=by rw[nY];exact r
   have q:=aV.out.fr;rw[show k+6*(6-j)=(k+6*(6-(j+1)))+6 by omega]at q;obtain⟨aau,aav,aaw,aax,cP,aay⟩:=X6 j U;have ar:=RA an (24+6*j) U aau aav aaw aax cP aay _ q;rw[show c.steps (ly c y E j) (sL (24+6*j))=ly c y E (j+1)by simp[ly,r],show 24+6*j=24+j*6 by omega]at ar;clear q aau aav aaw aax cP aay r;go_wp2_with fail;refine ar.mono ?_;rintro e aaY ⟨rfl,aaD,H⟩;go_wp2_with fail;go_roundw
   case rel=>
    have⟨h1,h2,g,l,m⟩:=aV.out;exact⟨j+1,U,by go_num,⟨aaD,H.heap h2 (λe=>e.elim g l),g,l,m.trans H⟩⟩
   simp[intOf];omega
  have aaM:(bits .and .i64 (y / 2 ^ j) 1 == 1)=false:=by rw[eA];exact r
  have z:ly c y E (j+1)=ly c y E j:=by simp[ly,r]
  clear r;go_wp2_with fail;go_roundw
  case rel=>
   have⟨h1,h2,g,l,m⟩:=aV.out;have s:Fr c f B (ly c y E j) ((k+6*(6-(j+1)))+6):=by rw[show(k+6*(6-(j+1)))+6=k+6*(6-j)by omega];exact h1
   exact⟨j+1,U,by go_num,⟨by rw[z];exact⟨an.less s.st,s.bd,s.ne,s.fit⟩,h2,g,l,m⟩⟩
  simp[intOf];omega
 obtain rfl:j=6:=U;obtain⟨h1,h2,g,l,m⟩:=aV.out;clear aV;go_wp2;refine qD (v:=aY #[]) jA rfl ?_;subst aaK;subst aaL;subst aaG;subst aaJ;exact⟨rfl,h1,m⟩
def s3(r:J):fh (ah aT) where
 T:=482
 r:=r
 tO:=424
 tP:=425
 St S k w:=tr w r S/\S.length+10*k<=9223372036854775807
 aG S n:=(S++num n.toNat,n)
 sG S n:=(S++num (fN n),n)
 qi n:=0<=n
def UH(r:J)(w:aj):(nilAhead 647 482 r "promptbook/freeze.number").run prog w=.ok (some false) w:=aI
def UI(r:J)(w:aj):(nilAhead 647 482 r "promptbook/freeze.signed").run prog w=.ok (some false) w:=aI
def T8(r:J)(w:aj):(method 647 482 r "promptbook/freeze.number").run prog w=.ok (424,.pointer (some (ae r 0 ad))) w:=aI
def T9(r:J)(w:aj):(method 647 482 r "promptbook/freeze.signed").run prog w=.ok (425,.pointer (some (ae r 0 ad))) w:=aI
def QK(x y:ay)(w:aj):(callFunc 424 #[x,y]).run prog w=.ok (.enter 424 #[x,y]) w:=aI
def QL(x y:ay)(w:aj):(callFunc 425 #[x,y]).run prog w=.ok (.enter 425 #[x,y]) w:=aI
def ZV(r:J):(s3 r).o6 where
 AT:=UH r
 F3:=UI r
 lZ:=T8 r
 cJ:=T9 r
 x':=QK
 Hb:=QL
 keeps h hk i:=⟨hk.heap h.1 i,h.2⟩
 less h:=⟨h.1,by have:=h.2;omega⟩
 there h:=bT h.1
 num:=by
  intro S k B o cs t n w h e hne an a g;obtain⟨m,rfl⟩:=mj g;have a:-9223372036854775808<=(m:aa)/\(m:aa)<=9223372036854775807:=a;have f:=oA m qP;have h2:=h.2;refine aW (ZW r B o S cs t m h.1 e hne an U U) ?_;rintro w' ⟨b,c,d⟩;refine⟨rfl,⟨b,?_⟩,?_,d.mono λ_ _=>Or.inl⟩
  .show(S++num _).length+_<=_;rw[cx];simp only[rN];omega
  show w'.heap[B]?=some (af (cs.setIfInBounds o (I (m:aa))) t (0,0));rw[KJ an];exact c
 KO:=by
  intro S k B o cs t n w h e hne an a;have a:-2147483648<=n/\n<=2147483647:=a;have f:=oA (fN n) (by unfold fL fN;split<;>omega);have h2:=h.2;refine aW (ZX r B o S cs t n h.1 e hne an a U) ?_;rintro w' ⟨b,c,d⟩;refine⟨rfl,⟨b,?_⟩,?_,d.mono λ_ _=>Or.inl⟩
  .show(S++num _).length+_<=_;rw[cx];omega
  show w'.heap[B]?=some (af (cs.setIfInBounds o (ai n)) t (0,0));rw[KJ an];exact c
 Ho _ _ h:=h
 ok _ _ _ h:=h
 okB _ h:=h
 okW _ n _ _:=by
  show 0<=IntKind.u32.wrap _;rw[wrap_u32];omega
 Hp _ _ h:=h
def uP(v:J->aa)(o:J):ah aT:=if dA o=.i32 then num (fN (v o))else num (v o).toNat
def b9(v:J->aa)(l:ah J):ah aT:=l.flatMap (uP v)
def rD(v:J->aa):J->ah aT
 | 0=>[]
 | j+1=>rD v j++if ln v j then []else b9 v (sL (24+6*j))
def mJ(v:J->aa):ah aT:=b9 v (lq 2)++num (gl v 6)++rD v 6
def Du(v:J->aa)(o:J):bK v o (v o)=v:=by
 funext j
 unfold bK;split<;>simp_all
def ZZ(r:J)(S:ah aT)(v:J->aa)(aU:0<=v 1/\v 1<=4294967295)(o:J):(s3 r).step (S,v) o=(S++uP v o,v):=by
 unfold fh.step uP;split
 .rename_i h;rw[aE h];show((S++num (fN (v o))),bK v o (v o))=_;rw[Du]
 .rename_i h;have a:o=1:=by
   unfold dA at h;split at h
   .assumption
   split at h<;>(try cases h);split at h<;>split at h<;>cases h
  subst a;rw[aB (by rw[h];decide)];show((S++num (v 1).toNat),bK v 1 (IntKind.u32.wrap (v 1)))=_;rw[show IntKind.u32.wrap (v 1)=v 1 by rw[wrap_u32];omega,Du]
 rename_i h1 h2;rw[aB h1];show((S++num (v o).toNat),bK v o (v o))=_;rw[Du]
theorem DN(r:J)(v:J->aa)(aU:0<=v 1/\v 1<=4294967295):∀ (l:ah J) (S:ah aT),(s3 r).steps (S,v) l=(S++b9 v l,v)
 | [],S=>by simp[fh.steps,b9]
 | o :: l,S=>by
  have h:=DN r v aU l (S++uP v o);unfold fh.steps at h⊢;rw[oU,ZZ r S v aU o,h];simp[b9]
def tF(v:J->aa)(i m:J):∃ x,(if ln v i then 0 else m)=x*m/\((x=0/\ln v i)\/(x=1/\¬ ln v i)):=by
 by_cases h:ln v i
 .exact⟨0,by simp[h],.inl ⟨rfl,h⟩⟩
 exact⟨1,by simp[h],.inr ⟨rfl,h⟩⟩
def Py(v:J->aa)(j:J)(h:j<6):gl v 6 / 2 ^ j%2=1↔¬ ln v j:=by
 have⟨a,i,p⟩:=tF v 0 1;have⟨b,k,q⟩:=tF v 1 2;have⟨c,l,r⟩:=tF v 2 4;have⟨d,m,s⟩:=tF v 3 8;have⟨f,n,t⟩:=tF v 4 16;have⟨g,o,u⟩:=tF v 5 32;have aw:gl v 6=(0+a*1+b*2+c*4+d*8+f*16+g*32):=by
  rw[<-i,<-k,<-l,<-m,<-n,<-o];rfl
 rw[aw];clear aw;have b':a<=1:=U;have bR:b<=1:=U;have w:c<=1:=U
 match j,h with
 | 0,_=>
  rw[show(0+a*1+b*2+c*4+d*8+f*16+g*32) / 2 ^ 0%2=a by omega];exact p.elim (λh=>⟨λe=>U,λe=>absurd h.2 e⟩) λh=>⟨λ_=>h.2,λ_=>h.1⟩
 | 1,_=>
  rw[show(0+a*1+b*2+c*4+d*8+f*16+g*32) / 2 ^ 1%2=b by omega];exact q.elim (λh=>⟨λe=>U,λe=>absurd h.2 e⟩) λh=>⟨λ_=>h.2,λ_=>h.1⟩
 | 2,_=>
  rw[show(0+a*1+b*2+c*4+d*8+f*16+g*32) / 2 ^ 2%2=c by omega];exact r.elim (λh=>⟨λe=>U,λe=>absurd h.2 e⟩) λh=>⟨λ_=>h.2,λ_=>h.1⟩
 | 3,_=>
  rw[show(0+a*1+b*2+c*4+d*8+f*16+g*32) / 2 ^ 3%2=d by omega];exact s.elim (λh=>⟨λe=>U,λe=>absurd h.2 e⟩) λh=>⟨λ_=>h.2,λ_=>h.1⟩
 | 4,_=>
  rw[show(0+a*1+b*2+c*4+d*8+f*16+g*32) / 2 ^ 4%2=f by omega];exact t.elim (λh=>⟨λe=>U,λe=>absurd h.2 e⟩) λh=>⟨λ_=>h.2,λ_=>h.1⟩
 | 5,_=>
  rw[show(0+a*1+b*2+c*4+d*8+f*16+g*32) / 2 ^ 5%2=g by omega];exact u.elim (λh=>⟨λe=>U,λe=>absurd h.2 e⟩) λh=>⟨λ_=>h.2,λ_=>h.1⟩
def O_:∀ j:Fin 6,∀ b:Fin 64,(bits .and .i64 ((b.val:aa) / 2 ^ j.val) 1=1)↔b.val / 2 ^ j.val%2=1:=by decide +kernel
def F7(v:J->aa)(j:J)(h:j<6):bits .and .i64 ((gl v 6:J) / 2 ^ j) 1=1↔¬ ln v j:=by
 rw[<-Py v j h];exact O_ ⟨j,h⟩ ⟨gl v 6,vN v 6⟩
theorem LY(r:J)(v:J->aa)(aU:0<=v 1/\v 1<=4294967295)(S:ah aT):∀ j,j<=6->ly (s3 r) (gl v 6:J) (S,v) j=(S++rD v j,v)
 | 0,_=>by simp[ly,rD]
 | j+1,h=>by
  unfold ly rD;rw[LY r v aU S j U];by_cases a:ln v j
  .rw[aB (λe=>(F7 v j U).1 e a),aE a,eB]
  rw[aE ((F7 v j U).2 a),aB a,DN r v aU,dL]
def ZY(r:J)(v:J->aa)(aU:0<=v 1/\v 1<=4294967295):Dd (s3 r) ([],v)=(mJ v,v):=by
 unfold Dd;rw[DN r v aU];show ly (s3 r) (gl v 6:J) (([]++b9 v (lq 2))++num (Int.toNat (gl v 6:J)),v) 6=_;rw[LY r v aU _ 6 U,rN];rfl
def tA(v:J->aa):al:=∀ j,j<60->nf (dA j) (v j)
theorem W0(v:J->aa)(B:J)(w:aj)(t:TypeId)(a:w.heap[B]?=some (af (br v) t (0,0))):(Instr.loadAt 99 B).run prog w=.ok (.agg (br v)) w:=
 gd 99 60 B 0 (br v) (br v) t isAgg99 sizeOf99 (et v) a (λj x z=>ke)
def ot{n a b:aa}(h:ha n a b=true)(bh:0<=a):0<=n:=by
 simp[ha]at h;omega
def JG{v:J->aa}{o:J}(h:nx v o=true)(j:J)(h1:4<=j)(h2:j<10):0<=v (o+j):=by
 simp only[nx,sA,ep]at h;obtain⟨a,b,c,d,e,f,_⟩:=h;obtain rfl|rfl|rfl|rfl|rfl|rfl:j=4\/j=5\/j=6\/j=7\/j=8\/j=9:=U
 .exact ot a U
 .exact ot b U
 .exact ot c U
 .exact ot d U
 .exact ot e U
 exact ot f U
def X5{v:J->aa}{j:J}(h:pA v 6=true)(a:j<6):py v j=true:=by
 cases aw:py v j with
 | true=>rfl
 | false=>rw[KU aw a]at h;cases h
def X3{v:J->aa}{j:J}(h:py v j=true)(k:J)(h1:28<=k)(h2:k<30):0<=v (k+6*j):=by
 simp only[py,uJ,wk,uW,ep,gh]at h;obtain rfl|rfl:k=28\/k=29:=U
 .rcases h with h|h
  .omega
  exact ot h.1 U
 rcases h with h|h
 .omega
 exact ot h.2.1 U
def Wd{v:J->aa}(l:tA v)(h:lv v=true)(j:J)(m:j<60)(hk:dA j≠.i32):0<=v j:=by
 simp only[lv,ep]at h;have⟨a,b,c,d,f,g⟩:=h;by_cases h1:j<4
 .obtain rfl|rfl|rfl|rfl:j=0\/j=1\/j=2\/j=3:=U
  .exact ot d U
  .exact(l 1 U).1
  .exact ot f U
  exact ot g U
 by_cases h2:j<24
 .have k:4<=(j-4)%10:=by
   by_cases e:(j-4)%10<4
   .exact absurd (by unfold dA;rw[aB U,aB h1,aE h2,aE e]) hk
   omega
  rcases (show j-4<10\/10<=j-4 by omega)with i|i
  .have:=JG b (j-4) U U
   rwa [show 4+(j-4)=j by omega]at this
  have:=JG c (j-14) U U
  rwa [show 14+(j-14)=j by omega]at this
 have k:4<=(j-24)%6:=by
  by_cases e:(j-24)%6<4
  .exact absurd (by unfold dA;rw[aB U,aB h1,aB h2,aE e]) hk
  omega
 have:=X3 (X5 (j:=(j-24) / 6) a U) (24+(j-24)%6) U U
 rwa [show 24+(j-24)%6+6*((j-24) / 6)=j by omega]at this
def RR(v:J->aa)(aU:tA v)(w:aj):aA 329 #[.agg (br v)] w λe w'=>
  e=aY #[.string (if lv v then⟨(mJ v).toArray⟩else ByteArray.empty),I (if lv v then 0 else 1)]/\Below w w w':=by
 have f:=aX w (af (br v) 99);have ak:=(b7 w.heap.size w).alloc bx (af (br v) 99);have l:=W0 v w.heap.size _ _ f;have b:=λW=>H6 v W;cases d:lv v
 .rw[d]at b
  go_in
  go_wp2_with (refine dn l rfl rfl rfl ?_);refine aW (b _) λao c=>?_;have n:=ak.trans (c.mono ak.size);go_wp2_with fail;go_ret2;exact⟨rfl,n⟩
 rw[d]at b
 go_in
 go_wp2_with (refine dn l rfl rfl rfl ?_);refine aW (b _) λao c=>?_;have g:=(Keeps.bJ (S:=aG) c a8).heap f id;have p:=bT g
 have m:Fr (s3 ao.heap.size) (ao.alloc (af #[.string ⟨#[]⟩] 484)) w.heap.size ([],v) (0+61):=
  ⟨⟨aX ao (af #[.string ⟨#[]⟩] 484),by show 0+10*(0+61)<=_;omega⟩,cw g _,by show w.heap.size≠ao.heap.size;omega,λj i=>⟨aU j i,λhk=>(Wd aU) d j i hk⟩⟩
 go_wp2_with fail;refine aW (RB (ZV ao.heap.size) _ m) ?_;rintro aD ⟨h,hk⟩;rw[ZY _ v ((aU 1 U))]at h;have q:=aO h.st.1;have o:=((ak.trans (c.mono ak.size)).alloc U _).trans (hk.below (B:=w.heap.size) b1 (λk hk a=>by simp only[l2]at a;rcases a with a|a;(· have:k=ao.heap.size:=a;omega);(· omega)));go_wp2_with fail;go_ret2;exact⟨rfl,o⟩
end Go.Proofs.YtalagblioepadaaGreatDoor
