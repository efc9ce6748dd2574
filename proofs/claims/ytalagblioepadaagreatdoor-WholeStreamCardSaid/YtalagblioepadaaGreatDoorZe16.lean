/- The proof, part 16. -/
import Derived.Test.YtalagblioepadaaGreatDoorZe14
import Derived.Test.YtalagblioepadaaGreatDoorZe11
namespace Go.Proofs.YtalagblioepadaaGreatDoor
set_option linter.all false
open Proofs.Tryz List Go.RowKit
set_option maxRecDepth 100000
set_option maxHeartbeats 4000000
variable{n:U}{b j:J}
def qE(v:J->U)(j:J):a6 ay:=#[af (v (24+6*j)),af (v (25+6*j)),af (v (26+6*j)),af (v (27+6*j)),aa (v (28+6*j)),aa (v (29+6*j))]
def mA(v:J->U)(j:J):ae:=v (24+6*j)=0/\v (25+6*j)=0/\v (26+6*j)=0/\v (27+6*j)=0/\v (28+6*j)=0/\v (29+6*j)=0
instance (v:J->U)(j:J):Decidable (mA v j):=by unfold mA;infer_instance
def oN(v:J->U):a6 ay:=((range 36).map λj=>Value.int (dw (24+j)) (v (24+j))).toArray
def af2(v:J->U)(w:aj):(Instr.index 97 (.agg (oN v)) (aa 0)).run prog w=.ok (.agg (qE v 0)) w:=bc
def af3(v:J->U)(w:aj):(Instr.index 97 (.agg (oN v)) (aa 1)).run prog w=.ok (.agg (qE v 1)) w:=bc
def af4(v:J->U)(w:aj):(Instr.index 97 (.agg (oN v)) (aa 2)).run prog w=.ok (.agg (qE v 2)) w:=bc
def af5(v:J->U)(w:aj):(Instr.index 97 (.agg (oN v)) (aa 3)).run prog w=.ok (.agg (qE v 3)) w:=bc
def af6(v:J->U)(w:aj):(Instr.index 97 (.agg (oN v)) (aa 4)).run prog w=.ok (.agg (qE v 4)) w:=bc
def af7(v:J->U)(w:aj):(Instr.index 97 (.agg (oN v)) (aa 5)).run prog w=.ok (.agg (qE v 5)) w:=bc
def Ga(v:J->U)(j:J)(h:j<6)(w:aj):(Instr.index 97 (.agg (oN v)) (aa (j:J))).run prog w=.ok (.agg (qE v j)) w:=by
 match j,h with
 | 0,_=>exact af2 v w
 | 1,_=>exact af3 v w
 | 2,_=>exact af4 v w
 | 3,_=>exact af5 v w
 | 4,_=>exact af6 v w
 | 5,_=>exact af7 v w
def Gb(v:J->U)(B:J)(w:aj)(t:TypeId)(b:w.heap[B]?=some (ab (aQ v) t (0,0))):(Instr.loadAt 97 (.pointer (dk B 24))).run prog w=.ok (.agg (oN v)) w:=by
 refine fS 97 36 B 24 (oN v) (aQ v) t isAgg97 sizeOf97 (by simp[oN]) b ?_;intro j x a;have h:j<36:=by
  refine DM;simpa[oN]using this
 rw[dO _ I];simpa[oN,h]using a
def GU(a b:U)(w:aj):(Op.equalIn 9999 91 (aG #[af a,af b]) (aG cH)).run prog w=.ok (decide (a=0)&&decide (b=0)) w:=by
 have c:prog.underlying 91=some (.struct (prog.fieldsOf 91)):=bc;have d:prog.stoodInHeld 91=false:=bc;rw[show(9999:J)=9998+1 from rfl,Hq w 9998 91 _ _ c d];simp only[Program.fieldsOf,underlying91];go_simp;by_cases h1:a=0<;>by_cases h2:b=0<;>simp[h1,h2]
def Pb(a b c d e f:U)(w:aj):(binOp .neq 96 (aG #[af a,af b,af c,af d,aa e,aa f]) (aG #[af 0,af 0,af 0,af 0,aa 0,aa 0])).run prog w=.ok (.bool (decide ¬ (a=0/\b=0/\c=0/\d=0/\e=0/\f=0))) w:=by
 refine Tc;rw[run_neq_struct,show(10000:J)=9999+1 from rfl,Hq w 9999 96 _ _ ax ao];simp only[Program.fieldsOf,underlying96];exact R6
def aha(v:J->U)(j:J)(h:mA v j)(w:aj):(binOp .neq 96 (aG #[af (v (24+6*j)),af (v (25+6*j)),af (v (26+6*j)),af (v (27+6*j)),aa (v (28+6*j)),aa (v (29+6*j))]) (aG #[af 0,af 0,af 0,af 0,aa 0,aa 0])).run prog w=.ok (.bool false) w:=by
 rw[Pb]
 congr 2
 exact cN (xj h)
def ahc(v:J->U)(j:J)(h:¬ mA v j)(w:aj):(binOp .neq 96 (aG #[af (v (24+6*j)),af (v (25+6*j)),af (v (26+6*j)),af (v (27+6*j)),aa (v (28+6*j)),aa (v (29+6*j))]) (aG #[af 0,af 0,af 0,af 0,aa 0,aa 0])).run prog w=.ok (.bool true) w:=by
 rw[Pb]
 congr 2
 exact dh h
variable{w:aj}
def pw(n a b:U)(w:aj):aB 345 #[aa n,aa a,aa b] w λe w'=>e=.returned (.bool (decide (a<=n)&&decide (n<=b)))/\w=w':=by
 exact WG
def gm(a b c d x y:U):aY:=decide (a<=x)&&decide (x<=c)&&decide (b<=y)&&decide (y<=d)
def Gn(a b c d x y:U)(w:aj):aB 353 #[aG (d' a b c d),aG #[af x,af y]] w λe w'=>e=.returned (.bool (gm a b c d x y))/\Below w w w':=by
 by_cases h1:a<=x
 .by_cases h2:x<=c
  .by_cases f:b<=y
   .by_cases g:y<=d
    .rw[show gm a b c d x y=true by simp[gm,h1,h2,f,g]];exact zO
    rw[show gm a b c d x y=false by simp[gm,g]];exact zO
   rw[show gm a b c d x y=false by simp[gm,f]];exact zO
  rw[show gm a b c d x y=false by simp[gm,h2]];exact zO
 rw[show gm a b c d x y=false by simp[gm,h1]];exact zO
def A3(w:aj):aB 354 #[] w λe w'=>e=aG (d' (-4194304) (-4194304) 4194304 4194304)/\Below w w w':=by
 have a:=fN _ _ _ _ (aP w (ab (d' (-4194304) (-4194304) 4194304 4194304) 214)) 4 rfl
 go_in
 go_wp2;refine dH (v:=aG (d' (-4194304) (-4194304) 4194304 4194304)) (by simp[results,results354,asAddr,loadVar,loadCells,isAgg214,sizeOf214,a]) rfl ?_;exact⟨rfl,(b9 _ w).alloc bu _⟩
def aah(n:U)(h:-2147483648<=n/\n<=2147483647)(w:aj):aB 282 #[aa n,aa (-2147483648),aa 2147483647] w λe w'=>e=aa n/\w=w':=by
 have a:min n 2147483647=n:=I
 go_in
 go_wp2
 all_goals go_ret
 all_goals exact⟨by first|rfl|(rw[show n=-2147483648 by omega];rfl),rfl⟩
def aaf(n:U)(h:-2147483648<=n/\n<=2147483647)(w:aj):aB 214 #[aa n] w λe w'=>e=af n/\w=w':=by
 have a:IntKind.i32.wrap n=n:=by rw[IntKind.wrap_i32];omega
 refine cg;refine(aah n h w).mono ?_;exact VE
def aae(a b n:U)(bg:-2147483648<=a/\a<=2147483647)(al:-2147483648<=b/\b<=2147483647)(h:-2147483648<=n/\n<=2147483647)(aw:a+b=n)(w:aj):aB 278 #[af a,af b] w λe w'=>e=af n/\w=w':=by
 refine VS;have c:IntKind.i64.wrap (a+b)=n:=by rw[e0 _ I,aw]
 exact Tu
def aag(a b n:U)(bg:-2147483648<=a/\a<=2147483647)(al:-2147483648<=b/\b<=2147483647)(h:-2147483648<=n/\n<=2147483647)(aw:a-b=n)(w:aj):aB 281 #[af a,af b] w λe w'=>e=af n/\w=w':=by
 refine VS;have c:IntKind.i64.wrap (a-b)=n:=by rw[e0 _ I,aw]
 exact Tu
def ag1(a d x:U)(g:∀ w,aB 278 #[af a,af d] w λe w'=>e=af x/\w=w')(w:aj):aB 277 #[aG #[af a,af a],aG #[af d,af d],.func (.func 278) #[] #[]] w λe w'=>e=aG #[af x,af x]/\Below w w w':=by
 go_in
 go_wp2_with fail;refine jE 13 bc bc ?_;simp only[lC,mL,lz,k2]
 repeat (go_big_quiet_step ((exact(g _).mono λ_ _ h=>⟨h.1,_,h.2.symm⟩)))
 refine wpQuiet_nil ?_;intro _ b;obtain⟨nq,c⟩:=b;subst c;go_wp2_with fail;refine dH (v:=aG #[af x,af x]) zy rfl ?_;have f:=(((b9 w w).alloc bu (ab #[af a,af a] 91)).alloc aM (ab #[af d,af d] 91)).alloc b_ (ab cH 91);refine⟨rfl,k1 (k1 ?_ ?_ _) ?_ _⟩
 .exact vo
 all_goals show w.heap.size<=w.heap.size+1+1
 all_goals omega
def ag2(a d x:U)(g:∀ w,aB 281 #[af a,af d] w λe w'=>e=af x/\w=w')(w:aj):aB 277 #[aG #[af a,af a],aG #[af d,af d],.func (.func 281) #[] #[]] w λe w'=>e=aG #[af x,af x]/\Below w w w':=by
 go_in
 go_wp2_with fail;refine jE 13 bc bc ?_;simp only[lC,mL,lz,k2]
 repeat (go_big_quiet_step ((exact(g _).mono λ_ _ h=>⟨h.1,_,h.2.symm⟩)))
 refine wpQuiet_nil ?_;intro _ b;obtain⟨nq,c⟩:=b;subst c;go_wp2_with fail;refine dH (v:=aG #[af x,af x]) zy rfl ?_;have f:=(((b9 w w).alloc bu (ab #[af a,af a] 91)).alloc aM (ab #[af d,af d] 91)).alloc b_ (ab cH 91);refine⟨rfl,k1 (k1 ?_ ?_ _) ?_ _⟩
 .exact vo
 all_goals show w.heap.size<=w.heap.size+1+1
 all_goals omega
def agW(a d x:U)(j:∀ w,aB 278 #[af a,af d] w λe w'=>e=af x/\w=w')(w:aj):aB 211 #[aG #[af a,af a],aG #[af d,af d]] w λe w'=>e=aG #[af x,af x]/\Below w w w':=by
 have c:=(((b9 w w).alloc bu (ab #[af a,af a] 91)).alloc aM (ab #[af d,af d] 91)).alloc b_ (ab cH 91);have f:=aP ((w.alloc (ab #[af a,af a] 91)).alloc (ab #[af d,af d] 91)) (ab cH 91);have aU:=λW=>ag1 a d x j W
 go_in
 go_wp2_with fail;refine aS (aU _) λaq al=>?_;have i:=c.trans (al.mono c.size);have b:=(ag.bU (S:=aH) al a1).heap f id;have aA:((w.alloc (ab #[af a,af a] 91)).alloc (ab #[af d,af d] 91)).heap.size=w.heap.size+1+1:=aM;rw[aA]at b;have k:=aX b;have z0:=bV b;go_wp2_with fail;have h:=bX (bX b 0 (af x)) 1 (af x);have g:=fN _ _ _ _ h 2 rfl;simp only[CG,zs,zr]at g;refine dH (v:=aG #[af x,af x]) QJ rfl ?_;refine⟨rfl,k1 (k1 i ?_ _) ?_ _⟩
 all_goals show w.heap.size<=w.heap.size+1+1
 all_goals omega
def ag0(a d x:U)(j:∀ w,aB 281 #[af a,af d] w λe w'=>e=af x/\w=w')(w:aj):aB 213 #[aG #[af a,af a],aG #[af d,af d]] w λe w'=>e=aG #[af x,af x]/\Below w w w':=by
 have c:=(((b9 w w).alloc bu (ab #[af a,af a] 91)).alloc aM (ab #[af d,af d] 91)).alloc b_ (ab cH 91);have f:=aP ((w.alloc (ab #[af a,af a] 91)).alloc (ab #[af d,af d] 91)) (ab cH 91);have aU:=λW=>ag2 a d x j W
 go_in
 go_wp2_with fail;refine aS (aU _) λaq al=>?_;have i:=c.trans (al.mono c.size);have b:=(ag.bU (S:=aH) al a1).heap f id;have aA:((w.alloc (ab #[af a,af a] 91)).alloc (ab #[af d,af d] 91)).heap.size=w.heap.size+1+1:=aM;rw[aA]at b;have k:=aX b;have z0:=bV b;go_wp2_with fail;have h:=bX (bX b 0 (af x)) 1 (af x);have g:=fN _ _ _ _ h 2 rfl;simp only[CG,zs,zr]at g;refine dH (v:=aG #[af x,af x]) QK rfl ?_;refine⟨rfl,k1 (k1 i ?_ _) ?_ _⟩
 all_goals show w.heap.size<=w.heap.size+1+1
 all_goals omega
def O_(a b c d:U)(h1:a<=c)(h2:b<=d)(w:aj):aB 375 #[aG (d' a b c d)] w λe w'=>e=.returned (.bool true)/\Below w w w':=by
 refine kF;exact⟨by first|rfl|simp[h2],(b9 _ w).alloc bu _⟩
def Eb{w:aj}{t:TypeId}{bw bP bB e3:ay}(h:w.heap[b]?=some (ab #[bw,bP,bB,e3] t (0,0)))(v0 v1 v2 a:ay):((((w.setCell (ah b 0) v0).setCell (ah b 1) v1).setCell (ah b 2) v2).setCell (ah b 3) a).heap[b]?=some (ab #[v0,v1,v2,a] t (0,0)):=by
 have:=bX (bX (bX (bX h 0 v0) 1 v1) 2 v2) 3 a
 simpa using this
theorem t_{S:J->ae}{bo w:aj}(h:ag S bo w)(al:S b)(v0 v1 v2 a:ay):ag S bo ((((w.setCell (ah b 0) v0).setCell (ah b 1) v1).setCell (ah b 2) v2).setCell (ah b 3) a):=
 (((h.setCell (p:=ah b 0) al v0).setCell (p:=ah b 1) al v1).setCell (p:=ah b 2) al v2).setCell (p:=ah b 3) al a
def agY(w:aj):aB 369 #[aG (d' (-4194304) (-4194304) 4194304 4194304),af 262144] w λe w'=>e=aV #[aG (d' (-3932160) (-3932160) 3932160 3932160),true]/\Below w w w':=by
 have q:=λW=>agW (-4194304) 262144 (-3932160) (λw=>aae _ _ _ bs bs bs bs w) W;have ax:=λW=>ag0 4194304 262144 3932160 (λw=>aag _ _ _ bs bs bs bs w) W;have C:=λW=>O_ (-3932160) (-3932160) 3932160 3932160 bs bs W;have cp:=aP w (ab (d' (-4194304) (-4194304) 4194304 4194304) 214);have bS:=b2 (b2 cp (ab fc 214)) (ab #[af 262144,af 262144] 91);have n:=b2 (aP (w.alloc (ab (d' (-4194304) (-4194304) 4194304 4194304) 214)) (ab fc 214)) (ab #[af 262144,af 262144] 91);have o:=aP ((w.alloc (ab (d' (-4194304) (-4194304) 4194304 4194304) 214)).alloc (ab fc 214)) (ab #[af 262144,af 262144] 91);have y:=((((bd w).alloc (ab (d' (-4194304) (-4194304) 4194304 4194304) 214)).alloc (ab fc 214))).alloc (ab #[af 262144,af 262144] 91);simp only[ft]at n o;refine cg;generalize ((w.alloc (ab (d' (-4194304) (-4194304) 4194304 4194304) 214)).alloc (ab fc 214)).alloc (ab #[af 262144,af 262144] 91)=bo at *;have N:=lQ (S:=aH) (w:=bo.drew) (bb bS (k:=0) rfl) id;have P:=lQ (S:=aH) (w:=bo.drew) (bb bS (k:=1) rfl) id;have Q:=lQ (S:=aH) (w:=bo.drew) (bb bS (k:=2) rfl) id;have R:=lQ (S:=aH) (w:=bo.drew) (bb bS (k:=3) rfl) id;have V:=lQ (S:=aH) (w:=bo.drew) (bb o (k:=0) rfl) id;have X:=lQ (S:=aH) (w:=bo.drew) (bb o (k:=1) rfl) id;refine cS 11 ?_;refine ahw (λ_=>False) [0,1,2,4,5,6] [3,7,8,9] 1 rfl #[true,true,true,true,true,true,true,true,true,true,false] #[true,true,true,false,true,true,true,false,false,false,false] bc bc (λ_ _ _ d _ h=>zz) ?_;refine Dg;have a:ag aH bo bo.drew:=(ag.refl _ bo).drew;refine GJ 3 9 (λK c=>?_) (λK c=>?_)
 all_goals simp only[cD,gS]
 rotate_left
 focus
  go_simp;have g:(bo.alloc (ab fc 214)).drew.heap[bo.heap.size]?=some (ab fc 214 (0,0)):=aP bo (ab fc 214);have f:=((bd bo).alloc (ab fc 214)).drew;refine c _ _ (nL f) ?_;have a:=f;clear f;have⟨D,s⟩:=c8 bo.heap.size;have l:bo.heap.size<=D:=I;rw[<-s]at g⊢;clear s;generalize (bo.alloc (ab fc 214)).drew=wn at *
  try simp only[Act.put,dV]
  refine uH 3 (λK c=>?_);simp only[cD,gS];go_simp;refine aS (q _) λaq i=>?_;have f:=(a:ag aH bo wn).ga i;have j:=(ag.bU (S:=aH) i a1).heap g id;refine c _ _ (nL f) ?_;clear c K a i g;have a:=f;have g:=j;clear f j
  try simp only[Act.put,dV]
  refine uH 7 (λK c=>?_);simp only[cD,gS];go_simp;refine aS (ax _) λaF i=>?_;have f:=(a:ag aH bo aq).ga i;have j:=(ag.bU (S:=aH) i a1).heap g id;refine c _ _ (nL f) ?_;clear c K a i g;have a:=f;have g:=j;clear f j
  try simp only[Act.put,dV]
  refine uH 8 (λK c=>?_);simp only[cD,gS];go_simp;refine c _ _ (nL a) ?_;clear c K
  try simp only[Act.put,dV]
  obtain⟨m,rfl⟩:∃ x,x=aF:=⟨_,rfl⟩
 rotate_left
 focus
  go_simp;refine aS (q _) λaq i=>?_;have f:=(a:ag aH bo bo.drew).ga i;refine c _ _ (nL f) ?_;clear c K a i;have a:=f;clear f
  try simp only[Act.put,dV]
  refine GJ 7 9 (λK c=>?_) (λK c=>?_)
  all_goals simp only[cD,gS]
  rotate_left
  focus
   go_simp;have g:=aP aq (ab fc 214);have l:=a.size;have f:=a.alloc (ab fc 214);refine c _ _ (nL f) ?_;clear c K a;have a:=f;clear f
   try simp only[show ∀ W:aj,W.drew.heap=W.heap from λ_=>rfl]at g l a⊢
   generalize (aq).alloc (ab fc 214)=wn at *;generalize (aq).heap.size=D at *
   try simp only[Act.put,dV]
   refine uH 7 (λK c=>?_);simp only[cD,gS];go_simp;refine aS (ax _) λaF i=>?_;have f:=(a:ag aH bo wn).ga i;have j:=(ag.bU (S:=aH) i a1).heap g id;refine c _ _ (nL f) ?_;clear c K a i g;have a:=f;have g:=j;clear f j
   try simp only[Act.put,dV]
   refine uH 8 (λK c=>?_);simp only[cD,gS];go_simp;refine c _ _ (nL a) ?_;clear c K
   try simp only[Act.put,dV]
   obtain⟨m,rfl⟩:∃ x,x=aF:=⟨_,rfl⟩
  rotate_left
  focus
   go_simp;refine aS (ax _) λaF i=>?_;have f:=(a:ag aH bo aq).ga i;refine c _ _ (nL f) ?_;clear c K a i;have a:=f;clear f
   try simp only[Act.put,dV]
   refine GJ 8 9 (λK c=>?_) (λK c=>?_)
   all_goals simp only[cD,gS]
   rotate_left
   focus
    go_simp;have g:=aP aF (ab fc 214);have l:=a.size;have f:=a.alloc (ab fc 214);refine c _ _ (nL f) ?_;clear c K a;have a:=f;clear f
    try simp only[show ∀ W:aj,W.drew.heap=W.heap from λ_=>rfl]at g l a⊢
    generalize (aF).alloc (ab fc 214)=wn at *;generalize (aF).heap.size=D at *
    try simp only[Act.put,dV]
    refine uH 8 (λK c=>?_);simp only[cD,gS];go_simp;refine c _ _ (nL a) ?_;clear c K
    try simp only[Act.put,dV]
    obtain⟨m,rfl⟩:∃ x,x=wn:=⟨_,rfl⟩
   rotate_left
   focus
    go_simp;refine c _ _ (nL a) ?_;clear c K
    try simp only[Act.put,dV]
    refine uH 9 (λK c=>?_);simp only[cD,gS];go_simp;have g:=aP aF (ab fc 214);have l:=a.size;have f:=a.alloc (ab fc 214);refine c _ _ (nL f) ?_;clear c K a;have a:=f;clear f
    try simp only[show ∀ W:aj,W.drew.heap=W.heap from λ_=>rfl]at g l a⊢
    generalize (aF).alloc (ab fc 214)=wn at *;generalize (aF).heap.size=D at *
    try simp only[Act.put,dV]
    obtain⟨m,rfl⟩:∃ x,x=wn:=⟨_,rfl⟩
 all_goals
  refine aid bc ?_
  try simp only[Act.put,dV]
  have f0:=bV g;have g0:=aX g;refine hU (λ_=>True) [] [10] 0 ?_;refine qq (dB (t_ (ag.refl (λ_=>True) m) trivial _ _ _ _)) ?_;refine kt ?_;have r:=a.heap n id;have M:w.heap.size+1<bo.heap.size:=bZ n;have hne:w.heap.size+1≠D:=I;have t:=Eb g (af (-3932160)) (af (-3932160)) (af 3932160) (af 3932160);have E:=(((eB (eB (eB (eB r hne _) hne _) hne _) hne _):(((((m).setCell (ah D 0) (af (-3932160))).setCell (ah D 1) (af (-3932160))).setCell (ah D 2) (af 3932160)).setCell (ah D 3) (af 3932160)).heap[w.heap.size+1]?=some (ab fc 214 (0,0))));have H:=t_ ((y.trans a).mono (T:=λk=>k=D) (λ_ _ x=>x.elim)) (b:=D) rfl (af (-3932160)) (af (-3932160)) (af 3932160) (af 3932160);clear g0 f0 g r a;generalize ((((m).setCell (ah D 0) (af (-3932160))).setCell (ah D 1) (af (-3932160))).setCell (ah D 2) (af 3932160)).setCell (ah D 3) (af 3932160)=A at *;have g0:=aX t;go_wp2_with fail;refine aS (C _) λL u=>?_;clear g0;have z:ag aH A L:=(ag.refl _ A).ga u;have G:=z.heap t id;have p:=z.heap E id;have g0:=aX G;have f0:=bV p;have dq:=aX p;go_wp2_with fail;have F:=Eb p (af (-3932160)) (af (-3932160)) (af 3932160) (af 3932160);obtain⟨d0,d1,d2,B⟩:=Kx 0 1 2 3 F ⟨rfl,rfl,rfl,rfl⟩;refine dH (v:=aV #[aG (d' (-3932160) (-3932160) 3932160 3932160),true]) (by simp[results,results369,go_sem,d0,d1,d2,B]) rfl ?_;refine⟨rfl,(t_ ((H.ga u).mono (T:=λk=>k=D\/k=w.heap.size+1) λ_ _=>Or.inl) (Or.inr rfl) _ _ _ _).below bu (λk hk=>?_)⟩
  have:=y.size
  omega
def E5(w:aj):aB 359 #[] w λe w'=>e=aG (d' (-3932160) (-3932160) 3932160 3932160)/\Below w w w':=by
 have d:=aP w (ab fc 214);have f:=(bd w).alloc (ab fc 214);refine cg;generalize w.alloc (ab fc 214)=bo at *;refine aS ((λW=>A3 W) _) λaq a=>?_;refine aK;refine aS ((λW=>agY W) _) λaF b=>?_;refine Ua;have L:=b2 g (ab (d' (-3932160) (-3932160) 3932160 3932160) 214);have f0:=bV L;refine j1;refine aK;have h:=Eb L (af (-3932160)) (af (-3932160)) (af 3932160) (af 3932160);obtain⟨d1,d2,i⟩:=Kw 1 2 3 h ⟨rfl,rfl,rfl⟩;refine dH (v:=aG (d' (-3932160) (-3932160) 3932160 3932160)) (by simp[results,results359,go_sem,(bb h (k:=0) rfl),d1,d2,i]) rfl ?_;refine⟨rfl,(t_ (((c.alloc _)).mono (T:=λk=>k=w.heap.size) λ_ _ x=>x.elim) rfl _ _ _ _).below bu (λk hk=>?_)⟩;omega
theorem ej{w:aj}{p:Addr}{v:ay}(h:w.cell? p=some v)(x:k7 w):x.to.cell? p=some v:=
 (Qu (x.below.block p.block (oT w p h))).trans h
def h9(n a b:U):aY:=decide (a<=n)&&decide (n<=b)
def ue(f ao co fA e5 dF x y:U):aY:=h9 f 0 65535&&(h9 ao 0 3&&(h9 co 0 8&&(h9 fA 0 20&&(h9 e5 0 30&&(h9 dF 0 2&&(gm (-3932160) (-3932160) 3932160 3932160 x y&&(decide (ao>0) == decide (e5=0))))))))
def Mg(x y u v f ao co fA e5 dF:U)(w:aj):aB 344 #[aG (fU x y u v f ao co fA e5 dF)] w λe w'=>e=.returned (.bool (ue f ao co fA e5 dF x y))/\Below w w w':=by
 have h1:=λW=>pw f 0 65535 W;have h2:=λW=>pw ao 0 3 W;have a:=λW=>pw co 0 8 W;have d:=λW=>pw fA 0 20 W;have g:=λW=>pw e5 0 30 W;have i:=λW=>pw dF 0 2 W;have j:=λW=>Gn (-3932160) (-3932160) 3932160 3932160 x y W;unfold ue h9;generalize (decide (0<=f)&&decide (f<=65535))=bP at *;generalize (decide (0<=ao)&&decide (ao<=3))=bB at *;generalize (decide (0<=co)&&decide (co<=8))=e3 at *;generalize (decide (0<=fA)&&decide (fA<=20))=e4 at *;generalize (decide (0<=e5)&&decide (e5<=30))=hA at *;generalize (decide (0<=dF)&&decide (dF<=2))=eI at *;generalize gm (-3932160) (-3932160) 3932160 3932160 x y=dv at *;have m:=ej (bb (aP w (ab (fU x y u v f ao co fA e5 dF) 93)) (k:=0) rfl);have n:=ej (bb (aP w (ab (fU x y u v f ao co fA e5 dF) 93)) (k:=1) rfl);have o:=ej (bb (aP w (ab (fU x y u v f ao co fA e5 dF) 93)) (k:=2) rfl);have p:=ej (bb (aP w (ab (fU x y u v f ao co fA e5 dF) 93)) (k:=3) rfl);have q:=ej (bb (aP w (ab (fU x y u v f ao co fA e5 dF) 93)) (k:=4) rfl);have r:=ej (bb (aP w (ab (fU x y u v f ao co fA e5 dF) 93)) (k:=5) rfl);have s:=ej (bb (aP w (ab (fU x y u v f ao co fA e5 dF) 93)) (k:=6) rfl);have t:=ej (bb (aP w (ab (fU x y u v f ao co fA e5 dF) 93)) (k:=7) rfl);have z:=ej (bb (aP w (ab (fU x y u v f ao co fA e5 dF) 93)) (k:=8) rfl);have A:=ej (bb (aP w (ab (fU x y u v f ao co fA e5 dF) 93)) (k:=9) rfl);cases bP
 .exact vi
 skip
 cases bB
 .exact vi
 skip
 cases e3
 .exact vi
 skip
 cases e4
 .exact vi
 skip
 cases hA
 .exact vi
 skip
 cases eI
 .exact vi
 skip
 cases dv
 .exact vi
 skip
 by_cases l:ao>0<;>by_cases h:e5=0
 all_goals
  try subst h
  go_in
  go_wp2_with fail;refine rW bc bc ?_
  repeat (go_big_quiet_step (first|(go_at_call 345;first|(with_reducible exact Calls.ko (h1 _))|(with_reducible exact Calls.ko (h2 _))|(with_reducible exact Calls.ko (a _))|(with_reducible exact Calls.ko (d _))|(with_reducible exact Calls.ko (g _))|(with_reducible exact Calls.ko (i _)))|(go_at_call 359;exact Calls.kn (E5 _))|(go_at_call 353;exact Calls.kn (j _))))
  refine wpQuiet_nil ?_;intro _ b;obtain⟨cB,c⟩:=b;subst c;go_wp2_with fail;go_ret;exact⟨by first|rfl|simp_all,(((b9 _ w).alloc bu _).trans (cB.below.mono aM))⟩
def yr(x y u v dZ a:U):aY:=decide (x=0/\y=0/\u=0/\v=0/\dZ=0/\a=0)
def ag'(a b c d e f:U)(w:aj):(binOp .eql 96 (aG #[af a,af b,af c,af d,aa e,aa f]) (aG #[af 0,af 0,af 0,af 0,aa 0,aa 0])).run prog w=.ok (.bool (yr a b c d e f)) w:=by
 have o:=underlying3;have h:=isAgg3;have q:=sizeOf3;have p:=underlying89;have m:=isAgg89;have z4:=sizeOf89;have n:=isAgg91;have r:=sizeOf91;refine Tc;have a_:=GU;rw[run_eql_struct,show(10000:J)=9999+1 from rfl,Hq w 9999 96 _ _ ax ao];simp only[Program.fieldsOf,underlying96];unfold yr;clear ax ao;exact R6
def wX(x y u v dZ a:U):aY:=yr x y u v dZ a || (h9 dZ 1 2&&(h9 a 1 40&&gm (-4194304) (-4194304) 4194304 4194304 x y))
def aaL(x y u v dZ a:U)(w:aj):aB 343 #[aG #[af x,af y,af u,af v,aa dZ,aa a]] w λe w'=>e=.returned (.bool (wX x y u v dZ a))/\Below w w w':=by
 have h1:=λW=>pw dZ 1 2 W;have h2:=λW=>pw a 1 40 W;have d:=λW=>Gn (-4194304) (-4194304) 4194304 4194304 x y W;have f:=λW=>ag' x y u v dZ a W;unfold wX h9;generalize (decide (1<=dZ)&&decide (dZ<=2))=bP at *;generalize (decide (1<=a)&&decide (a<=40))=bB at *;generalize gm (-4194304) (-4194304) 4194304 4194304 x y=dv at *;generalize yr x y u v dZ a=bw at *;have g:=ej (bb (aP w (ab #[af x,af y,af u,af v,aa dZ,aa a] 96)) (k:=0) rfl);have h:=ej (bb (aP w (ab #[af x,af y,af u,af v,aa dZ,aa a] 96)) (k:=1) rfl);have i:=ej (bb (aP w (ab #[af x,af y,af u,af v,aa dZ,aa a] 96)) (k:=2) rfl);have j:=ej (bb (aP w (ab #[af x,af y,af u,af v,aa dZ,aa a] 96)) (k:=3) rfl);have l:=ej (bb (aP w (ab #[af x,af y,af u,af v,aa dZ,aa a] 96)) (k:=4) rfl);have m:=ej (bb (aP w (ab #[af x,af y,af u,af v,aa dZ,aa a] 96)) (k:=5) rfl);cases bw
 .cases bP
  .exact H8
  cases bB
  .exact H8
  cases dv
  all_goals
   go_in
   go_wp2_with fail;refine rW bc bc ?_
   repeat (go_big_quiet_step (first|(go_at_call 345;first|(with_reducible exact Calls.ko (h1 _))|(with_reducible exact Calls.ko (h2 _)))|(go_at_call 354;exact Calls.kn (A3 _))|(go_at_call 353;exact Calls.kn (d _))))
   refine wpQuiet_nil ?_;intro _ b;obtain⟨cB,c⟩:=b;subst c;go_wp2_with fail;go_ret;exact⟨by first|rfl|simp_all,(((b9 _ w).alloc bu _).trans (cB.below.mono aM))⟩
 exact H8
def qD(v:J->U)(j:J):aY:=wX (v (24+6*j)) (v (25+6*j)) (v (26+6*j)) (v (27+6*j)) (v (28+6*j)) (v (29+6*j))
def oI(v:J->U)(o:J):aY:=ue (v (o+4)) (v (o+5)) (v (o+6)) (v (o+7)) (v (o+8)) (v (o+9)) (v o) (v (o+1))
def qF(v:J->U):J->aY
 | 0=>true
 | j+1=>qF v j&&qD v j
def mE(v:J->U):aY:=qF v 6&&(oI v 4&&(oI v 14&&(h9 (v 0) 0 1073741824&&(h9 (v 2) 0 1073741824&&h9 (v 3) 1 600))))
def Pc{v:J->U}(h:qD v j=false)(b:j<6):qF v 6=false:=by
 have:∀ k,j+1+k<=6->qF v (j+1+k)=false:=by
  intro k
  induction k with
  | zero=>intro _;simp[qF,h]
  | succ k a=>intro hk;rw[show j+1+(k+1)=(j+1+k)+1 by omega];simp[qF,a b4]
 have:=this (6-(j+1)) I
 rwa [show j+1+(6-(j+1))=6 by omega]at this
def wN(v:J->U)(o:J):a6 ay:=#[af (v o),af (v (o+1)),af (v (o+2)),af (v (o+3)),aa (v (o+4)),aa (v (o+5)),aa (v (o+6)),aa (v (o+7)),aa (v (o+8)),aa (v (o+9))]
structure Kc(w wr:aj)(v:J->U)(B:J)(j:J):ae where
 bh:wr.heap[B]?=some (ab (aQ v) 99 (0,0))
 pk:Below w w wr
 ok:qF v j=true
def Md(v:J->U)(w:aj):aB 322 #[.agg (aQ v)] w λe w'=>e=.returned (.bool (mE v))/\Below w w w':=by
 go_in
 have h:=aP w (ab (aQ v) 99);have u:=ad (show Kc w (w.alloc (ab (aQ v) 99)) v w 0 from⟨h,((b9 w w).alloc bu (ab (aQ v) 99)),rfl⟩);go_wp2_with (refine dg (Gb v w _ _ h) rfl rfl rfl ?_);generalize w.alloc (ab (aQ v) 99)=bo at *;generalize C:w.heap.size=B at *;go_loopw [7] (λi wr=>∃ j:J,j<=6/\i=aa j/\Hid (Kc w wr v B j)) (λi _=>6-(intOf i).toNat)
 case atStart=>exact⟨0,I,rfl,u⟩
 refine Ix;by_cases D:(j:U)<6
 .have t:=Ga v j I;unfold qE at t;have l:=λW=>aaL (v (24+6*j)) (v (25+6*j)) (v (26+6*j)) (v (27+6*j)) (v (28+6*j)) (v (29+6*j)) W;rw[show wX (v (24+6*j)) (v (25+6*j)) (v (26+6*j)) (v (27+6*j)) (v (28+6*j)) (v (29+6*j))=qD v j from rfl]at l;refine aK;refine aS (l _) λaq d=>?_;refine ajA;cases aA:qD v j
  .have y:=Pc aA I;have c:=aU.out.pk.trans (a.below aU.out.pk.size (λk _ x=>x));refine aK;go_ret;exact⟨by simp[mE,y],c⟩
  refine aK;go_roundw
  case rel=>
   exact⟨j+1,I,cT,⟨a.heap aU.out.bh id,aU.out.pk.trans (a.below aU.out.pk.size (λk _ x=>x)),by simp[qF,aU.out.ok,aA]⟩⟩
  simp[intOf];omega
 obtain rfl:j=6:=I;obtain⟨h1,h2,s⟩:=aU.out;have m:=λW=>Mg (v 4) (v 5) (v 6) (v 7) (v 8) (v 9) (v 10) (v 11) (v 12) (v 13) W;have n:=λW=>Mg (v 14) (v 15) (v 16) (v 17) (v 18) (v 19) (v 20) (v 21) (v 22) (v 23) W;rw[show ue (v 8) (v 9) (v 10) (v 11) (v 12) (v 13) (v 4) (v 5)=oI v 4 from rfl]at m;rw[show ue (v 18) (v 19) (v 20) (v 21) (v 22) (v 23) (v 14) (v 15)=oI v 14 from rfl]at n;have b:=λW=>pw (v 0) 0 1073741824 W;have p:=λW=>pw (v 2) 0 1073741824 W;have q:=λW=>pw (v 3) 1 600 W;rw[show(decide (0<=v 0)&&decide (v 0<=1073741824))=h9 (v 0) 0 1073741824 from rfl]at b;rw[show(decide (0<=v 2)&&decide (v 2<=1073741824))=h9 (v 2) 0 1073741824 from rfl]at p;rw[show(decide (1<=v 3)&&decide (v 3<=600))=h9 (v 3) 1 600 from rfl]at q;have z:mE v=(oI v 4&&(oI v 14&&(h9 (v 0) 0 1073741824&&(h9 (v 2) 0 1073741824&&h9 (v 3) 1 600)))):=by simp[mE,s]
 generalize oI v 4=bP at *;generalize oI v 14=bB at *;generalize h9 (v 0) 0 1073741824=e3 at *;generalize h9 (v 2) 0 1073741824=e4 at *;generalize h9 (v 3) 1 600=hA at *;have r:=ad z;have fo:=bb h1 (dO v (o:=4) I);have fr:=bb h1 (dO v (o:=5) I);have gf:=bb h1 (dO v (o:=6) I);have g':=bb h1 (dO v (o:=7) I);have hd:=bb h1 (dO v (o:=8) I);have lb:f.cell? (ah B 9)=some (aa (v 9)):=bb h1 (dO v (o:=9) I);have F:f.cell? (ah B 10)=some (aa (v 10)):=bb h1 (dO v (o:=10) I);have H:f.cell? (ah B 11)=some (aa (v 11)):=bb h1 (dO v (o:=11) I);have K:f.cell? (ah B 12)=some (aa (v 12)):=bb h1 (dO v (o:=12) I);have L:f.cell? (ah B 13)=some (aa (v 13)):=bb h1 (dO v (o:=13) I);refine aK;refine aS (m _) λaq d=>?_;have a:=(bd f).ga d;have g1:=a.heap h1 id;have c:=h2.trans (a.below h2.size (λk _ x=>x));cases bP
 .refine aK;go_ret;exact⟨by rw[r.o];first|rfl|simp,c⟩
 have M:aq.cell? (ah B 14)=some (af (v 14)):=bb g1 (dO v (o:=14) I);have N:aq.cell? (ah B 15)=some (af (v 15)):=bb g1 (dO v (o:=15) I);have P:aq.cell? (ah B 16)=some (af (v 16)):=bb g1 (dO v (o:=16) I);have Q:aq.cell? (ah B 17)=some (af (v 17)):=bb g1 (dO v (o:=17) I);have R:aq.cell? (ah B 18)=some (aa (v 18)):=bb g1 (dO v (o:=18) I);have S:aq.cell? (ah B 19)=some (aa (v 19)):=bb g1 (dO v (o:=19) I);have V:aq.cell? (ah B 20)=some (aa (v 20)):=bb g1 (dO v (o:=20) I);have X:aq.cell? (ah B 21)=some (aa (v 21)):=bb g1 (dO v (o:=21) I);have Y:aq.cell? (ah B 22)=some (aa (v 22)):=bb g1 (dO v (o:=22) I);have Z:aq.cell? (ah B 23)=some (aa (v 23)):=bb g1 (dO v (o:=23) I);refine aK;refine aS (n _) λaF d=>?_;have a:=(bd aq).ga d;have g:=a.heap g1 id;have A:=c.trans (a.below c.size (λk _ x=>x));cases bB
 .exact zN
 have E:aF.cell? (ah B 0)=some (aa (v 0)):=bb g (dO v (o:=0) I);have T:aF.cell? (ah B 2)=some (aa (v 2)):=bb g (dO v (o:=2) I);have a':aF.cell? (ah B 3)=some (aa (v 3)):=bb g (dO v (o:=3) I);refine DQ;cases e3
 .exact zN
 refine aK;refine bJ (p _) ?_;cases e4
 .exact zN
 refine aK;refine bJ (q _) ?_;cases hA
 .exact zN
 exact zN
variable{eT:Type}{c:gj eT}{B:J}{p:eT×(J->U)}{k:J}
def ahF(c:gj eT)(p:eT×(J->U)):c.step p 1=((c.aH p.1 (p.2 1)).1,bn p.2 1 (IntKind.u32.wrap (c.aH p.1 (p.2 1)).2)):=rfl
def Z2(an:c.qf){w w':aj}{f:J}(aw:p.2 1=n)(h:Fr c w B p f)(h1:c.fl (c.aH p.1 n).1 k w')(h2:w'.heap[B]?=w.heap[B]?):Fr c (w'.setCell (ah B 1) (bz (IntKind.u32.wrap (c.aH p.1 n).2))) B (c.step p 1) k:=by
 subst aw;rw[ahF];have g:=h2.trans h.bh;refine⟨an.keeps (S:=λb=>b=B) h1 (ag.setCell (S:=λb=>b=B) (ag.refl _ _) (p:=ah B 1) rfl _) (λe=>h.ne e.symm),?_,h.ne,λj i=>?_⟩
 .rw[bX g];exact c6 some (c6 (λa=>ab a _ (0,0)) (yB p.2 1 _))
 simp only[bn];by_cases e:j=1
 .subst e;rw[aD rfl];have d:=h.fit 1 I;refine⟨?_,λ_=>an.okW _ _ d.1 (d.2 bs)⟩;show 0<=IntKind.u32.wrap _/\_;rw[wrap_u32];omega
 rw[az e];exact h.fit j i
def Mo:ai J:=[0,1,2,3]
def mC(j:J):ai J:=Mo++(range j).flatMap λi=>sW (4+10*i) 6
def ahI(c:gj eT)(p:eT×(J->U))(j:J):c.steps p (mC (j+1))=c.steps (c.steps p (mC j)) (sW (4+10*j) 6):=by
 unfold mC gj.steps;rw[th,td,<-eh,te];simp
structure Kj(c:gj eT)(w wr:aj)(B k:J)(p:eT×(J->U))(j:J):ae where
 fr:Fr c wr B (c.steps p (mC j)) (k+37+10*(2-j))
 keeps:ag (nh c B) w wr
def hi(v:J->U):J->J
 | 0=>0
 | j+1=>hi v j+if mA v j then 0 else 2 ^ j
theorem x7(v:J->U):∀ j,hi v j<2 ^ j
 | 0=>by simp[hi]
 | j+1=>by
  have h:=x7 v j;have h2:2 ^ (j+1)=2*2 ^ j:=by rw[n',o4]
  unfold hi;split<;>omega
def adF:∀ j:Fin 6,∀ b:Fin 64,b.val<2 ^ j.val->bits .or .i64 (b.val:U) (wrap64 (2 ^ j.val))=((b.val+2 ^ j.val:J):U):=by decide +kernel
def adG(v:J->U)(j:J)(h:j<6)(b:¬ mA v j):bits .or .i64 (hi v j:J) (wrap64 (2 ^ j))=(hi v (j+1):J):=by
 have h1:=x7 v j;have h2:2 ^ j<=2 ^ 6:=tl bs I;have a:=adF ⟨j,h⟩ ⟨hi v j,I⟩ h1;rw[show hi v (j+1)=hi v j+2 ^ j by simp[hi,b]];exact a
structure Ju(c:gj eT)(w wr:aj)(B N k:J)(p:eT×(J->U))(j:J):ae where
 fr:Fr c wr B p (k+37)
 bit:wr.heap[N]?=some (ab #[aa (hi p.2 j:J)] 3 (0,0))
 adn:N≠c.r
 ado:N≠B
 new:w.heap.size<=N
 keeps:ag (nh c B) w wr
def mG(c:gj eT)(y:U)(p:eT×(J->U)):J->eT×(J->U)
 | 0=>p
 | j+1=>if bits .and .i64 (y / 2 ^ j) 1=1 then c.steps (mG c y p j) (uy (24+6*j))else mG c y p j
structure Kd(c:gj eT)(w wr:aj)(B N k:J)(y:U)(p:eT×(J->U))(j:J):ae where
 fr:Fr c wr B (mG c y p j) (k+6*(6-j))
 bit:wr.heap[N]?=some (ab #[aa y] 3 (0,0))
 adn:N≠c.r
 ado:N≠B
 keeps:ag (nh c B) w wr
def Gx(c:gj eT)(p:eT×(J->U)):eT×(J->U):=
 mG c (c.aH (c.steps p (mC 2)).1 (hi (c.steps p (mC 2)).2 6:J)).2 ((c.aH (c.steps p (mC 2)).1 (hi (c.steps p (mC 2)).2 6:J)).1,(c.steps p (mC 2)).2) 6
def ahe(j:J)(h:j<6):dw (24+6*j)=.i32/\dw (24+6*j+1)=.i32/\dw (24+6*j+2)=.i32/\dw (24+6*j+3)=.i32/\dw (24+6*j+4)=.i64/\dw (24+6*j+5)=.i64:=by
 match j,h with
 | 0,_=>decide
 | 1,_=>decide
 | 2,_=>decide
 | 3,_=>decide
 | 4,_=>decide
 | 5,_=>decide
def Z4(an:c.qf)(w:aj)(h:Fr c w B p (k+61)):aB 356 #[c.val,B] w λe w'=>e=aV #[]/\Fr c w' B (Gx c p) k/\ag (nh c B) w w':=by
 have akg:=an.D8;have akf:=an.nf;have ake:=an.AI;have dq:w.cell? (ah B 1)=some (bz (p.2 1)):=bb h.bh (dO p.2 (o:=1) I);have gf:=h.fit 1 I;have aj4:0<=p.2 1/\p.2 1<=4294967295:=gf.1;have ajY:IntKind.i64.wrap (p.2 1)=p.2 1:=e0 _ I;have g':ag aH w (w.alloc (ab #[aa (p.2 1)] 3)):=(ag.refl _ w).alloc _;have se:=aP w (ab #[aa (p.2 1)] 3);have vs:=h.keeps an g' id id;have ajV:c.rA (p.2 1):=gf.2 bs;have aki:=bZ h.bh;have akj:=an.there h.st;clear gf h;generalize aw:p.2 1=n at *
 go_in
 go_wp2_with fail;generalize w.alloc (ab #[aa n] 3)=bo at *;generalize akd:w.heap.size=D at *;have v':=vs.drew an;refine cS 8 ?_;refine hU (λ_=>True) (.range 4) [4,5,6,7] 0 ?_;refine iU λK a=>?_;go_simp;refine a _ _ (dB (ag.refl _ _)) ?_;clear a K;refine iU λK a=>?_;go_simp;refine a _ _ (dB (ag.refl _ _)) ?_;clear a K;refine iU λK a=>?_;go_simp;refine a _ _ (dB (ag.refl _ _)) ?_;clear a K;refine lU λK a=>?_;go_simp;refine aS (wg an 0 I rfl _ v') λaq ⟨t,H⟩=>?_;refine a _ _ (dB (H.mono λ_ _ _=>trivial)) ?_;clear a K;refine kt ?_;have s':=H.heap (k:=D) se (λh=>h.elim a1 a1);have ajT:(c.step p 0).2 1=n:=aw;generalize ajW:c.step p 0=z at *;go_wp2_with fail;refine aS (an.num _ t.st s' I rfl (by unfold ow;omega) ajV) λaF ⟨V',vl,hd⟩=>?_;have E:aF.heap[B]?=aq.heap[B]?:=hd.block B (bZ t.bh) (λh=>h.elim t.ne a1);have W:=Z2 an ajT t V' E;have aj':=aX vl;have dH:=bb (E.trans t.bh) (dO z.2 (o:=1) I);have cN:=bV (E.trans t.bh);have W':ag (λb=>b=B) aF (aF.setCell (ah B 1) (bz (IntKind.u32.wrap (c.aH z.1 n).2))):=ag.setCell (S:=λb=>b=B) (ag.refl _ _) (p:=ah B 1) rfl _;have Z:=c1 (c1 (c1 (S:=nh c B) (g'.mono λ_ _ x=>x.elim) ((ag.refl _ bo).drew.trans H) (λ_ _ x=>x)) hd (λj G ak=>ak.elim Or.inl a1)) W' (λj G ak=>Or.inr ak);go_wp2_with fail;clear W';rw[wrap_u32]at Z W;generalize aF.setCell (ah B 1) (bz ((c.aH z.1 n).2%4294967296))=br at *;generalize ajX:c.step z 1=aj9 at *;have ys:=W.drew an;clear aj' dH cN E hd H g' vl V' s' se t vs v' dq ajY ajT ajV aj4 aw;refine cS 8 ?_;refine hU (λ_=>True) (.range 4) [4,5,6,7] 0 ?_;refine iU λK a=>?_;go_simp;refine a _ _ (dB (ag.refl _ _)) ?_;clear a K;refine iU λK a=>?_;go_simp;refine a _ _ (dB (ag.refl _ _)) ?_;clear a K;refine iU λK a=>?_;go_simp;refine a _ _ (dB (ag.refl _ _)) ?_;clear a K;refine lU λK a=>?_;go_simp;refine aS (wg an 2 I rfl _ ys) λakl ⟨zd,lb⟩=>?_;refine a _ _ (dB (lb.mono λ_ _ _=>trivial)) ?_;clear a K;refine kt ?_;have zp:=zd.drew an;go_wp2_with fail;refine cS 8 ?_;refine hU (λ_=>True) (.range 4) [4,5,6,7] 0 ?_;refine iU λK a=>?_;go_simp;refine a _ _ (dB (ag.refl _ _)) ?_;clear a K;refine iU λK a=>?_;go_simp;refine a _ _ (dB (ag.refl _ _)) ?_;clear a K;refine iU λK a=>?_;go_simp;refine a _ _ (dB (ag.refl _ _)) ?_;clear a K;refine lU λK a=>?_;go_simp;refine aS (wg an 3 I rfl _ zp) λaj_ ⟨X,l'⟩=>?_;refine a _ _ (dB (l'.mono λ_ _ _=>trivial)) ?_;clear a K;refine kt ?_;have T':=(Z.drew.trans lb).drew.trans l';clear lb l' Z zp zd ys W;have u:c.step (c.step aj9 2) 3=c.steps p Mo:=by subst ajX;subst ajW;rfl
 rw[u]at X;clear u ajW ajX;have P:=ad (show Kj c w aj_ B k p 0 from⟨X,T'⟩);clear X T';generalize (c.aH z.1 n).2%4294967296=akp at *;generalize (c.aH z.1 n).2=z2 at *;go_wp2_with fail;go_loopw [5,46] (λ_ i wr=>∃ j:J,j<=2/\i=aa j/\Hid (Kj c w wr B k p j)) (λ_ i _=>2-(intOf i).toNat)
 case atStart=>exact⟨0,I,rfl,P⟩
 refine Tp;by_cases ajS:(j:U)<2
 .have a':aB 367 #[c.val,.pointer (dk B (4+10*j))] f λe w'=>e=aV #[]/\Fr c w' B (c.steps (c.steps p (mC j)) (sW (4+10*j) 6)) (k+37+10*(2-(j+1)))/\ag (nh c B) f w':=by
   have l:=aU.out.fr;rw[show k+37+10*(2-j)=(k+37+10*(2-(j+1)))+10 by omega]at l;obtain rfl|rfl:j=0\/j=1:=I
   .exact LL an 4 I rfl rfl rfl rfl bs _ l
   exact LL an 14 I rfl rfl rfl rfl bs _ l
  rw[<-ahI]at a';rw[show 4+10*j=4+j*10 by omega]at a';refine aK;refine aS a' λakm ⟨aj1,aj5⟩=>?_;refine aK;go_roundw
  case rel=>exact⟨j+1,I,cT,⟨aj1,aU.out.keeps.trans aj5⟩⟩
  simp[intOf];omega
 obtain rfl:j=2:=I;have l:=aU.out.fr;have a:=aU.out.keeps;clear aU;have akc:=bZ l.bh;have E:=an.there l.st;have m':ag aH f (f.alloc (ab #[aa 0] 3)):=(ag.refl _ f).alloc _;have Y:=l.keeps an m' id id;generalize aj6:c.steps p (mC 2)=d at *;have r':=ad (show Ju c w (f.alloc (ab #[aa 0] 3)) B f k d 0 from⟨Y,aP f _,I,I,a.size,a.trans (m'.mono λ_ _ x=>x.elim)⟩);have ajR:=Gb d.2 B _ _ Y.bh;clear l a m' Y;go_wp2_with (refine dg ajR rfl rfl rfl ?_);generalize f.alloc (ab #[aa 0] 3)=akn at *;generalize akh:f.heap.size=N at *;go_loopw [7,8,61] (λ_ _ i wr=>∃ j:J,j<=6/\i=aa j/\Hid (Ju c w wr B N k d j)) (λ_ _ i _=>6-(intOf i).toNat)
 case atStart=>exact⟨0,I,rfl,r'⟩
 obtain⟨j,G,rfl,aU⟩:=hrel;obtain⟨v,rfl⟩:∃ v:aj,v=wr:=⟨_,rfl⟩;clear r' ajR;by_cases ajS:(j:U)<6
 .have TS:=Ga d.2 j I;have al:=aU.out.bit;unfold qE at TS;by_cases Q:mA d.2 j
  .have u:=aha d.2 j Q;refine aK;go_roundw
   case rel=>
    have⟨h1,h2,g,m,r,q⟩:=aU.out;exact⟨j+1,I,cT,⟨h1.keeps an ((bd v).alloc _) id id,by rw[show hi d.2 (j+1)=hi d.2 j by simp[hi,Q]];exact b2 h2 _,g,m,r,q.alloc _⟩⟩
   simp[intOf];omega
  have u:=ahc d.2 j Q;refine aK;generalize ps:v.alloc _=s;have L:s.heap[N]?=some (ab #[aa (hi d.2 j:J)] 3 (0,0)):=ps▸b2 al _;have M:ag aH v s:=ps▸(ag.refl _ v).alloc _;refine j1;have ako:=bV L;clear TS u ps;refine jE 4 bc bc ?_;refine vk
  repeat (go_big_quiet_step ((fail)))
  refine vm;rw[adG d.2 j I Q];generalize wrap64 (2 ^ j)=iX;refine aK;go_roundw
  case rel=>
   obtain⟨h1,h2,g,m,r,q⟩:=aU.out;have F:ag (λb=>b=N) v ((s.drewN nq).setCell (ah N 0) (aa (hi d.2 (j+1):J))):=ag.setCell (S:=λb=>b=N) ((M.drewN nq).mono λ_ _ x=>x.elim) (p:=ah N 0) rfl _;exact⟨j+1,I,cT,⟨h1.keeps an F (λe=>g e.symm) (λe=>m e.symm),by have:=bX (w:=s.drewN nq) L 0 (aa (hi d.2 (j+1):J));simpa using this,g,m,r,c1 q F a1⟩⟩
  simp[intOf];omega
 obtain rfl:j=6:=I;have ajZ:=aU.out;clear aU;obtain⟨h1,h2,g,m,r,q⟩:=ajZ;have aj2:=x7 d.2 6;have ajU:=an.num (n:=(hi d.2 6:J)) (o:=0) _ h1.st h2 g rfl (by unfold ow;omega) (an.okB _ I);generalize aj3:(hi d.2 6:U)=C at *;refine aK;refine aS ajU λs ⟨g1,g2,R⟩=>?_;have M:ag (nh c B) w s:=c1 q R (λx ak e=>e.elim Or.inl a1);have Tq:Fr c s B ((c.aH d.1 C).1,d.2) (k+36):=⟨g1,(R.block B (bZ h1.bh) (λe=>e.elim h1.ne (λe=>m e.symm))).trans h1.bh,h1.ne,h1.fit⟩;have sd:=ad (show Kd c w s B N k (c.aH d.1 C).2 ((c.aH d.1 C).1,d.2) 0 from⟨Tq,g2,g,m,M⟩);clear h1 h2 g m q r aj2 ajU g1 g2 R M Tq;generalize a8:(c.aH d.1 C).2=y at *;generalize aj7:((c.aH d.1 C).1,d.2)=A at *;refine aK;go_loopw [9,75] (λ_ i wr=>∃ j:J,j<=6/\i=aa j/\Hid (Kd c w wr B N k y A j)) (λ_ i _=>6-(intOf i).toNat)
 case atStart=>exact⟨0,I,rfl,sd⟩
 refine Ix;clear sd;by_cases ajS:(j:U)<6
 .have dq:=aX aU.out.bit;by_cases Q:bits .and .i64 (y / 2 ^ j) 1=1
  .have aj8:(bits .and .i64 (y / 2 ^ j) 1 == 1)=true:=by rw[iY];exact Q
   have l:=aU.out.fr;rw[show k+6*(6-j)=(k+6*(6-(j+1)))+6 by omega]at l;have⟨mv,fo,bK,V,Q',T⟩:=ahe j I;have ax:=Z3 an (24+6*j) I mv fo bK V Q' T _ l;rw[show c.steps (mG c y A j) (uy (24+6*j))=mG c y A (j+1)by simp[mG,Q],show 24+6*j=24+j*6 by omega]at ax;refine IV;refine aS ax λakk ⟨aj0,F⟩=>?_;refine aK;go_roundw
   case rel=>
    have⟨h1,h2,g,m,q⟩:=aU.out;exact⟨j+1,I,cT,⟨aj0,F.heap h2 (λe=>e.elim g m),g,m,q.trans F⟩⟩
   simp[intOf];omega
  have aj8:(bits .and .i64 (y / 2 ^ j) 1 == 1)=false:=by rw[ep];exact Q
  have u:mG c y A (j+1)=mG c y A j:=by simp[mG,Q]
  clear Q;refine aK;go_roundw
  case rel=>
   have⟨h1,h2,g,m,q⟩:=aU.out;have r:Fr c f B (mG c y A j) ((k+6*(6-(j+1)))+6):=by rw[show(k+6*(6-(j+1)))+6=k+6*(6-j)by omega];exact h1
   exact⟨j+1,I,cT,⟨by rw[u];exact⟨an.less r.st,r.bh,r.ne,r.fit⟩,h2,g,m,q⟩⟩
  simp[intOf];omega
 obtain rfl:j=6:=I;obtain⟨h1,h2,g,m,q⟩:=aU.out;clear aU;go_wp2;refine Dq;subst aj7;subst a8;subst aj3;subst aj6;exact⟨rfl,h1,q⟩
def uP(r:J):gj (ai aR) where
 T:=482
 r:=r
 vZ:=424
 v7:=425
 fl S k w:=vC w r S/\S.length+10*k<=9223372036854775807
 aH S n:=(S++num n.toNat,n)
 uo S n:=(S++num (gP n),n)
 rA n:=0<=n
def adq(r:J)(w:aj):(nilAhead 647 482 r "promptbook/freeze.number").run prog w=.ok (some false) w:=bc
def adr(r:J)(w:aj):(nilAhead 647 482 r "promptbook/freeze.signed").run prog w=.ok (some false) w:=bc
def acM(r:J)(w:aj):(method 647 482 r "promptbook/freeze.number").run prog w=.ok (424,bM r) w:=bc
def acN(r:J)(w:aj):(method 647 482 r "promptbook/freeze.signed").run prog w=.ok (425,bM r) w:=bc
def Y_(x y:ay)(w:aj):(callFunc 424 #[x,y]).run prog w=.ok (.enter 424 #[x,y]) w:=bc
def Y'(x y:ay)(w:aj):(callFunc 425 #[x,y]).run prog w=.ok (.enter 425 #[x,y]) w:=bc
def aja(r:J):(uP r).qf where
 D8:=adq r
 Kl:=adr r
 nf:=acM r
 cS:=acN r
 AI:=Y_
 Li:=Y'
 keeps h hk g:=⟨hk.heap h.1 g,h.2⟩
 less h:=⟨h.1,by have:=h.2;omega⟩
 there h:=bZ h.1
 num:=by
  intro S k B o cs t n w h e hne an a ar;obtain⟨m,rfl⟩:=mJ ar;have a:-9223372036854775808<=(m:U)/\(m:U)<=9223372036854775807:=a;have f:=pD m sb;have h2:=h.2;refine aS (ajb r B o S cs t m h.1 e hne an I I) ?_;rintro w' ⟨b,c,d⟩;refine⟨rfl,⟨b,?_⟩,?_,d.mono λ_ _=>Or.inl⟩
  .show(S++num _).length+_<=_;rw[cG];simp only[rY];omega
  show w'.heap[B]?=some (ab (cs.setIfInBounds o (aa (m:U))) t (0,0));rw[O4 an];exact c
 O9:=by
  intro S k B o cs t n w h e hne an a;have a:-2147483648<=n/\n<=2147483647:=a;have f:=pD (gP n) (by unfold gL gP;split<;>omega);have h2:=h.2;refine aS (ajc r B o S cs t n h.1 e hne an a I) ?_;rintro w' ⟨b,c,d⟩;refine⟨rfl,⟨b,?_⟩,?_,d.mono λ_ _=>Or.inl⟩
  .show(S++num _).length+_<=_;rw[cG];omega
  show w'.heap[B]?=some (ab (cs.setIfInBounds o (af n)) t (0,0));rw[O4 an];exact c
 Lw _ _ h:=h
 ok _ _ _ h:=h
 okB _ h:=h
 okW _ n _ _:=by
  show 0<=IntKind.u32.wrap _;rw[wrap_u32];omega
 Lx _ _ h:=h
def w3(v:J->U)(o:J):ai aR:=if dw o=.i32 then num (gP (v o))else num (v o).toNat
def b8(v:J->U)(l:ai J):ai aR:=l.flatMap (w3 v)
def s4(v:J->U):J->ai aR
 | 0=>[]
 | j+1=>s4 v j++if mA v j then []else b8 v (uy (24+6*j))
def nS(v:J->U):ai aR:=b8 v (mC 2)++num (hi v 6)++s4 v 6
def GO(v:J->U)(o:J):bn v o (v o)=v:=by
 funext j
 unfold bn;split<;>simp_all
def aje(r:J)(S:ai aR)(v:J->U)(a_:0<=v 1/\v 1<=4294967295)(o:J):(uP r).step (S,v) o=(S++w3 v o,v):=by
 unfold gj.step w3;split
 .rename_i h;rw[aD h];show((S++num (gP (v o))),bn v o (v o))=_;rw[GO]
 .rename_i h;have ar:o=1:=by
   unfold dw at h;split at h
   .assumption
   split at h<;>(try cases h);split at h<;>split at h<;>cases h
  subst ar;rw[az (by rw[h];decide)];show((S++num (v 1).toNat),bn v 1 (IntKind.u32.wrap (v 1)))=_;rw[show IntKind.u32.wrap (v 1)=v 1 by rw[wrap_u32];omega,GO]
 rename_i h1 h2;rw[az h1];show((S++num (v o).toNat),bn v o (v o))=_;rw[GO]
theorem G8(r:J)(v:J->U)(a_:0<=v 1/\v 1<=4294967295):∀ (l:ai J) (S:ai aR),(uP r).steps (S,v) l=(S++b8 v l,v)
 | [],S=>by simp[gj.steps,b8]
 | o :: l,S=>by
  have h:=G8 r v a_ l (S++w3 v o);unfold gj.steps at h⊢;rw[r1,aje r S v a_ o,h];simp[b8]
def vQ(v:J->U)(i m:J):∃ x,(if mA v i then 0 else m)=x*m/\((x=0/\mA v i)\/(x=1/\¬ mA v i)):=by
 by_cases h:mA v i
 .exact⟨0,by simp[h],.inl ⟨rfl,h⟩⟩
 exact⟨1,by simp[h],.inr ⟨rfl,h⟩⟩
def XS(v:J->U)(j:J)(h:j<6):hi v 6 / 2 ^ j%2=1↔¬ mA v j:=by
 have⟨cx,a,bR⟩:=vQ v 0 1;have⟨cm,b,bI⟩:=vQ v 1 2;have⟨cB,c,i⟩:=vQ v 2 4;have⟨eS,d,k⟩:=vQ v 3 8;have⟨hZ,f,l⟩:=vQ v 4 16;have⟨iX,g,m⟩:=vQ v 5 32;have aA:hi v 6=(0+cx*1+cm*2+cB*4+eS*8+hZ*16+iX*32):=by
  rw[<-a,<-b,<-c,<-d,<-f,<-g];rfl
 rw[aA];clear aA;have cp:cx<=1:=I;have bS:cm<=1:=I;have n:cB<=1:=I
 match j,h with
 | 0,_=>
  rw[show(0+cx*1+cm*2+cB*4+eS*8+hZ*16+iX*32) / 2 ^ 0%2=cx by omega];exact bR.elim (λh=>⟨λe=>I,λe=>absurd h.2 e⟩) λh=>⟨λ_=>h.2,λ_=>h.1⟩
 | 1,_=>
  rw[show(0+cx*1+cm*2+cB*4+eS*8+hZ*16+iX*32) / 2 ^ 1%2=cm by omega];exact bI.elim (λh=>⟨λe=>I,λe=>absurd h.2 e⟩) λh=>⟨λ_=>h.2,λ_=>h.1⟩
 | 2,_=>
  rw[show(0+cx*1+cm*2+cB*4+eS*8+hZ*16+iX*32) / 2 ^ 2%2=cB by omega];exact i.elim (λh=>⟨λe=>I,λe=>absurd h.2 e⟩) λh=>⟨λ_=>h.2,λ_=>h.1⟩
 | 3,_=>
  rw[show(0+cx*1+cm*2+cB*4+eS*8+hZ*16+iX*32) / 2 ^ 3%2=eS by omega];exact k.elim (λh=>⟨λe=>I,λe=>absurd h.2 e⟩) λh=>⟨λ_=>h.2,λ_=>h.1⟩
 | 4,_=>
  rw[show(0+cx*1+cm*2+cB*4+eS*8+hZ*16+iX*32) / 2 ^ 4%2=hZ by omega];exact l.elim (λh=>⟨λe=>I,λe=>absurd h.2 e⟩) λh=>⟨λ_=>h.2,λ_=>h.1⟩
 | 5,_=>
  rw[show(0+cx*1+cm*2+cB*4+eS*8+hZ*16+iX*32) / 2 ^ 5%2=iX by omega];exact m.elim (λh=>⟨λe=>I,λe=>absurd h.2 e⟩) λh=>⟨λ_=>h.2,λ_=>h.1⟩
def Xt:∀ j:Fin 6,∀ b:Fin 64,(bits .and .i64 ((b.val:U) / 2 ^ j.val) 1=1)↔b.val / 2 ^ j.val%2=1:=by decide +kernel
def Ko(v:J->U)(j:J)(h:j<6):bits .and .i64 ((hi v 6:J) / 2 ^ j) 1=1↔¬ mA v j:=by
 rw[<-XS v j h];exact Xt ⟨j,h⟩ ⟨hi v 6,x7 v 6⟩
theorem Qc(r:J)(v:J->U)(a_:0<=v 1/\v 1<=4294967295)(S:ai aR):∀ j,j<=6->mG (uP r) (hi v 6:J) (S,v) j=(S++s4 v j,v)
 | 0,_=>by simp[mG,s4]
 | j+1,h=>by
  unfold mG s4;rw[Qc r v a_ S j I];by_cases a:mA v j
  .rw[az (λe=>(Ko v j I).1 e a),aD a,gq]
  rw[aD ((Ko v j I).2 a),az a,G8 r v a_,eh]
def ajd(r:J)(v:J->U)(a_:0<=v 1/\v 1<=4294967295):Gx (uP r) ([],v)=(nS v,v):=by
 unfold Gx;rw[G8 r v a_];show mG (uP r) (hi v 6:J) (([]++b8 v (mC 2))++num (Int.toNat (hi v 6:J)),v) 6=_;rw[Qc r v a_ _ 6 I,rY];rfl
def vM(v:J->U):ae:=∀ j,j<60->ow (dw j) (v j)
theorem af9(v:J->U)(B:J)(w:aj)(t:TypeId)(b:w.heap[B]?=some (ab (aQ v) t (0,0))):(Instr.loadAt 99 B).run prog w=.ok (.agg (aQ v)) w:=
 fS 99 60 B 0 (aQ v) (aQ v) t isAgg99 sizeOf99 (dX v) b (λj x a=>km)
def px{a b:U}(h:h9 n a b=true)(bg:0<=a):0<=n:=by
 simp[h9]at h;omega
def NM{v:J->U}{o:J}(h:oI v o=true)(j:J)(h1:4<=j)(h2:j<10):0<=v (o+j):=by
 simp only[oI,ue,e9]at h;obtain⟨a,b,c,d,e,f,_⟩:=h;obtain rfl|rfl|rfl|rfl|rfl|rfl:j=4\/j=5\/j=6\/j=7\/j=8\/j=9:=I
 .exact px a I
 .exact px b I
 .exact px c I
 .exact px d I
 .exact px e I
 exact px f I
def ahd{v:J->U}(h:qF v 6=true)(a:j<6):qD v j=true:=by
 cases aA:qD v j with
 | true=>rfl
 | false=>rw[Pc aA a]at h;cases h
def ahb{v:J->U}(h:qD v j=true)(k:J)(h1:28<=k)(h2:k<30):0<=v (k+6*j):=by
 simp only[qD,wX,yr,w_,e9,hf]at h;obtain rfl|rfl:k=28\/k=29:=I
 .rcases h with h|h
  .omega
  exact px h.1 I
 rcases h with h|h
 .omega
 exact px h.2.1 I
def afl{v:J->U}(l:vM v)(h:mE v=true)(j:J)(m:j<60)(hk:dw j≠.i32):0<=v j:=by
 simp only[mE,e9]at h;have⟨a,b,c,d,f,g⟩:=h;by_cases h1:j<4
 .obtain rfl|rfl|rfl|rfl:j=0\/j=1\/j=2\/j=3:=I
  .exact px d I
  .exact(l 1 I).1
  .exact px f I
  exact px g I
 by_cases h2:j<24
 .have k:4<=(j-4)%10:=by
   by_cases e:(j-4)%10<4
   .exact absurd (by unfold dw;rw[az I,az h1,aD h2,aD e]) hk
   omega
  rcases (show j-4<10\/10<=j-4 by omega)with i|i
  .have:=NM b (j-4) I I
   rwa [show 4+(j-4)=j by omega]at this
  have:=NM c (j-14) I I
  rwa [show 14+(j-14)=j by omega]at this
 have k:4<=(j-24)%6:=by
  by_cases e:(j-24)%6<4
  .exact absurd (by unfold dw;rw[az I,az h1,az h2,aD e]) hk
  omega
 have:=ahb (ahd (j:=(j-24) / 6) a I) (24+(j-24)%6) I I
 rwa [show 24+(j-24)%6+6*((j-24) / 6)=j by omega]at this
def aai(v:J->U)(a_:vM v)(w:aj):aB 329 #[.agg (aQ v)] w λe w'=>
  e=aV #[.string (if mE v then⟨(nS v).toArray⟩else ByteArray.empty),aa (if mE v then 0 else 1)]/\Below w w w':=by
 have b:=aP w (ab (aQ v) 99);have al:=(b9 w w).alloc bu (ab (aQ v) 99);have m:=af9 v w _ _ b;have g:=λW=>Md v W;cases i:mE v
 .refine Ut;have y:=al.trans (a.mono al.size);refine aK;go_ret2;exact o8
 refine Ut;have c:=(ag.bU (S:=aH) a a1).heap b id;have n:=bZ c
 have h:Fr (uP aq) (aq.alloc (ab #[.string ⟨#[]⟩] 484)) w ([],v) (0+61):=
  ⟨⟨aP aq (ab #[.string ⟨#[]⟩] 484),by show 0+10*(0+61)<=_;omega⟩,b2 c _,by show w.heap.size≠aq.heap.size;omega,λj f=>⟨a_ j f,λhk=>(afl a_) i j f hk⟩⟩
 refine aK;refine aS (Z4 (aja aq) _ h) ?_;rintro aF ⟨d,hk⟩;rw[ajd _ v ((a_ 1 I))]at d;have o:=aX d.st.1;have l:=((al.trans (a.mono al.size)).alloc I _).trans (hk.below (B:=w.heap.size) b_ (λk hk ak=>by simp only[nh]at ak;rcases ak with ak|ak;(· have:k=aq.heap.size:=ak;omega);(· omega)));refine aK;go_ret2;exact⟨rfl,l⟩
section
variable{w w':aj}
def ail(x y u v f ao co fA e5 dF:U)(w:aj):aB 206 #[aG (fU x y u v f ao co fA e5 dF)] w λe w'=>e=aG #[af x,af y,aa f,(decide (e5=0))]/\Below w w w':=by
 have ax:=b2 (aP w (ab (fU x y u v f ao co fA e5 dF) 93)) (ab #[af 0,af 0,aa 0,false] 258);have t:=aP (w.alloc (ab (fU x y u v f ao co fA e5 dF) 93)) (ab #[af 0,af 0,aa 0,false] 258);refine Aa;obtain⟨S,a,hk⟩:=dT _ 258 4 (w.heap.size+1) #[af x,af y,aa f,(decide (e5=0))] #[af 0,af 0,aa 0,false] sizeOf258 rfl rfl t rfl;have b:=(((ag.refl (λj=>j=w+1) w).alloc (ab (fU x y u v f ao co fA e5 dF) 93)).alloc (ab #[af 0,af 0,aa 0,false] 258)).trans hk
 go_in
 refine Dx;refine dj (v:=aG #[af x,af y,aa f,(decide (e5=0))]) a ?_;exact Wk
def aim(x y u v dZ a:U)(w:aj):aB 207 #[aG #[af x,af y,af u,af v,aa dZ,aa a]] w λe w'=>e=aG #[af x,af y,aa dZ]/\Below w w w':=by
 have ax:=b2 (aP w (ab #[af x,af y,af u,af v,aa dZ,aa a] 96)) (ab #[af 0,af 0,aa 0] 261);have t:=aP (w.alloc (ab #[af x,af y,af u,af v,aa dZ,aa a] 96)) (ab #[af 0,af 0,aa 0] 261);refine Aa;obtain⟨S,c,hk⟩:=dT _ 261 3 (w.heap.size+1) #[af x,af y,aa dZ] #[af 0,af 0,aa 0] sizeOf261 rfl rfl t rfl;have b:=(((ag.refl (λj=>j=w+1) w).alloc (ab #[af x,af y,af u,af v,aa dZ,aa a] 96)).alloc (ab #[af 0,af 0,aa 0] 261)).trans hk
 go_in
 refine Dx;refine dj (v:=aG #[af x,af y,aa dZ]) c ?_;exact Wk
def rD(v:J->U):a6 ay:=((range 20).map λj=>Value.int (dw (4+j)) (v (4+j))).toArray
def OB(v:J->U)(w:aj):(Instr.index 94 (.agg (rD v)) (aa 0)).run prog w=.ok (.agg (wN v 4)) w:=bc
def OC(v:J->U)(w:aj):(Instr.index 94 (.agg (rD v)) (aa 1)).run prog w=.ok (.agg (wN v 14)) w:=bc
def af1(v:J->U)(k:J)(h:k<2)(w:aj):(Instr.index 94 (.agg (rD v)) (aa (k:J))).run prog w=.ok (.agg (wN v (4+10*k))) w:=by
 match k,h with
 | 0,_=>exact OB v w
 | 1,_=>exact OC v w
def af8(v:J->U)(B:J)(w:aj)(t:TypeId)(b:w.heap[B]?=some (ab (aQ v) t (0,0))):(Instr.loadAt 94 (.pointer (dk B 4))).run prog w=.ok (.agg (rD v)) w:=by
 refine fS 94 20 B 4 (rD v) (aQ v) t isAgg94 sizeOf94 (by simp[rD]) b ?_;intro j x a;have h:j<20:=by
  refine DM;simpa[rD]using this
 rw[dO _ I];simpa[rD,h]using a
def kG:a6 ay:=#[af 0,af 0,aa 0,false,af 0,af 0,aa 0,false,af 0,af 0,aa 0,af 0,af 0,aa 0,af 0,af 0,aa 0,af 0,af 0,aa 0,af 0,af 0,aa 0,af 0,af 0,aa 0]
def F_(w:aj):(Instr.alloc 264 true (aV #[])).run prog w=.ok w (w.alloc (ab kG 264)):=bc
structure q0(w:aj)(v:J->U)(c:a6 ay)(w':aj):ae where
 box:w'.heap[w.heap.size]?=some (ab (aQ v) 99 (0,0))
 res:w'.heap[w.heap.size+1]?=some (ab kG 264 (0,0))
 st:w'.heap[w.heap.size+2]?=some (ab c 264 (0,0))
 cK:c.size=26
 one:∀ u∈c.toList,u.oneCell'=true
 bF:ag aH w w'
namespace q0
variable{v:J->U}{c:a6 ay}
theorem keep{a:aj}(h:q0 w v c w')(hk:ag aH w' a):q0 w v c a:=
 ⟨hk.heap h.box id,hk.heap h.res id,hk.heap h.st id,h.cK,h.one,h.bF.trans hk⟩
def put(h:q0 w v c w')(o:J)(p:a6 ay)(ao:o+p.size<=26)(h1:∀ u∈p.toList,u.oneCell'=true):q0 w v (fz c o p) (w'.setRow (w.heap.size+2) (fz c o p)):=by
 have hk:=jw w' (w.heap.size+2) (fz c o p);refine⟨hk.heap h.box I,hk.heap h.res I,fb w' _ _ _ _ h.st,by rw[y1 _ _ _ (by rw[h.cK];omega),h.cK],λu a=>?_,?_⟩
 .unfold fz at a;simp only[gd]at a;rcases a with(a|a)|a
  .exact h.one u (CD a)
  .exact h1 u a
  exact h.one u (CC a)
 exact c1 h.bF hk a1
end q0
end
end Go.Proofs.YtalagblioepadaaGreatDoor
