/- The proof, part 45. -/
import Derived.Test.YtalagblioepadaaGreatDoorZb44
import Derived.Deep.CutBlock
namespace Go.Proofs.YtalagblioepadaaGreatDoor
set_option linter.all false
open Proofs.Tryz List Go.RowKit
set_option maxRecDepth 100000
set_option maxHeartbeats 4000000
def Mg{p:ak}(h:p:=by
 go_wp2_with fail;go_roundg k
 case rel=>exact⟨eZ (s,cs),k,rfl,by rw[<-v.out.1];exact i.out.2.2.1,Y6.o,v.out.2.1.1,by rw[v.out.2.1.2.2];have:=i.out.2.2.2.1;(try dsimp only);omega,by rw[v.out.2.1.2.2];have:=i.out.2.2.2.2.1;(try dsimp only);omega,by rw[v.out.2.1.2.2];(try dsimp only);omega,by have:=v.out.2.1.2.1;have:=i.out.2.2.2.2.2.2;(try dsimp only at *);omega⟩
 omega
 ):p:=h
def MO{p:ak}(h:p:=by
 go_wp2_with first|refine n_ a rfl rfl rfl rfl ?_|refine n_ g rfl rfl rfl rfl ?_
 refine br aU.out ?_;go_wp2_with fail;go_end0;exact⟨rfl,j.out⟩
 ):p:=h
def No{p:ak}(h:p:=by
 unfold ix gy gA;rw[hh];exact b7 (mv _ _) (mv _ _)
 ):p:=h
def DE{p:ak}(h:p:=by
 go_wp2_with fail;refine cU (v:=aV #[]) (by simp[results,results88]) rfl ?_;exact⟨rfl,t.o⟩
 ):p:=h
def LN{p:ak}(h:p:=by
 go_wp2_with fail;go_end0;exact⟨rfl,by rw[V.out.1.eq];exact ZB.o⟩
 ):p:=h
def LO{p:ak}(h:p:=by
 clear D B C al;go_wp2_with fail;go_meet;exact⟨_,_,u.sep⟩
 ):p:=h
def wR{p:ak}(h:p:=by
 rw[aN];exact SI ((a _).1 t.held).box
 ):p:=h
section
open Go.Maps
variable{ey:Old}{w w':ai}{b:fT}{R:ah ay}{q:ct}{o:J}{sd vl:aw}{m:aY}{l:ah cg}
def A3(z:ay.kinds ey∈R)(h:fh w b q o sd m (ay.cS vl l :: R))(au:jW q.1)(aq:∀ c∈l,sT c)(W':q.2.length+l.length<=100000):az 96 #[b.p,o,vl] w λe w'=>e=aV #[]/\fh w' b (q.1,q.2++l) o sd m R:=by
 obtain⟨s,cs⟩:=q;obtain⟨A,cap,rfl,_,_⟩:=cP (show w.ownsRow 0 47 12 vl l.length (eA l)by obtain⟨d,v,H⟩:=h;exact H.at' 10 rfl);have O:=af (bD h (bD au (bD aq (bD W' z))));clear h au aq W' z
 go_in
 go_wp2_with fail;go_loopg [11] l.length (λg i wr=>∃ pre rest:ah cg,l=pre++rest/\g=rest.length/\i=I pre.length/\fh wr b (s,cs) o sd m (ay.cS (ao A l.length cap) l :: R))
 case atStart=>exact⟨[],l,rfl,rfl,rfl,O.o.1⟩
 obtain⟨pre,rest,f,a1,rfl,d,v,H⟩:=hrel;cases rest with
 | nil=>
  have Zi:¬ (pre.length:aa)<(l.length:aa):=by rw[f];simp
  obtain⟨aj,hd⟩:=kf (p:=(s,cs)) H;have T:wr.ownsRow 0 47 12 (ao A l.length cap) l.length (eA l):=H.at' 10 rfl;obtain⟨v',an,Y5,ys,r',lb⟩:=Fu 32 hd T O.out.2.2.2.1;have zd:∀ j,v.ownBlock=some j->j≠o:=λj Q e=>tN hd (e▸aj) bq Q;have fr:=r'.heap aj (λe=>zd _ e rfl);have bu:=aP aj;have d0:=aP fr;have f0:=bJ fr;have eI:=(Keeps.refl (λj=>j=o) an).setCell (p:=ad o 0 ab) rfl v';have Y7:=bR aj;have T':=b3 ys eI (λj Q e=>by
   rcases lb j Q with zp|zp
   .exact zd j zp e
   .omega)
  have l':=bW fr 0 v';simp only[sG,ra]at l';have Y4:=af (show fh (an.setCell (ad o 0 ab) v') b (s,cs++l) o sd m R from⟨d,v',(AW (p:=(s,cs)) H (v':=v') (sd':=sd) (m':=m) (l:=cs++l) ⟨l',T'⟩ ((r'.mono λ_ _ e=>.inr e).trans (eI.mono λ_ _ e=>.inl e)) (λj Q=>.inr (lb j Q))).p2⟩);obtain⟨Y',Zb,rfl,_,_⟩:=cP hd;obtain⟨Za,Zc,rfl,_,_⟩:=cP ys;clear H aj hd T ys r' lb zd fr eI Y7 T' l' f O;go_wp2_with refine wk Y5 rfl rfl rfl rfl ?_
  go_end0;exact⟨rfl,by simpa only[cx]using Y4.o⟩
 | cons c rest=>
  have TS:pre.length<l.length:=by rw[f];simp
  have Y6:(pre.length:aa)<(l.length:aa):=U;have he:l[pre.length]=c:=by simp[f]
  have Zh:l.length<=100000:=by have:=O.out.2.2.2.1;omega
  have V':sT c:=O.out.2.2.1 c uS;have Y2:l=(pre++[c])++rest:=by rw[f];simp
  have Q':=a1;simp only[dr]at Q';have T:wr.ownsRow 0 47 12 (ao A l.length cap) l.length (eA l):=H.at' 10 rfl;obtain⟨r,rfl⟩:=oY T U;have V:=nW (P:=prog) (enc:=cg.bt) (λ_=>rfl) isAgg47 sizeOf47 T pre.length TS;rw[he]at V;have V:(Instr.loadAt 47 (.pointer (some (ad r (pre.length*12) ab)))).run prog wr=.ok (.agg (di c)) wr:=V;have dF:=yB wr;obtain⟨a',Z,Aw,St,Y9⟩:=xk wr c;obtain⟨bM,ps⟩:∃ bM,bM=wr.heap.size:=⟨_,rfl⟩;have u:gF (bC b s d++ay.out o v sd m cs :: ay.cS (ao (some (ad r 0 ab)) l.length cap) l :: R) bM c a':=⟨H.keep St,ps▸Aw,λr Y8 Q=>absurd (H.lt Y8 Q) U⟩;obtain⟨bN,cn,dz,pl⟩:=c;have Y3:a'.cell? (ad bM 0 ab)=some (I bN):=bb u.box rfl;have h2:=af (bD Y2 V');rw[<-ps]at dF Z;generalize wr.alloc _=Zk at dF Z;clear H T f a1 he V' Y2 Aw St Y9 ps
  go_upto_block 1 with fail
  go_cut [] (λbV=>fh bV b (s,cs) o sd m (ay.cS (ao (some (ad r 0 ab)) l.length cap) l :: R))
  case first=>
   have S:=af (bD h2.o.2 (bD O.out.2.1 O.out.2.2.2.2));go_wp2_with first|((with_reducible refine dm V rfl rfl ?_ ?_);exact rfl)|(with_reducible refine ea dF rfl rfl ?_)|((with_reducible refine c8 Z rfl rfl ?_ ?_ ?_);exact rfl;exact rfl)
   all_goals clear V dF Z Y3 O h2 TS Y6 Q'
   .have al:=af (λW (n:gF (bC b s d++ay.out o v sd m cs :: ay.cS (ao (some (ad r 0 ab)) l.length cap) l :: R) bM (cg.mk bN cn dz pl) W)=>by
     obtain⟨bQ,hm⟩:=xN n.sep;exact Tj hm cn S.o.1.cn dz S.o.1.dz)
    obtain⟨G,a⟩:∃ G:ai->ak,∀ W,G W↔gF (bC b s d++ay.out o v sd m cs :: ay.cS (ao (some (ad r 0 ab)) l.length cap) l :: R) bM (cg.mk bN cn dz pl) W:=⟨_,λ_=>Iff.rfl⟩;have M:∀ t:bp G,t.to.cell? (ad b.p 3 ab)=some (.pointer (some (ad b.e9 0 ab))):=λt=>tr ((a _).1 t.held).sep;have N:∀ t:bp G,t.to.cell? (ad b.p 4 ab)=some (.pointer (some (ad b.dV 0 ab))):=λt=>ts ((a _).1 t.held).sep;have L:=λx:bp G=>aP (((a _).1 x.held).box);have E:∀ W,(∃ t:bp G,W=t.to)->(Instr.loadAt 45 (.pointer (some (ad bM 1 ab)))).run prog W=.ok (.agg (dU cn)) W:=λW ⟨t,aN⟩=>by
     exact wR
    have B:=(a _).2 (u.keep (a_ a').drew);have C:=af (λW (n:G W)=>(a W).1 n);have F:=af (λW n=>(a W).2 n);clear a;clear u;go_wp2_with fail;refine cB 11 ?_;refine cC (G) (.range 9) 2 9 ?_;refine pM (B) (.range 9) 0 λhne=>?_
    repeat (first|(refine j7 E rfl rfl rfl ?_;simp only[Act.put,c_])|go_big_quiet_step (fail))
    refine wpQuiet_nil ?_;clear hne;refine lq ?_;clear M N L E F;refine cC (λ_=>True) [9,10] 0 2 ?_;refine dC 9 λK z=>?_;go_simp;refine(al.o _ (C.o _ B)).mono ?_;rintro e X ⟨⟨Y,rfl⟩,D⟩;refine z _ _ (trivial) ?_;clear z K;refine kn 10 λK z=>?_;go_simp;refine z _ _ (trivial) ?_;clear z K;obtain⟨d,u⟩:=(C.out _ B).e9 D;clear D B C al;go_upto_region 6 with fail
    go_cut [34] (λY_ bV=>(∃ t,Y_=.bool t)/\bV=X)
    case first=>
     clear u;cases Zf:(Y == 14)<;>cases Zg:(Y == 8)
     all_goals
      go_wp2_with fail;go_meet;exact⟨⟨_,rfl⟩,rfl⟩
    case rest=>
    obtain⟨⟨t,rfl⟩,rfl⟩:=hcut;go_upto_if 34 with fail
    go_cut [] (λbV=>∃ d:gi,gF (bC b s d++ay.out o v sd m cs :: ay.cS (ao (some (ad r 0 ab)) l.length cap) l :: R) bM (cg.mk bN cn dz pl) bV)
    case first=>
     have Ac:=Qy u.sep;have Ze:=xM u.sep 11;have gf:=af u;clear u;go_wp2_with fail
     all_goals
      go_meet
      first|exact⟨_,gf.o⟩|exact⟨_,gf.o.mf _⟩
    case rest=>
    obtain⟨d,u⟩:=hcut;have CW:=af (λW (n:gF (bC b s d++ay.out o v sd m cs :: ay.cS (ao (some (ad r 0 ab)) l.length cap) l :: R) bM (cg.mk bN cn dz pl) W)=>Q7 n.sep S.out.2.1 cn.k.em);have al:=af (λW (n:gF (bC b s d++ay.out o v sd m cs :: ay.cS (ao (some (ad r 0 ab)) l.length cap) l :: R) bM (cg.mk bN cn dz pl) W) (x y:aa)=>by
     obtain⟨bQ,hm⟩:=AR n.sep;have s':ay.kinds ey∈(ay.out o v sd m cs :: ay.cS (ao (some (ad r 0 ab)) l.length cap) l :: R):=by simp[S.out.2.2]
     exact PZ hm (n.sep.all (ay.kinds ey) (ft.2 (.inr s'))).1 (λe=>(q_.1 n.sep.apart).2.2 (ay.dV b.dV d.df) (by simp[bC]) (ay.kinds ey) s' 0 (.inr e) (n.sep.all (ay.kinds ey) (ft.2 (.inr s'))).2.2.1) cn S.out.1.cn x y)
    obtain⟨G,a⟩:∃ G:ai->ak,∀ W,G W↔gF (bC b s d++ay.out o v sd m cs :: ay.cS (ao (some (ad r 0 ab)) l.length cap) l :: R) bM (cg.mk bN cn dz pl) W:=⟨_,λ_=>Iff.rfl⟩;have M:∀ t:bp G,t.to.cell? (ad b.p 3 ab)=some (.pointer (some (ad b.e9 0 ab))):=λt=>tr ((a _).1 t.held).sep;have N:∀ t:bp G,t.to.cell? (ad b.p 4 ab)=some (.pointer (some (ad b.dV 0 ab))):=λt=>ts ((a _).1 t.held).sep;have L:=λx:bp G=>aP (((a _).1 x.held).box);have E:∀ W,(∃ t:bp G,W=t.to)->(Instr.loadAt 45 (.pointer (some (ad bM 1 ab)))).run prog W=.ok (.agg (dU cn)) W:=λW ⟨t,aN⟩=>by
     exact wR
    have B:=(a _).2 (u.keep (a_ wc).drew);have C:=af (λW (n:G W)=>(a W).1 n);have F:=af (λW n=>(a W).2 n);clear a;clear u;go_wp2_with fail;refine cB 14 ?_;refine cC (G) (.range 13) 1 13 ?_;refine pM (B) (.range 12) 1 λhne=>?_
    repeat (first|(refine j7 E rfl rfl rfl ?_;simp only[Act.put,c_])|go_big_quiet_step (fail))
    refine wpQuiet_nil ?_;clear hne;refine jg 12 λK z=>?_;go_simp;refine(CW.o _ (C.o _ B)).mono ?_;rintro e X ⟨⟨x,y,f,Zj,rfl⟩,Tq⟩;have g':=(C.out _ B).keep Tq;refine z _ _ (F.out _ g') ?_;clear z K;clear M N L E F;refine cC (λ_=>True) [13] 0 1 ?_;refine kn 13 λK z=>?_;go_simp;refine(al.out _ g' x y).mono ?_;rintro e Zl ⟨⟨Zd,rfl⟩,D⟩;refine z _ _ (trivial) ?_;clear z K;obtain⟨d,u⟩:=g'.dV D;clear D B C al CW g' Tq;go_wp2_with fail;go_meet;exact⟨_,_,u.sep⟩
   .have al:=af (λW (n:gF (bC b s d++ay.out o v sd m cs :: ay.cS (ao (some (ad r 0 ab)) l.length cap) l :: R) bM (cg.mk bN cn dz pl) W)=>by
     obtain⟨bQ,hm⟩:=xN n.sep;exact Tk hm cn S.out.1.cn)
    obtain⟨G,a⟩:∃ G:ai->ak,∀ W,G W↔gF (bC b s d++ay.out o v sd m cs :: ay.cS (ao (some (ad r 0 ab)) l.length cap) l :: R) bM (cg.mk bN cn dz pl) W:=⟨_,λ_=>Iff.rfl⟩;have M:∀ t:bp G,t.to.cell? (ad b.p 3 ab)=some (.pointer (some (ad b.e9 0 ab))):=λt=>tr ((a _).1 t.held).sep;have N:∀ t:bp G,t.to.cell? (ad b.p 4 ab)=some (.pointer (some (ad b.dV 0 ab))):=λt=>ts ((a _).1 t.held).sep;have L:=λx:bp G=>aP (((a _).1 x.held).box);have E:∀ W,(∃ t:bp G,W=t.to)->(Instr.loadAt 45 (.pointer (some (ad bM 1 ab)))).run prog W=.ok (.agg (dU cn)) W:=λW ⟨t,aN⟩=>by
     exact wR
    have B:=(a _).2 (u.keep (a_ a').drew);have C:=af (λW (n:G W)=>(a W).1 n);have F:=af (λW n=>(a W).2 n);clear a;clear u;go_wp2_with fail;refine cB 8 ?_;refine cC (G) (.range 7) 1 7 ?_;refine pM (B) (.range 7) 0 λhne=>?_
    repeat (first|(refine j7 E rfl rfl rfl ?_;simp only[Act.put,c_])|go_big_quiet_step (fail))
    refine wpQuiet_nil ?_;clear hne;refine lq ?_;clear M N L E F;refine cC (λ_=>True) [7] 0 1 ?_;refine kn 7 λK z=>?_;go_simp;refine(al.o _ (C.o _ B)).mono ?_;rintro e X ⟨⟨Y,rfl⟩,D⟩;refine z _ _ (trivial) ?_;clear z K;obtain⟨d,u⟩:=(C.out _ B).e9 D;exact LO
   .have al:=af (λW (n:gF (bC b s d++ay.out o v sd m cs :: ay.cS (ao (some (ad r 0 ab)) l.length cap) l :: R) bM (cg.mk bN cn dz pl) W)=>by
     obtain⟨bQ,hm⟩:=xN n.sep;exact Tg hm cn.k)
    obtain⟨G,a⟩:∃ G:ai->ak,∀ W,G W↔gF (bC b s d++ay.out o v sd m cs :: ay.cS (ao (some (ad r 0 ab)) l.length cap) l :: R) bM (cg.mk bN cn dz pl) W:=⟨_,λ_=>Iff.rfl⟩;have M:∀ t:bp G,t.to.cell? (ad b.p 3 ab)=some (.pointer (some (ad b.e9 0 ab))):=λt=>tr ((a _).1 t.held).sep;have N:∀ t:bp G,t.to.cell? (ad b.p 4 ab)=some (.pointer (some (ad b.dV 0 ab))):=λt=>ts ((a _).1 t.held).sep;have L:=λx:bp G=>aP (((a _).1 x.held).box);have E:∀ W,(∃ t:bp G,W=t.to)->(Instr.loadAt 45 (.pointer (some (ad bM 1 ab)))).run prog W=.ok (.agg (dU cn)) W:=λW ⟨t,aN⟩=>by
     exact wR
    have B:=(a _).2 (u.keep (a_ a').drew);have C:=af (λW (n:G W)=>(a W).1 n);have F:=af (λW n=>(a W).2 n);clear a;clear u;go_wp2_with fail;refine cB 9 ?_;refine cC (G) (.range 8) 1 8 ?_;refine de (B) (.range 8) 0 ?_;refine lq ?_;clear M N L E F;refine cC (λ_=>True) [8] 0 1 ?_;refine kn 8 λK z=>?_;go_simp;refine(al.o _ (C.o _ B)).mono ?_;rintro e X ⟨⟨Y,rfl⟩,D⟩;refine z _ _ (trivial) ?_;clear z K;obtain⟨d,u⟩:=(C.out _ B).e9 D;clear D B C al;have al:=af (λW (n:gF (bC b s d++ay.out o v sd m cs :: ay.cS (ao (some (ad r 0 ab)) l.length cap) l :: R) bM (cg.mk bN cn dz pl) W)=>by
     obtain⟨bQ,hm⟩:=AR n.sep;exact PW hm cn.k)
    obtain⟨G,a⟩:∃ G:ai->ak,∀ W,G W↔gF (bC b s d++ay.out o v sd m cs :: ay.cS (ao (some (ad r 0 ab)) l.length cap) l :: R) bM (cg.mk bN cn dz pl) W:=⟨_,λ_=>Iff.rfl⟩;have M:∀ t:bp G,t.to.cell? (ad b.p 3 ab)=some (.pointer (some (ad b.e9 0 ab))):=λt=>tr ((a _).1 t.held).sep;have N:∀ t:bp G,t.to.cell? (ad b.p 4 ab)=some (.pointer (some (ad b.dV 0 ab))):=λt=>ts ((a _).1 t.held).sep;have L:=λx:bp G=>aP (((a _).1 x.held).box);have E:∀ W,(∃ t:bp G,W=t.to)->(Instr.loadAt 45 (.pointer (some (ad bM 1 ab)))).run prog W=.ok (.agg (dU cn)) W:=λW ⟨t,aN⟩=>by
     exact wR
    have B:=(a _).2 (u.keep (a_ X).drew);have C:=af (λW (n:G W)=>(a W).1 n);have F:=af (λW n=>(a W).2 n);clear a;clear u;go_wp2_with fail;refine cB 9 ?_;refine cC (G) (.range 8) 1 8 ?_;refine de (B) (.range 8) 0 ?_;refine lq ?_;clear M N L E F;refine cC (λ_=>True) [8] 0 1 ?_;refine kn 8 λK z=>?_;go_simp;refine(al.o _ (C.o _ B)).mono ?_;rintro e X ⟨⟨Y,rfl⟩,D⟩;refine z _ _ (trivial) ?_;clear z K;obtain⟨d,u⟩:=(C.out _ B).dV D;exact LO
   go_meet;exact⟨_,_,u.sep⟩
  have gf:=af hcut;clear hcut Y3 V dF Z u;go_wp2_with fail;go_roundg rest.length
  case measure=>omega
  exact⟨pre++[(cg.mk bN cn dz pl)],rest,h2.out.1,rfl,qg,gf.o⟩
end
section
open Go.Maps
variable{ey:Old}{w w':ai}{b:fT}{s:bO}{R:ah ay}{d:gi}{q:ct}{o:J}{sd:aw}{m:aY}
def ox(_:ai):ak:=True
def lY(w:ai):ox w:=trivial
def jW.same{s s':bO}(h:jW s)(e:s'.x=s.x):jW s':=by
 unfold jW;rw[e];exact h
def A5(i:ay.kinds ey∈R)(h:fh w b q o sd m R)(au:jW q.1)(k:hn q.1.ld.bd)(u:q.2.length<=90000)(r:aa):az 63 #[b.p,o,I r] w λe w'=>e=aV #[]/\fh w' b (fN r q) o sd m R:=by
 have⟨s,cs⟩:=q;have⟨d,v,H⟩:=h;have e5:=pE H;unfold fN;by_cases aR:s.b'=true
 .rw[aR]at e5;rw[aD aR]
  go_in
  go_wp2_with fail;refine cU (v:=aV #[]) (by simp[results,results63]) rfl ?_;exact⟨rfl,d,v,H⟩
 have aR:s.b'=false:=by simpa using aR
 rw[aR]at e5;rw[aA (by simp[aR])];have z:=xM H 9;have y:=xM H 10;have qq:=GD H
 have h2:Sep ((w.setCell (ad b.p 9 ab) (.bool true)).setCell (ad b.p 10 ab) (I r)) (bC b {s with b':=true,reason:=r} d++ay.out o v sd m cs :: R):=
  xL (s:={s with b':=true}) (s':={s with b':=true,reason:=r}) (n:=d.mf) (xL (s':={s with b':=true}) (n:=d.mf) H 9 (.bool true) rfl rfl rfl rfl rfl rfl) 10 (I r) rfl rfl rfl rfl rfl rfl
 have x:=tq h2;have a:=b8 h2 (bD au (bD k u))
 go_in
 go_wp2_with fail;refine((Sj (nI h2))).mono ?_;rintro e aB ⟨vl,rfl,c,j,t⟩;have B:(kg s.ld).length<=256:=by
  have:=(nI a.out.1).cy
  unfold kg;split
  .simp
  rw[hh];exact this
 have g:=af (A3 i (q:=({s with b':=true,reason:=r,ld:=gJ s.ld},cs)) (l:=kg s.ld) (vl:=vl) (b:=b) (o:=o) (sd:=sd) (m:=m) (R:=R) ⟨_,v,(AV a.out.1 j c t).qI⟩ (a.out.2.1.same rfl) (Ru a.out.2.2.1) (by show cs.length+_<=_;have:=a.out.2.2.2;omega));obtain⟨A,cap,rfl,_,_⟩:=cP c;go_wp2_with fail;refine aT g.o λbn f=>?_;go_wp2_with fail;go_end0;exact⟨rfl,f⟩
def A4(f:ay.kinds ey∈R)(h:fh w b q o sd m R)(au:jW q.1)(g:hn q.1.ld.bd)(i:q.2.length<=90000):az 94 #[b.p,o] w λe w'=>e=aV #[]/\fh w' b (e7 q) o sd m R:=by
 have a:=h;have⟨d,v,H⟩:=h;have b0:=nH H;have al:=af (HU (l4 H));unfold e7;by_cases a1:q.1.aE.state=2
 .rw[aD a1];rw[a1]at al
  go_in
  go_wp2_with fail;refine br al.o ?_;go_wp2_with fail;refine aT (A5 f a au g i 12) λbn c=>?_;go_wp2_with fail;go_end0;exact⟨rfl,c⟩
 rw[aA a1];generalize q.1.aE.state=z at *
 go_in
 go_wp2_with fail;refine br al.o ?_;go_wp2_with fail;go_end0;exact⟨rfl,a⟩
structure qm(L:ah ay)(bM:J)(f:aa)(v:aw)(xs:ah aC)(W:ai):ak where
 sep:Sep W L
 bM:W.heap[bM]?=some (ae #[I f,v] 271 (0,0))
 row:∃ base,W.ownsRow base 45 9 v xs.length (bX xs)
theorem qm.keep{L:ah ay}{bM:J}{f:aa}{v:aw}{xs:ah aC}(h:qm L bM f v xs w)(hk:Keeps aG w w'):qm L bM f v xs w':=by
 have⟨base,a⟩:=h.row;exact⟨h.sep.keep hk,hk.heap h.bM id,base,b3 a hk (λ_ _=>id)⟩
def Ha(c:ay.kinds ey∈R)(h:fh w b q o sd m R){n:J}{base:J}{v:aw}{xs:ah aC}(aX:w.ownsRow base 45 9 v xs.length (bX xs))(ar:eH n xs)(now:aa)(y:(n:aa)<=now/\now<=1000000)(aR:q.1.ld.hd=false)(aq:q.1.ld.aS<n)(au:jW q.1)(u:hn q.1.ld.bd)(L:q.2.length<=50000):az 139 #[b.p,o,aM #[I (n:aa),v],I now] w λe w'=>e=aV #[]/\fh w' b (jk now q (n,xs)) o sd m R:=by
 obtain⟨s,cs⟩:=q;obtain⟨d,cw,H⟩:=h;dsimp only at *;obtain⟨a,i⟩:=cQ (bC b s d++ay.out o cw sd m cs :: R);have k:=(a_ w).alloc (ae #[I (n:aa),v] 271);have B:qm a w.heap.size n v xs (w.alloc (ae #[I (n:aa),v] 271)):=⟨by rw[i];exact H.keep k,aW w _,base,b3 aX k (λ_ _=>id)⟩;obtain⟨A,cap,rfl,_,_⟩:=cP aX;have j:∀ W,Sep W a->Sep W (bC b s d++ay.out o cw sd m cs :: R):=λW h=>i▸h;have O:∀ x:bp (qm a w.heap.size n (ao A xs.length cap) xs),x.to.cell? (ad b.p 2 ab)=some (.pointer (some (ad b.lb 0 ab))):=λx=>tq (j _ x.held.sep);have P:=λx:bp (qm a w.heap.size n (ao A xs.length cap) xs)=>aP x.held.bM;have C:=af (λ(W:ai) (t:qm a w.heap.size n (ao A xs.length cap) xs W)=>by
  obtain⟨base,M⟩:=t.row;have h1:=j _ t.sep;exact Sk (nI h1) aR M ar U y aq)
 have E:(ks s.ld n xs now).length<=320:=by
  have h1:=(nI H).cy;have h2:=ar.2.1;have r:=Ci s.ld.most now (hS s.ld.bd (gy xs (gA s.ld.bd n))) xs;have N:(ix xs (gA s.ld.bd n)).length<=s.ld.bd.length:=by
   exact No
  unfold ks;rw[cx];omega
 have f:=b8 au (bD (Xu u ar U y) (show cs.length+(ks s.ld n xs now).length<=100000 by omega));clear H aX ar aR aq au u L k i E
 go_in
 go_wp2_with fail;have g:=B.keep (a_ _).drew;refine cB 13 ?_;refine cC (qm a w.heap.size n (ao A xs.length cap) xs) (.range 7) 6 7 ?_;refine de (g) (.range 7) 0 ?_;refine lq ?_;refine cC (ox) [7,8,9,10,11,12] 0 6 ?_;refine dC 7 λK c=>?_;go_simp;refine(C.o _ g).mono ?_;rintro e an ⟨vl,js,rfl,G,D,F⟩;refine c _ _ (lY _) ?_;clear c K;refine de (lY an) [8,9,10,11,12] 0 ?_;refine mL ?_;have z:=af (A3 c (q:=({s with ld:=o6 s.ld n xs},cs)) (l:=ks s.ld n xs now) (vl:=vl) (b:=b) (o:=o) (sd:=sd) (m:=m) (R:=R) ⟨_,cw,(AV (j _ g.sep) D G F).qI⟩ (f.out.1.same rfl) f.out.2.1 (by show cs.length+_<=_;have:=f.out.2.2;omega));go_wp2_with fail;refine aT z.o λbn r=>?_;go_wp2_with fail;go_end0;exact⟨rfl,r⟩
end
section
open Go.Maps
variable{ey:Old}{w w':ai}{b:fT}{s:bO}{R:ah ay}{d:gi}{q:ct}{o:J}{sd:aw}{m:aY}
def P_(M:ah (aa×aa))(f:aa):hU (mh M) f=(lj M f).map λv=>aK v:=by
 unfold hU lj mh;rw[find?_map,DA,DA];rfl
def FZ(M:ah (aa×aa))(f:aa):kM (mh M) f=mh (lf M f):=by
 unfold kM lf mh;rw[q7];rfl
def Ui(M:ah (aa×aa))(f v:aa):lC (mh M) f (aK v)=mh (qN M f v):=by
 unfold lC qN;rw[FZ];unfold mh;rw[jO];rfl
def FV(M:ah (aa×aa))(f:aa):∀ p∈lf M f,p∈M:=λ_ ar=>(fR.1 ar).1
def VJ(w:ai):(zeroValue 22).run prog w=.ok (aK 0) w:=aH
namespace IsSm
variable{B:J}{M:ah (aa×aa)}
def fX(h:IsSm w B M):M.length<=2147483648:=by
 have:=AG 2147483648 ((mh M).map Prod.fst) (uA.2 h.1.pz) λx b=>by
  obtain⟨p,ar,rfl⟩:=fu.1 b;obtain⟨c,a,rfl⟩:=fu.1 ar
  have:=h.2 c a
  simp only;omega
 simpa[mh]using this
theorem ok{f:aa}(a:-4294967296<=f/\f<4294967296):rR.ok f:=wf_i64 U
theorem look(h:IsSm w B M)(f:aa)(a:0<=f/\f<2147483648):(Instr.lookup 110 (.map (some B)) (I f) true).run prog w=.ok (aV #[aK ((lj M f).getD 0),.bool (lj M f).isSome]) w:=by
 have:=h.1.look tx (x:=f) (ok U) underlying110 VJ
 rw[P_]at this;refine this.trans ?_;cases lj M f<;>rfl
def put(h:IsSm w B M)(f v:aa)(b:0<=f/\f<2147483648):∃ w',(Instr.mapUpdate 110 (.map (some B)) (I f) (aK v)).run prog w=.ok () w'/\IsSm w' B (qN M f v)/\Keeps (λj=>j=B) w w':=by
 have c:=h.fX;obtain⟨aB,h1,h2,a⟩:=h.1.store tx (x:=f) (ok U) underlying110 (by unfold mh;rw[hh];unfold maxLen;omega) (aK v);rw[Ui]at h2;refine⟨aB,h1,⟨h2,λp ar=>?_⟩,a⟩;rcases ft.1 ar with ar|ar
 .exact h.2 p (FV _ _ p ar)
 rw[h6.1 ar];exact b
def del(h:IsSm w B M)(f:aa)(b:-4294967296<=f/\f<4294967296)(ty:TypeId):∃ w',(Builtin.delete_ #[110,3] ty #[.map (some B),I f]).run prog w=.ok (aV #[]) w'/\IsSm w' B (lf M f)/\Keeps (λj=>j=B) w w':=by
 have⟨aB,h1,h2,a⟩:=h.1.drop tx (x:=f) (ok U) underlying110 ty;rw[FZ]at h2;exact⟨aB,h1,⟨h2,λp ar=>h.2 p (FV _ _ p ar)⟩,a⟩
theorem len(h:IsSm w B M)(ty:TypeId):(Builtin.len_ #[110] ty #[.map (some B)]).run prog w=.ok (I M.length) w:=by
 have:=h.1.len underlying110 ty
 unfold mh at this
 rwa [hh]at this
end IsSm
def G_(B:ay.kinds ey∈R)(h:fh w b q o sd m R)(au:jW q.1)(D:hn q.1.ld.bd)(E:q.2.length<=90000)(f v:aa)(l:0<=f/\f<2147483648):az 104 #[b.p,o,I f,aK v] w λe w'=>e=aV #[]/\fh w' b (ic f v q) o sd m R:=by
 have⟨s,cs⟩:=q;have k:=h;have⟨d,cw,H⟩:=h;have dS:=AP H;have a:=(AU H).look f l;unfold ic;dsimp only at *;cases n:lj s.own f with
 | some u=>
  rw[n]at a;simp only[hK,pa]at a;dsimp only;by_cases i:u=v
  .subst i;rw[aD rfl];have j:=af k;have hd:=ed (rfl:u=u)
   go_in
   go_wp2_with refine n_ a rfl rfl rfl rfl ?_
   refine cU (v:=aV #[]) (by simp[results,results104]) rfl ?_;exact⟨rfl,j.o⟩
  rw[aA i];have A:=af (A5 B k au D E 13);have z:=er.2 i;have K:=DB.2 i;have L:decide (u=v)=false:=cZ i
  go_in
  go_wp2_with refine n_ a rfl rfl rfl rfl ?_
  refine aT A.o λaB h2=>?_;go_wp2_with fail;refine cU (v:=aV #[]) (by simp[results,results104]) rfl ?_;exact⟨rfl,h2⟩
 | none=>
  rw[n]at a;simp only[o',ou]at a;dsimp only;have c6:=AQ H;have bs:=tq H;have g:=(vx H).look f l;have aU:=af (x' (nI H));have t:=(vx H).len 3;have M:=(nI H).c3;have⟨N,G,F,C⟩:=(vx H).put f v l;have y:=af (GL (s:=s) H F C);have j:=af k;have z:IntKind.i64.wrap (s.ld.aS+1)=s.ld.aS+1:=et _ U;generalize s.ld.aS=c3 at *;by_cases h1:c3+1<f
  .have d1:decide (c3+1<f)=true:=ed h1;have x:decide (f>c3+1)=true:=ed h1;cases r:lj s.wt f with
   | some u=>
    rw[r]at g;simp only[hK,pa]at g;rw[aA (λc=>by simp at c)]
    go_in
    exact MO
   | none=>
    rw[r]at g;simp only[o',ou]at g;by_cases h2:s.wt.length<8
    .have d2:decide ((s.wt.length:aa)<8)=true:=ed U;rw[aD ⟨h1,rfl,h2⟩]
     go_in
     go_wp2_with first|refine n_ a rfl rfl rfl rfl ?_|refine n_ g rfl rfl rfl rfl ?_
     refine br aU.out ?_;go_wp2_with first|refine KJ t rfl rfl rfl ?_|refine KK G rfl rfl rfl rfl rfl ?_
     go_end0;exact⟨rfl,_,_,y.out⟩
    have d2:decide ((s.wt.length:aa)<8)=false:=cZ U;rw[aA (λc=>h2 c.2.2)]
    go_in
    go_wp2_with first|refine n_ a rfl rfl rfl rfl ?_|refine n_ g rfl rfl rfl rfl ?_
    refine br aU.out ?_;go_wp2_with refine KJ t rfl rfl rfl ?_
    go_end0;exact⟨rfl,j.out⟩
  have d1:decide (c3+1<f)=false:=cZ h1;have x:decide (f>c3+1)=false:=cZ h1;rw[aA (λc=>h1 c.1)]
  go_in
  exact MO
end
section
open Go.Maps
variable{ey:Old}{w w':ai}{b:fT}{s:bO}{R:ah ay}{d:gi}{q:ct}{o:J}{sd:aw}{m:aY}
structure ve(x:ck)(f:J):ak where
 L:gL x.L (f:aa)=some (gQ x f)
 wf:s7 (gQ x f)
 rt:kZ (gQ x f)=true
 len:(mc (gQ x f)).length<=100000
 top:f<=1000000
def Q9(Z:ay.kinds ey∈R)(h:fh w b q o sd m R)(au:jW q.1)(A:hn q.1.ld.bd)(C:q.2.length<=90000)(f:J)(c:ve q.1.x f):az 148 #[b.p,o,I (f:aa)] w λe w'=>e=aV #[]/\fh w' b (iY f q) o sd m R:=by
 obtain⟨s,cs⟩:=q;obtain⟨d,cw,H⟩:=h;dsimp only at *;have bu:=lk H;have al:=af (OV (gX H) f (by have:=c.top;omega) _ c.L c.wf c.rt c.len);have g':f<=1000000:=c.top;have gf:IntKind.i64.wrap ((f:aa)-128)=(f:aa)-128:=et _ U;obtain⟨ik,n⟩:∃ ik,ik=iJ (gQ s.x f):=⟨_,rfl⟩;have D:r1 s f={s with own:=lf (qN s.own f ik) ((f:aa)-128),aE:=lE s.aE f ik}:=by rw[n];rfl
 have j:=af (bD au (bD A C));have r:=af H;obtain⟨k,l⟩:∃ k,k=lj s.wt f:=⟨_,rfl⟩;unfold iY;dsimp only;rw[D,<-l];have T:=af l;rw[<-n]at al;clear H au A C c D n l
 go_in
 go_wp2_with fail;refine al.o.mono ?_;rintro e an ⟨rfl,M⟩;have h1:=r.out.keep M;have dS:=AP h1;obtain⟨aB,K,E,N⟩:=(AU h1).put f ik U;have h2:=GK h1 E N;have W:=AP h2;obtain⟨bn,z,F,O⟩:=(AU h2).del ((f:aa)-128) U 0;have i:=GK h2 F O;have V:=nH i;have y:=af (SA (l4 i) f ik);have t:=af i;clear h1 h2 i M N O E F r al;go_wp2_with first|refine KK K rfl rfl rfl rfl rfl ?_|refine CO z rfl rfl rfl rfl ?_
 refine y.o.mono ?_;rintro e hd ⟨rfl,B,P⟩;have a:=xP t.out B P;have c6:=AQ a;have g:=(vx a).look f U;clear B P t y K z bu dS W V;rw[<-T.out]at g;cases k with
 | none=>
  simp only[o',ou]at g;have S:=af a;clear a;go_wp2_with refine n_ g rfl rfl rfl rfl ?_
  go_end0;exact⟨rfl,_,_,S.o⟩
 | some u=>
  simp only[hK,pa]at g;obtain⟨lb,a',G,Q⟩:=(vx a).del f U 0;have v:=GL a G Q;have Y:=af (G_ Z (q:=({s with own:=lf (qN s.own f ik) ((f:aa)-128),aE:=lE s.aE f ik,wt:=lf s.wt f},cs)) ⟨_,_,v⟩ (j.out.1.same rfl) j.out.2.1 j.out.2.2 f u U);have fr:=AQ a;clear a v G Q;go_wp2_with first|refine n_ g rfl rfl rfl rfl ?_|refine CO a' rfl rfl rfl rfl ?_
  refine Y.o.mono ?_;rintro e l' ⟨rfl,X⟩;go_wp2_with fail;go_end0;exact⟨rfl,X⟩
end
section
open Go.Maps
variable{ey:Old}{w w':ai}{b:fT}{s:bO}{R:ah ay}{d:gi}{q:ct}{o:J}{sd:aw}{m:aY}
def Q_(j:ay.kinds ey∈R)(h:fh w b q o sd m R)(t:hp q.1.x q)(au:jW q.1)(Z:fQ q.1.x=none)(V':q.2.length<=10000)(fr:q.1.ld.aS<=900000/\cY q.1.x<=q.1.ld.aS+100)(al:∀ f:J,q.1.ld.aS+2<=f->(f:aa)<=cY q.1.x+1->ve q.1.x f):az 89 #[b.p,o] w λe w'=>e=aV #[]/\fh w' b (ji q) o sd m R:=by
 have⟨x,gf⟩:=cQ q.1.x;rw[<-gf]at t Z fr al;have E:=b8 h (bD t (bD au gf));have L:=b8 Z (bD fr (bD al V'));clear h t au Z fr al V' gf
 go_in
 go_wp2_with fail;go_loopg [4,5,6] (cY x-q.1.ld.aS).toNat (λg l e n wr=>∃ (p:ct) (k:J),g=k/\e0 k p=ji q/\fh wr b p o sd m R/\hp x p/\cY x<=p.1.ld.aS+k/\q.1.ld.aS<=p.1.ld.aS/\p.1.ld.aS+k<=990000/\p.2.length+320*k<=60000)
 case atStart=>
  have h1:=L.o.2.1;have h2:=L.o.2.2.2;have y:(cY x-q.1.ld.aS).toNat<=100:=U;refine⟨q,_,rfl,?_,E.o.1,E.o.2.1,U,jm _,?_,U⟩
  .unfold ji;rw[<-E.o.2.2.2]
  omega
 have⟨p,k,a1,aN,Y_,t,hk,Q',St,TS⟩:=hrel;have⟨s,cs⟩:=p;dsimp only at *;have G:=t.x;have O:=t.aS;have zp:=E.o.2.2.1.same (G.trans E.o.2.2.2);have⟨d,cw,H⟩:=Y_;have⟨a,X⟩:=cQ (bC b s d++ay.out o cw sd m cs :: R);have C:∀ W,Sep W a->Sep W (bC b s d++ay.out o cw sd m cs :: R):=λW h=>X▸h;have r:Sep wr.drew a:=by rw[X];exact H.drew 1
 have P:∀ x:bp (λW=>Sep W a),x.to.cell? (ad b.p 9 ab)=some (.bool s.b'):=λx=>pE (C _ x.held);have g':∀ x:bp (λW=>Sep W a),x.to.cell? (ad b.p 2 ab)=some (.pointer (some (ad b.lb 0 ab))):=λx=>tq (C _ x.held);have l':∀ x:bp (λW=>Sep W a),x.to.cell? (ad b.p 0 ab)=some (.pointer (some (ad b.c.c 0 ab))):=λx=>lk (C _ x.held);have aU:=af (λ(W:ai) (F:Sep W a)=>x' (nI (C _ F)));have al:=af (λ(W:ai) (F:Sep W a)=>xq (gX (C _ F)) (by rw[G];exact L.o.1));have W':cY s.x=cY x:=by rw[G]
 rw[W']at al;have i:=b8 t (bD zp (bD aN (bD hk (bD Q' (bD St TS)))));have S:=af G;have M:=af C;clear t zp aN hk Q' St TS X H G W' C;go_wp2_with fail;cases aR:s.b' with
 | true=>
  rw[aR]at P;have hfin:=show e0 k (s,cs)=(s,cs)by cases k with|zero=>rfl|succ k=>unfold e0;rw[aD (.inl aR)]
  have Q:=af (show fh wr.drew b (ji q) o sd m R by rw[<-i.out.2.2.1,hfin];exact⟨d,cw,M.out _ r⟩);clear aR aU al g' l' hfin;refine cB 20 ?_;have hne:Nonempty (bp ((λW=>Sep W a))):=⟨⟨_,r⟩⟩;refine ue ((λW=>Sep W a)) (r) [0,1,2,3,4,5,6,7,8,9,10,12,13,14,15,16] [11,17] 2 rfl #[true,true,true,true,true,true,true,true,true,true,true,true,true,true,true,true,true,true,false,false] aH aH (λ_ _ _ d _ h=>sN) ?_;simp only[eE,jo,k6,gY]
  repeat (go_big_quiet_step (fail))
  refine wpQuiet_nil ?_;refine HR uL ?_;refine HR uL ?_;refine hC ?_;simp only[Act.put,c_];have hne:Nonempty (bp ((λW=>Sep W a))):=⟨⟨_,r⟩⟩;refine ue ((λW=>Sep W a)) (r) [18,19] [] 0 rfl #[true,true,true,true,true,true,true,true,true,true,true,true,true,true,true,true,true,true,true,true] aH aH (λ_ _ _ d _ h=>sN) ?_;simp only[eE,jo,k6,gY]
  repeat (go_big_quiet_step (fail))
  refine wpQuiet_nil ?_;refine hC ?_;refine ih ?_;clear r P;go_wp2_with fail;go_end0;exact⟨rfl,Q.o⟩
 | false=>
  rw[aR]at P;have r':=af aR;clear aR;refine cB 20 ?_;have hne:Nonempty (bp ((λW=>Sep W a))):=⟨⟨_,r⟩⟩;refine ue ((λW=>Sep W a)) (r) [0,1,2,3,4,5,6,7,8,9,10,12,13,14,15,16] [11,17] 2 rfl #[true,true,true,true,true,true,true,true,true,true,true,true,true,true,true,true,true,true,false,false] aH aH (λ_ _ _ d _ h=>sN) ?_;simp only[eE,jo,k6,gY]
  repeat (go_big_quiet_step (fail))
  refine wpQuiet_nil ?_;refine f_ λK j=>?_;go_simp;refine br (aU.out _ r) ?_;refine j _ _ (jD (r)) ?_;clear j K;refine km λK j=>?_;go_simp;refine aT (al.out _ r) λan Y5=>?_;have z:=r.keep Y5;refine j _ _ (jD (z)) ?_;clear j K;have hne:Nonempty (bp ((λW=>Sep W a))):=⟨⟨_,z⟩⟩;refine ue ((λW=>Sep W a)) (z) [18,19] [] 0 rfl #[true,true,true,true,true,true,true,true,true,true,true,true,true,true,true,true,true,true,true,true] aH aH (λ_ _ _ d _ h=>sN) ?_;simp only[eE,jo,k6,gY]
  repeat (go_big_quiet_step (fail))
  refine wpQuiet_nil ?_;refine hC ?_;refine ih ?_;clear r Y5 P;by_cases D:s.ld.aS<cY x;rotate_left
  .have hfin:=show e0 k (s,cs)=(s,cs)by cases k with|zero=>rfl|succ k=>unfold e0;rw[aD (.inr (by show cY s.x<=s.ld.aS;rw[S.out];omega))]
   have Q:=af (show fh an b (ji q) o sd m R by rw[<-i.out.2.2.1,hfin];exact⟨d,cw,M.out _ z⟩);have Y':=cZ D;clear hfin z aU al g' l';go_wp2_with fail;go_end0;exact⟨rfl,Q.o⟩
  have Y':=ed D;obtain⟨k,rfl⟩:∃ Y7,k=Y7+1:=⟨k-1,by have:=i.out.2.2.2.1;omega⟩;have Y2:e0 (k+1) (s,cs)=e0 k (eZ (s,cs)):=by
   show(if s.b'=true\/cY s.x<=s.ld.aS then(s,cs)else e0 k (eZ (s,cs)))=_;rw[aA (by rw[r'.o,S.out];simp;omega)]
  have Y3:=i.out.1.step;have zd:=i.out.1.hd.trans r'.o;have Y:=i.out.2.2.2.2.2.1;have B:Sep an.drew a:=z.drew 1;have Zb:IntKind.i64.wrap (s.ld.aS+1)=s.ld.aS+1:=et _ U;have v':=af (λ(W:ai) (F:Sep W a)=>Si (nI (M.out _ F)) zd (s.ld.aS+1) rfl U);have v:=b8 Y2 (bD Y3 (bD Y O));clear Y2 Y3 zd z Y;go_wp2_with fail;refine cB 18 ?_;refine cC ((λW=>Sep W a)) (.range 12) 6 12 ?_;refine de (B) (.range 10) 2 ?_;refine dC 10 λK j=>?_;go_simp;refine br (aU.out _ B) ?_;refine j _ _ (B) ?_;clear j K;refine de (B) [11] 0 ?_;refine lq ?_;refine cC (ox) [12,13,14,15,16,17] 0 6 ?_;refine dC 12 λK j=>?_;go_simp;refine(v'.o _ B).mono ?_;rintro e bn ⟨vl,js,rfl,a',CW,T'⟩;refine j _ _ (lY _) ?_;clear j K;refine de (lY bn) [13,14,15,16,17] 0 ?_;refine mL ?_;have Tq:(hQ s.ld (s.ld.aS+1)).length<=64:=by
   have h1:=FD s.ld.bd (s.ld.b2 (s.ld.aS+1));have h2:(s.ld.b2 (s.ld.aS+1)).length<=64:=(i.out.1.b2 (s.ld.aS+1)).2;unfold hQ;omega
  have ys:=af (A3 j (q:=({s with ld:=jY s.ld (s.ld.aS+1)},cs)) (l:=hQ s.ld (s.ld.aS+1)) (vl:=vl) (b:=b) (o:=o) (sd:=sd) (m:=m) (R:=R) ⟨_,cw,(AV (M.out _ B) CW a' T').qI⟩ (i.out.2.1.same rfl) (OE (i.out.1.b2 _).1) (by show cs.length+_<=_;have:=i.out.2.2.2.2.2.2;omega));obtain⟨A,cap,rfl,_,_⟩:=cP a';clear B CW a' T' v' aU al g' l';go_wp2_with fail;refine aT ys.o λm' y=>?_;have ps:=af y;obtain⟨d4,v4,y⟩:=y;have bs:=tq y;have s':Hid (az 17 #[b.lb] m' λe w'=>e=.returned (I (s.ld.aS+1))/\m'=w'):=af (x' (nI y));have O:=v.out.2.2.2;have Y:=v.out.2.2.1;have Zc:IntKind.i64.wrap (s.ld.aS+1+1)=s.ld.aS+2:=by rw[show s.ld.aS+1+1=s.ld.aS+2 by omega];exact et _ U
  have N:Int.tmod (s.ld.aS+2) 16=(s.ld.aS+2)%16:=pf U;clear y ys;by_cases u:(s.ld.aS+2)%16=0
  .have Y4:(((s.ld.aS+2).toNat:J):aa)=s.ld.aS+2:=U
   have Aw:=af (Q9 j ps.o (i.out.2.1.same rfl) (i.out.1.bd.FC _) (by show(cs++hQ s.ld (s.ld.aS+1)).length<=_;rw[cx];have:=i.out.2.2.2.2.2.2;omega) (s.ld.aS+2).toNat (by
    show ve s.x _;rw[S.out];exact L.out.2.2.1 _ (by have:=i.out.2.2.2.2.1;omega) U))
   rw[Y4]at Aw;have T:=af (show eZ (s,cs)=iY (s.ld.aS+2).toNat ({s with ld:=jY s.ld (s.ld.aS+1)},cs++hQ s.ld (s.ld.aS+1))by unfold eZ;dsimp only;rw[aD u]);have Y8:(Int.tmod (s.ld.aS+2) 16 == 0)=true:=by rw[N,u];rfl
   have Y9:((s.ld.aS+2)%16 == 0)=true:=by rw[u];rfl
   have Za:=D;clear N u Y4 Tq O D;go_wp2_with fail;refine br s'.o ?_;go_wp2_with fail;refine aT Aw.o λZd V=>?_;rw[<-T.o]at V;have Y6:=af V;clear V;exact Mg
  have T:=af (show eZ (s,cs)=({s with ld:=jY s.ld (s.ld.aS+1)},cs++hQ s.ld (s.ld.aS+1))by unfold eZ;dsimp only;rw[aA u]);have Y8:(Int.tmod (s.ld.aS+2) 16 == 0)=false:=by rw[N];simpa using u
  have Y9:((s.ld.aS+2)%16 == 0)=false:=by simpa using u
  have Za:=D;clear N u Tq O D;go_wp2_with fail;refine br s'.o ?_;have Y6:=af (show fh m' b (eZ (s,cs)) o sd m R by rw[T.o];exact ps.o);exact Mg
end
def SQ{c f r:aa}{v:J->aa}(h:Mid c f r v):∀ k,k<2->bk (v (4+10*k))/\bk (v (4+10*k+1)):=λk hk=>by
 have p:=h.pl (4+10*k) (by unfold ej;omega);have a:=p.x;have b:=p.y;unfold bk;simp only[re]at a;omega
def cb.oV{s:bO}{F:J}{ba us:J->J->aa}(h:cb s F ba us):jW s:=by
 have⟨r,hm,_⟩:=tX us h.aO s.x.now;exact⟨_,h.hR.st h.ju.1 bA,SQ hm⟩
def cb.Xg{s:bO}{F:J}{ba us:J->J->aa}(h:cb s F ba us)(b:s.x.now<=1000000)(f:J)(h1:F<=f)(h2:f<=s.x.now):ve s.x f:=by
 have⟨r,hm,a⟩:=tX us h.aO f;have e:=h.hR.gQ h1 h2;have⟨s1,s2,gO⟩:=hm.Xk U a;exact⟨by rw[e];exact h.hR.st h1 h2,by rw[e];exact s1,by rw[e];exact s2,by rw[e];exact gO,U⟩
structure oE(s:bO)(k:J)(p:ct):ak where
 rest:p.1={s with ld:=p.1.ld}
 aS:p.1.ld.aS=s.ld.aS
 hd:p.1.ld.hd=s.ld.hd
 ef:fg p.1.ld.bd
 bd:hn p.1.ld.bd
 lp:(p.1.ld.bd.length:aa)<=p.1.ld.most/\p.1.ld.most<=256
 len:p.2.length<=320*k
def J'{s:cH}(h:s.bd.length<=256){fr now:aa}{xs:ah aC}(c:xs.length<=64):(ks s fr xs now).length<=320:=by
 have a:=Ci s.most now (hS s.bd (gy xs (gA s.bd fr))) xs;have b:(ix xs (gA s.bd fr)).length<=s.bd.length:=by
  exact No
 unfold ks;rw[cx];omega
def oE.step{s:bO}{k:J}{p:ct}(h:oE s k p){n:J}{xs:ah aC}(a:eH n xs)(now:aa):oE s (k+1) (jk now p (n,xs)):=by
 have c:=h.lp;have h1:=J' (s:=p.1.ld) (fr:=n) (now:=now) U a.2.1;refine⟨cV (λq:bO=>{q with ld:=o6 p.1.ld n xs}) h.rest,h.aS,h.hd,?_,h.bd.tell (λe b=>(a.2.2 e b).1) h.ef,⟨?_,c.2⟩,?_⟩
 .exact(yP (most:=p.1.ld.most) (now:=0) (vm h.ef _) xs).1
 .have hd:=(rG p.1.ld.bd (gy xs (gA p.1.ld.bd (n:aa)))).length_le;exact J1 (vm h.ef _) (show(((hS p.1.ld.bd (gy xs (gA p.1.ld.bd (n:aa)))).length:J):aa)<=p.1.ld.most by omega) xs
 have:=h.len
 show(p.2++ks p.1.ld n xs now).length<=_;rw[cx];omega
section
open Go.Maps
variable{w w':ai}{b:fT}{s:bO}{R A:ah ay}{d:gi}{q:ct}{o:J}{sd:aw}{m:aY}{F:J}{ba us:J->J->aa}
def NA(w:ai)(v:aw)(ps:ah fi):ak:=w.ownsRow 0 271 2 v ps.length (rowP ps)/\∀ p∈ps,w.ownsRow 0 45 9 p.cL p.xs.length (bX p.xs)
def ay.kW(v:aw)(ps:ah fi):ay where
 S j:=v.ownBlock=some j\/∃ p∈ps,p.cL.ownBlock=some j
 P w:=NA w v ps
 lt h a:=by
  rcases a with a|⟨p,ar,a⟩
  .exact oX h.1 a
  .exact oX (h.2 p ar) a
 frame h hk ax:=⟨b3 h.1 hk λj a=>ax j (.inl a),λp ar=>b3 (h.2 p ar) hk λj a=>ax j (.inr ⟨p,ar,a⟩)⟩
structure NG(s:bO)(dY:ck)(ps:ah fi):ak where
 now:dY.now=s.x.now
 eq:cW s=(ps.map fi.key).foldl (jk s.x.now) ({s with x:=dY},[])
 ok:∀ p∈ps,eH p.n p.xs/\s.ld.aS<p.n/\p.n<=s.x.now
 fX:ps.length<=64
def Q5(h:Sep w (bC b s d++A))(ar:cb s F ba us)(B:s.x.now<=100000):az 138 #[b.c.c] w λe w'=>∃ dY ps i cap,e=aV #[ao i ps.length cap,I 0]/\NG s dY ps/\Sep w' (ay.kW (ao i ps.length cap) ps :: (bC b {s with x:=dY} d++A)):=by
 cases hw:fQ s.x with
 | none=>
  refine aT (OS (gX h) hw) λan r=>?_;refine⟨s.x,[],none,0,rfl,⟨rfl,by unfold cW;rw[hw];rfl,λp ar=>(by cases ar),aI⟩,?_⟩;have au:(ay.kW (ao none 0 0) []).P an:=⟨gB _ _ _ _,λp ar=>by cases ar⟩;exact(h.keep r).cons (a_ an) (λ_ _ _ _=>id) au (λj a=>by rcases a with a|⟨p,ar,_⟩;cases a;cases ar)
 | some g=>
  have⟨g1,D,E,G,v⟩:=ar.hR.CS ar.aJ ar.ju.1 hw;have L:s.ld.aS<g:=by
   rcases Int.lt_or_le s.ld.aS g with c|c
   .exact c
   exact absurd (ar.sn g (.inr c)) v
  have H:=ar.ju;have K:=ar.mB;obtain⟨_,_,_,_,u,_⟩:=tT s.x g (s.x.now-g);refine(OR (gX h) hw U (λk hk=>Oy ar.hR ar.aO ar.en g1 U B k hk) U).mono ?_;rintro e an ⟨ps,i,cap,rfl,m,l,o,aq,r⟩;have M:ps.length=s.x.now-g:=by rw[<-hh (f:=fi.key),l];unfold me;simp
  refine⟨_,ps,i,cap,rfl,⟨u,?_,λp z=>?_,U⟩,?_⟩
  .unfold cW;rw[hw,l]
  .have hm:p.key∈me s.x g (s.x.now-g):=by rw[<-l];exact fu.2 ⟨p,z,rfl⟩
   have⟨j,a,t⟩:=fu.1 hm;have a:=ph.1 a;have au:p.n=g+j:=(cV Prod.fst t).symm;have C:p.xs=hT (jJ s.x ba us g s.x.now) s.x.aO (g+j):=by rw[<-BF ar.hR g1 U j U];exact(cV Prod.snd t).symm
   exact⟨by rw[au,C];exact rJ _ ar.aO _,U,U⟩
  exact h.yJ 1 (r':=ay.core b.c (replay s.x g (s.x.now-g))) (q:=ay.kW (ao i ps.length cap) ps) rfl r (λ_ _ h=>h) aq (λ_ h=>.inl h) ⟨kr m (c' _),λp ar=>kr (o p ar) (c' _)⟩ (λj a=>by
   rcases a with a|⟨p,ar,a⟩
   .exact(m.lt j a).1
   .exact((o p ar).lt j a).1) (λj a y=>by
   have h1:=(gX h).lt y;rcases a with a|⟨p,ar,a⟩
   .have:=(m.lt j a).1;omega
   .have:=((o p ar).lt j a).1;omega)
end
section
open Go.Maps
variable{ey:Old}{w w':ai}{b:fT}{s:bO}{R:ah ay}{o:J}{sd:aw}{m:aY}{F:J}{ba us:J->J->aa}
def mm(s:bO)(dY:ck)(now:aa)(ps:ah fi):ct:=(ps.map fi.key).foldl (jk now) ({s with x:=dY},[])
def Xv(s:bO)(dY:ck)(now:aa)(ps:ah fi)(p:fi):mm s dY now (ps++[p])=jk now (mm s dY now ps) (p.n,p.xs):=by
 unfold mm;rw[jO,zn,Gs];rfl
def Vj(w:ai):(Instr.alloc 271 true (aV #[])).run prog w=.ok w.heap.size (w.alloc (ae #[I 0,ao none 0 0] 271)):=aH
structure ES(L:ah ay)(tO n:J)(cL:aw)(W:ai):ak where
 sep:Sep W L
 box:W.heap[tO]?=some (ae #[I (n:aa),cL] 271 (0,0))
def Q8(a:ay.kinds ey∈R)(h:fh w b (s,[]) o sd m R)(ar:cb s F ba us)(Zu:s.x.now<=100000)(aR:s.ld.hd=false):az 86 #[b.p,o] w λe w'=>e=aV #[]/\fh w' b (cW s) o sd m R:=by
 have⟨d,cw,H⟩:=h;have⟨v,Zh,aX⟩:=ar.oV;have Zj:=af (A6 H v Zh);have Y':=af H;have M:=b8 ar (bD Zu (bD aX aR));have a:=af a;clear H Zh aX ar Zu aR
 go_in
 go_wp2_with fail;refine aT Zj.o λan Zy=>?_;go_wp2_with fail;refine(Kh v M.o.2.2.1 _).mono ?_;rintro e aB ⟨⟨c,rfl,Y2,Zr,Zs⟩,Zo⟩;have Za:=Y'.out.keep (Zy.fE Zo);have l':=B1 aB;have O:=aW aB (ae jr 264);obtain⟨y,_,Z⟩:=dO (aB.alloc (ae jr 264)) 264 26 aB.heap.size c _ sizeOf264 Y2 rfl O (ff.2 Zr);have Y6:=fe (aB.alloc (ae jr 264)) aB.heap.size _ c 264 O;have Y9:=cK ((a_ aB).alloc (ae jr 264)) Z a7;generalize (aB.alloc (ae jr 264)).setRow aB.heap.size c=bn at y Y6 Y9;generalize aB.alloc (ae jr 264)=ZX at l' y;obtain⟨dH,Y7⟩:=cQ aB.heap.size;have Aw:=(Za.cons (r:=ay.bc dH (c,264)) Y9 (λ_ _ _ _=>id) (Y7▸Y6) (λj z=>by have z:j=dH:=z;omega)).qI;rw[<-Y7]at l' y;have bu:=lk Aw;have Zl:=af (Q5 Aw M.out.1 M.out.2.1);have CW:=b8 Y2 Zs;clear Za Aw O Z Y6 Y9 Y7 Zj Y' Zy Zo Y2 Zr Zs;go_wp2_with first|refine ea l' rfl rfl ?_|refine c8 y rfl rfl rfl rfl ?_
 clear l' y;refine Zl.o.mono ?_;rintro e ys ⟨dY,ps,zp,cap,rfl,vl,gf⟩;have gf:=gf.qI;have Q:=M.out.1;have Zm:oE {s with x:=dY} 0 (mm s dY s.x.now []):=⟨rfl,rfl,rfl,Q.ef,Q.pL,⟨Q.lp,Q.most.2⟩,by show([]:ah cg).length<=_;simp⟩;have Zn:∀ (L:ah fi) (k:J) (Y:ct),Y.1.x=dY->((L.map fi.key).foldl (jk s.x.now) Y).1.x=dY:=by
  intro L
  induction L with
  | nil=>intro k Y h;exact h
  | cons p L ZK=>intro k Y h;exact ZK k _ h
 obtain⟨cN,Y_,_⟩:=r0 Q;have Zx:(cW s).1.x=dY:=by rw[vl.eq];exact Zn ps 0 _ rfl
 have g':=b8 (Y_.oV.same (s':={s with x:=dY}) Zx.symm) (bD CW.out.1 CW.out.2);have V:=b8 vl (bD Q.aS (bD M.out.2.2.2 (bD M.out.2.1 vl.fX)));have zd:=af (bD gf Zm);clear Zl gf vl Q Zm Zn Y_ Zx M CW bu;simp only;go_wp2_with fail;go_loopg [23] ps.length (λg i wr=>∃ pre rest:ah fi,ps=pre++rest/\g=rest.length/\i=I pre.length/\oE {s with x:=dY} pre.length (mm s dY s.x.now pre)/\∃ d cw,Sep wr (bC b (mm s dY s.x.now pre).1 d++ay.out o cw sd m (mm s dY s.x.now pre).2 :: ay.kW (ao zp ps.length cap) ps :: ay.bc dH (c,264) :: R))
 case atStart=>exact⟨[],ps,rfl,rfl,rfl,zd.o.2,d,cw,zd.o.1⟩
 obtain⟨pre,rest,T,a1,rfl,l,d,cw,D⟩:=hrel;clear zd;cases rest with
 | nil=>
  obtain rfl:ps=pre:=by rw[T,eX]
  have ZU:¬ (ps.length:aa)<(ps.length:aa):=U;clear T;by_cases ZT:0<ps.length
  .have ZG:=ed U;have ZC:=ed U;have Zt:(mm s dY s.x.now ps).1.x=dY:=by rw[l.rest]
   have ZF:=g'.out.1.same Zt;have⟨v9,Tq,Zv⟩:=ZF;have⟨f,S⟩:=cQ (mm s dY s.x.now ps);rw[<-S]at D Tq;have⟨B,N⟩:=cQ (bC b f.1 d++ay.out o cw sd m f.2 :: ay.kW (ao zp ps.length cap) ps :: ay.bc dH (c,264) :: R);have C:∀ W,Sep W B->Sep W (bC b f.1 d++ay.out o cw sd m f.2 :: ay.kW (ao zp ps.length cap) ps :: ay.bc dH (c,264) :: R):=λW h=>N▸h;have E:Sep wr.drew B:=by rw[N];exact D.drew 1
   have ZQ:∀ t:bp (λW=>Sep W B),t.to.cell? (ad b.p 5 ab)=some (.pointer (some (ad b.dT 0 ab))):=λt=>GF (C _ t.held);have fr:∀ W,(∃ t:bp (λW=>Sep W B),W=t.to)->(Instr.loadAt 264 dH).run prog W=.ok (.agg c) W:=λW ⟨t,aN⟩=>by
    rw[aN];have aj:=(C _ t.held).at' 11 rfl;exact gq (P:=prog) 264 26 dH 0 c c _ isAgg264 sizeOf264 g'.out.2.1 aj (λj u z=>jS)
   have Zk:=af (λ(W:ai) (V':Sep W B)=>A6 (C _ V') v9 Tq);have Zb:=af C;have ZE:=af Zv;have Zc:=b8 S g'.out.2.2;clear D Zt Tq N C Zv S l;go_wp2_with fail;refine cB 11 ?_;refine cC ((λW=>Sep W B)) (.range 10) 1 10 ?_;refine pM (E) (.range 7) 3 λhne=>?_
   repeat (first|(refine j7 fr rfl rfl rfl ?_;simp only[Act.put,c_])|go_big_quiet_step (fail))
   refine wpQuiet_nil ?_;clear hne;refine dC 7 λK a=>?_;go_simp;refine aT (Zk.o _ E) λZR Zz=>?_;have Q':=E.keep Zz;refine a _ _ (Q') ?_;clear a K;refine dC 8 λK a=>?_;go_simp;refine(Kh v9 ZE.o _).mono ?_;rintro e ZZ ⟨⟨dS,rfl,_,_,Ze⟩,Zp⟩;have St:=Q'.keep (Keeps.bE Zp a7);refine a _ _ (St) ?_;clear a K;refine jg 9 λK a=>?_;go_simp;refine(XM Zc.out.2 Ze _).mono ?_;rintro e Z0 ⟨⟨ZL,ZM,ZN,ZO,ZH,rfl⟩,Zq⟩;have h2:=St.keep (Keeps.bE Zq a7);refine a _ _ (h2) ?_;clear a K;clear E Q' St Zz Zp Zq Ze Zk ZQ fr;have Zi:=af (Pk b.dT (GH (Zb.out _ h2)) ZL ZM ZN ZO ZH);refine cC (ox) [10] 0 1 ?_;refine kn 10 λK a=>?_;go_simp;refine Zi.o.mono ?_;rintro e ZS ⟨⟨fv,rfl⟩,Zg,ZA⟩;refine a _ _ (lY _) ?_;clear a K;have ZB:=af (show fh ZS b (mm s dY s.x.now ps) o sd m R from Zc.out.1▸⟨d,cw,(GI (Zb.out _ h2) Zg ZA).p2.p2⟩);clear h2 Zg ZA Zi;exact LN
  have ZG:=cZ U;have ZC:=cZ U;have ZB:=af (show fh wr b (mm s dY s.x.now ps) o sd m R from⟨d,cw,D.p2.p2⟩);clear D l;exact LN
 | cons p rest=>
  have ZJ:pre.length<ps.length:=by rw[T];simp
  have ZV:(pre.length:aa)<(ps.length:aa):=U;have he:ps[pre.length]=p:=by simp[T]
  have Y4:p∈ps:=by rw[T];simp
  have m':=V.out.1.ok p Y4;have Zw:ps=(pre++[p])++rest:=by rw[T];simp
  have ZI:=a1;simp only[dr]at ZI;have r':=D.at' 10 rfl;obtain⟨r,rfl⟩:=oY r'.1 U;have a':=nW (P:=prog) (enc:=λp:fi=>[I (p.n:aa),p.cL]) (λ_=>rfl) isAgg271 sizeOf271 r'.1 pre.length ZJ;rw[he]at a';have a':=a';have dF:=Vj wr;have O:=aW wr (ae #[I 0,ao none 0 0] 271);obtain⟨y,_,Z⟩:=dO (wr.alloc (ae #[I 0,ao none 0 0] 271)) 271 2 wr.heap.size #[I (p.n:aa),ao p.A p.xs.length p.cap] _ sizeOf271 rfl rfl O rfl;have W':=fe (wr.alloc (ae #[I 0,ao none 0 0] 271)) wr.heap.size _ #[I (p.n:aa),ao p.A p.xs.length p.cap] 271 O;have v':=cK ((a_ wr).alloc (ae #[I 0,ao none 0 0] 271)) Z a7;generalize (wr.alloc (ae #[I 0,ao none 0 0] 271)).setRow wr.heap.size _=ys at y W' v';generalize wr.alloc (ae #[I 0,ao none 0 0] 271)=ZY at dF y;obtain⟨f,S⟩:=cQ (mm s dY s.x.now pre);rw[<-S]at D l;obtain⟨B,N⟩:=cQ (bC b f.1 d++ay.out o cw sd m f.2 :: ay.kW (ao (some (ad r 0 ab)) ps.length cap) ps :: ay.bc dH (c,264) :: R);have C:∀ W,Sep W B->Sep W (bC b f.1 d++ay.out o cw sd m f.2 :: ay.kW (ao (some (ad r 0 ab)) ps.length cap) ps :: ay.bc dH (c,264) :: R):=λW h=>N▸h;obtain⟨tO,Y3⟩:=cQ wr.heap.size;have E:ES B tO p.n (ao p.A p.xs.length p.cap) ys.drew:=⟨by rw[N];exact(D.keep v').drew 1,Y3▸W'⟩;obtain⟨G,X⟩:=hj (F:=λW=>ES B tO p.n (ao p.A p.xs.length p.cap) W);have Y:∀ t:bp G,t.to.cell? (ad b.p 0 ab)=some (.pointer (some (ad b.c.c 0 ab))):=λt=>lk (C _ ((X _).1 t.held).sep);have ZP:=λx:bp G=>aP (((X _).1 x.held).box);have fr:∀ W,(∃ t:bp G,W=t.to)->(Instr.loadAt 271 tO).run prog W=.ok (aM #[I (p.n:aa),ao p.A p.xs.length p.cap]) W:=λW ⟨t,aN⟩=>by
   rw[aN];exact gq (P:=prog) 271 2 tO 0 #[I (p.n:aa),ao p.A p.xs.length p.cap] #[I (p.n:aa),ao p.A p.xs.length p.cap] _ isAgg271 sizeOf271 rfl ((X _).1 t.held).box (λj u z=>jS)
  have lb:=(X _).2 E;have Y8:f.1.x=dY:=by rw[l.rest]
  have Zf:Hid (∀ W,G W->az 22 #[b.c.c] W λe w'=>e=.returned (I (s.x.now:aa))/\W=w'):=af (λW V'=>by
   have h1:=rB (gX (C _ ((X W).1 V').sep));rw[Y8,V.out.1.now]at h1;exact h1)
  have T':=af (Ha (w:=ys.drew) (b:=b) (q:=f) (o:=o) (sd:=sd) (m:=m) (R:=ay.kW (ao (some (ad r 0 ab)) ps.length cap) ps :: ay.bc dH (c,264) :: R) (kx _ (kx _ a.out)) ⟨d,cw,C _ E.sep⟩ (show ys.drew.ownsRow 0 45 9 (ao p.A p.xs.length p.cap) p.xs.length (bX p.xs)from b3 (r'.2 p Y4) (v'.drew) (λ_ _=>id)) m'.1 (s.x.now:aa) ⟨U,by have:=V.out.2.2.2.1;omega⟩ (l.hd.trans V.out.2.2.1) (by rw[l.aS];exact m'.2.1) (g'.out.1.same Y8) l.bd (by have:=l.len;have:=V.out.2.2.2.2;omega));have Y5:jk s.x.now f (p.n,p.xs)=mm s dY s.x.now (pre++[p]):=by rw[Xv,S]
  rw[Y5]at T';have TS:=l.step m'.1 s.x.now;rw[Y5]at TS;have ew:=b8 TS Zw;have ZW:=V.out.2.2.2.2;rw[<-Y3]at dF y;clear D l T a1 he Y4 m' Zw r' O Z W' v' S N C E X Y8 Y5 TS Y3;go_wp2_with first|((with_reducible refine dm a' rfl rfl ?_ ?_);exact rfl)|refine ea dF rfl rfl ?_|refine c8 y rfl rfl rfl rfl ?_
  clear a' dF y;simp only[Act.put,c_];refine cB 10 ?_;refine cC (G) (.range 9) 1 9 ?_;refine pM (lb) (.range 8) 1 λhne=>?_
  repeat (first|(refine j7 fr rfl rfl rfl ?_;simp only[Act.put,c_])|go_big_quiet_step (fail))
  refine wpQuiet_nil ?_;clear hne;refine jg 8 λK a=>?_;go_simp;refine br (Zf.o _ lb) ?_;refine a _ _ (lb) ?_;clear a K;clear Y ZP fr lb Zf;refine cC (ox) [9] 0 1 ?_;refine kn 9 λK a=>?_;go_simp;refine aT T'.o ?_;rintro ZR ⟨d5,v5,Zd⟩;refine a _ _ (lY _) ?_;clear a K;have ZD:=af Zd;clear Zd T';go_wp2_with fail;go_roundg rest.length
  case measure=>omega
  exact⟨pre++[p],rest,ew.out.2,rfl,qg,by rw[cx,iM];exact ew.out.1,d5,v5,ZD.o⟩
end
section
open Go.Maps
variable{ey:Old}{w w':ai}{b:fT}{s:bO}{R:ah ay}{d:gi}{q:ct}{o:J}{sd:aw}{m:aY}
structure EW(s:bO):ak where
 cu:-1000<=s.cu/\s.cu<=1000
 n4:0<=s.aE.b_/\s.aE.b_<=1000000
 cj:0<=s.aE.c2/\s.aE.c2<=1000000
 hd:s.ld.hd=false
 aS:s.ld.aS<s.x.now
 no:fQ s.x=none
 bd:hn s.ld.bd
 now:jW s
 dl:s.x.eD<=1000
 d:(s.x.f s.x.aJ).next<=s.x.now+s.x.eD
 dG:(s.x.f s.x.aJ).next<1000000
 w:(s.x.f s.x.aJ).first<=(s.x.f s.x.aJ).next/\(s.x.f s.x.aJ).next<(s.x.f s.x.aJ).first+64
def x8{w:ai}{b:fT}{q:ct}{o:J}{sd:aw}{R:ah ay}{v:aQ}(h:fh w b q o sd false R)(aq:fW q.1=false):fh w b (eL v q) o sd (fW q.1) R:=by
 unfold eL;rw[aq];exact h
def Qz{p:ct}{v:aw}(h:Sep w (bC b p.1 d++ay.out o v sd m p.2 :: R))(m':aY):Sep (w.setCell (ad o 2 ab) (.bool m')) (bC b p.1 d++ay.out o v sd m' p.2 :: R):=by
 obtain⟨aj,c⟩:=kf h;have eI:=(Keeps.refl (λj=>j=o) w).setCell (p:=ad o 2 ab) rfl (.bool m');exact AW h ⟨by simpa using bW aj 2 (.bool m'),b3 c eI (λj a e=>tN c (e▸aj) bq a)⟩ (eI.mono λ_ _ e=>.inl e) (λj a=>.inr (.inl a))
def QB{p:ct}{v:aw}(h:Sep w (bC b p.1 d++ay.out o v sd m p.2 :: R))(sd':aw):Sep (w.setCell (ad o 1 ab) sd') (bC b p.1 d++ay.out o v sd' m p.2 :: R):=by
 obtain⟨aj,c⟩:=kf h;have eI:=(Keeps.refl (λj=>j=o) w).setCell (p:=ad o 1 ab) rfl sd';exact AW h ⟨by simpa using bW aj 1 sd',b3 c eI (λj a e=>tN c (e▸aj) bq a)⟩ (eI.mono λ_ _ e=>.inl e) (λj a=>.inr (.inl a))
def Ra(g':ay.kinds ey∈R)(h:fh w b q o sd false R)(v:aQ)(aX:v.toNat<=63)(hk:EW q.1)(vl:q.2.length<=40000)(ps:fW q.1=true->Can (eu q.1 v).x q.1.x.now/\fQ (eu q.1 v).x=none/\jB (eu q.1 v).x=false/\q.1.x.now<((eu q.1 v).x.f q.1.x.aJ).next/\eH q.1.x.now (hY (eu q.1 v).x q.1.x.now)/\jW (lL (eu q.1 v,q.2)).1):az 88 #[b.p,o,aF v.toNat] w λe w'=>e=aV #[]/\fh w' b (eL v q) o sd (fW q.1) R:=by
 have⟨s,cs⟩:=q;have M:=h;have⟨d,cw,H⟩:=h;have b0:=nH H;have al:=af (HU (l4 H));by_cases m:s.aE.state=1;rotate_left
 .have t:=af (x8 (v:=v) M (show fW s=false by unfold fW;simp[m]));have CW:=cZ m;generalize s.aE.state=z at *
  go_in
  go_wp2_with fail;refine br al.o ?_;exact DE
 rw[m]at al;have k:=af (Rb H hk.cu hk.n4);by_cases g:so s=true
 .have t:=af (x8 (v:=v) M (show fW s=false by unfold fW;simp[g]));have S:=af (λn=>(show fh (w.drewN n) b (eL v (s,cs)) o sd (fW s) R from x8 ⟨d,cw,H.drew n⟩ (show fW s=false by unfold fW;simp[g])));rw[g]at k
  go_in
  go_wp2_with fail;refine br al.o ?_;go_wp2_with fail;refine aT k.o ?_;rintro _ ⟨n,rfl⟩;have t:=af (S.out n);exact DE
 have g:so s=false:=by simpa using g
 rw[g]at k;have i:=af hk;by_cases c:jB s.x=true
 .have l:fW s=false:=by unfold fW;simp[c]
  have C:=af (λn=>OQ (gX (H.drew n)) v.toNat c);have B:=af H;have Q:=af l;have T:=af c;have u:=af (λn=>lk (H.drew n))
  go_in
  go_wp2_with fail;refine br al.out ?_;go_wp2_with fail;refine aT k.out ?_;rintro _ ⟨n,rfl⟩;have bu:=u.out n;have E:=af (C.out n);go_wp2_with fail;refine aT E.o λaB G=>?_;have h2:=(B.out.drew n).keep G;have bu:=lk h2;have F:=af (OU (gX h2) i.out.no T.out);have y:=af h2;simp only;go_wp2_with fail;refine aT F.o λbn K=>?_;have t:=af (x8 (v:=v) (show fh (bn.alloc (ae #[I 0,ao none 0 0] 271)) b (s,cs) o sd false R from⟨d,cw,(y.o.keep K).keep ((a_ bn).alloc _)⟩) Q.out);exact DE
 have c:jB s.x=false:=by simpa using c
 have l:fW s=true:=by unfold fW;simp[m,g,c]
 have⟨g1,W,X,Y,Z,g6⟩:=ps l;have C:=af (λn=>OP (gX (H.drew n)) v.toNat U c hk.d hk.dl hk.dG hk.w);have B:=af H;have u:=af (λn=>lk (H.drew n));have a:=b8 g1 (bD W (bD X (bD Y (bD Z (bD g6 vl)))));unfold eL;dsimp only;rw[aD l,l]
 go_in
 go_wp2_with fail;refine br al.out ?_;go_wp2_with fail;refine aT k.out ?_;rintro _ ⟨n,rfl⟩;have bu:=u.out n;have E:=af (C.out n);go_wp2_with fail;refine aT E.o ?_;rintro aB ⟨ys,G⟩;have h2:=xO (B.out.drew n) ys G;have b0:=nH h2;have l':=af (Sz (l4 h2) (s.x.f s.x.aJ).next v (by have:=i.out.cj;simp only;omega));have y:=af h2;go_wp2_with fail;refine aT l'.o ?_;rintro bn ⟨r',K⟩;have D:=xP y.out r' K;have bu:=lk D;obtain⟨r,lb,v'⟩:=a.out.1.st;have m':=af (OT (gX D) a.out.2.1 a.out.2.2.1 a.out.2.2.2.1 a.out.1.L lb v' a.out.1.top a.out.1.b6 a.out.1.Gk a.out.1.um);have P:=af D;simp only;go_wp2_with fail;refine m'.o.mono ?_;rintro e O ⟨⟨A,cap,rfl,s'⟩,zd,zp⟩;have a':=xO P.out zd zp;have gf:=aW O (ae #[I (s.x.now:aa),.slice A (hY (eu s v).x s.x.now).length cap] 271);have N:=(a_ O).alloc (ae #[I (s.x.now:aa),.slice A (hY (eu s v).x s.x.now).length cap] 271);have Aw:=aP gf;have F:=af (Ha (q:=({eu s v with x:={iX (eu s v).x s.x.now with now:=s.x.now+1}},cs)) g' ⟨d,cw,a'.keep N⟩ (b3 s' N (λ_ _=>id)) a.out.2.2.2.2.1 (s.x.now:aa) ⟨U,by have:=a.out.1.top;omega⟩ i.out.hd i.out.aS (jW.same (s:=(lL (eu s v,cs)).1) a.out.2.2.2.2.2.1 rfl) i.out.bd (b7 a.out.2.2.2.2.2.2 bq));go_wp2_with fail;refine aT F.o ?_;rintro Q' ⟨V,v6,j⟩;have j:=j;have f2:=aP ((kf j).1);have gl:=bJ ((kf j).1);have fr:=af (show fh _ b (lL (eu s v,cs)) o sd true R from⟨V,v6,Qz (p:=lL (eu s v,cs)) j true⟩);go_wp2_with fail;go_end0;exact⟨rfl,fr.o⟩
end
section
variable{w w':ai}{s:bO}{F:J}{ba us:J->J->aa}
theorem oE.many{s:bO}(now:aa):∀ (L:ah (J×ah aC)) (k:J) (p:ct),oE s k p->(∀ g∈L,eH g.1 g.2)->oE s (k+L.length) (L.foldl (jk now) p)
 | [],_,_,h,_=>h
 | g :: L,k,p,h,a=>by
  rw[dr,show k+(L.length+1)=k+1+L.length by omega];exact oE.many now L (k+1) _ (h.step (a g oh) now) (λe b=>a e (kx _ b))
def cb.I1(h:cb s F ba us):(cW s).2.length<=5760:=by
 cases hw:fQ s.x with
 | none=>unfold cW;rw[hw];simp
 | some g=>
  obtain⟨g1,d,_⟩:=h.hR.CS h.aJ h.ju.1 hw;have f:=h.ju;have i:=h.mB;have b:oE {s with x:=replay s.x g (s.x.now-g)} 0 ({s with x:=replay s.x g (s.x.now-g)},[]):=⟨rfl,rfl,rfl,h.ef,h.pL,⟨h.lp,h.most.2⟩,aI⟩;have h1:=b.many s.x.now (me s.x g (s.x.now-g)) 0 _ (λe c=>by
   obtain⟨j,a,rfl⟩:=fu.1 c;have a:=ph.1 a;rw[BF h.hR g1 U j U];exact rJ _ h.aO _)
  have k:(me s.x g (s.x.now-g)).length=s.x.now-g:=by unfold me;simp
  unfold cW;rw[hw]
  have:=h1.len
  show((me s.x g (s.x.now-g)).foldl (jk s.x.now) ({s with x:=replay s.x g (s.x.now-g)},[])).2.length<=5760;omega
def J4{q:ct}(v:aQ)(h:cb q.1 F ba us)(ar:fW q.1=true->eH q.1.x.now (hY (eu q.1 v).x q.1.x.now)):(eL v q).2.length<=q.2.length+320:=by
 unfold eL;split
 .rename_i aq;have h1:=J' (s:=q.1.ld) (fr:=q.1.x.now) (now:=q.1.x.now) (by have:=h.lp;have:=h.most;omega) (ar aq).2.1;show(q.2++ks q.1.ld q.1.x.now (hY (eu q.1 v).x q.1.x.now) q.1.x.now).length<=_;rw[cx];omega
 omega
theorem hp.AF{x:ck}:∀ (n:J) {p:ct},hp x p->(e0 n p).2.length<=p.2.length+320*n
 | 0,_,_=>c9 _
 | n+1,p,h=>by
  unfold e0;split
  .omega
  obtain⟨h1,h2,_⟩:=h.step
  have:=hp.AF n h1
  omega
structure uZ(l:b9)(lead:aa):ak where
 aN:0<=l.b_/\l.b_<=1000000
 aR:0<=l.heard/\l.heard<=1000000
 jZ:∀ m∈l.out,m.a8=[]
 hm:∀ m∈(c5 l lead).1,m.wf/\dh m
 au:(c5 l lead).1.length<=100
structure z1(s:bO)(v:aQ)(F:J)(ba us:J->J->aa):ak where
 cG:cb s F ba us
 lu:s.b'=false
 E:s.x.now<=F+s.x.dA+1
 gI:(F:aa)<=s.ld.aS+1
 top:s.x.now<=90000
 dH:v.toNat<=63
 cu:-1000<=s.cu/\s.cu<=1000
 n4:0<=s.aE.b_/\s.aE.b_<=1000000
 cj:0<=s.aE.c2/\s.aE.c2<=1000000
 aE:uZ (dc v s).1.aE (hV {(dc v s).1 with x:=dW (dc v s).1.x})
def cb.W8(h:cb s F ba us)(n:h9 s ba us)(aR:s.b'=false)(i:s.x.now<=90000)(b:-1000<=s.cu/\s.cu<=1000)(d:0<=s.aE.b_/\s.aE.b_<=1000000)(a:0<=s.aE.c2/\s.aE.c2<=1000000):EW s:=by
 have e:=h.ju;have f:=h.mB;have c:=h.ab;have g:=h.hR.first h.aJ;unfold c4 at c;exact⟨b,d,a,h.hd.trans aR,h.aS.2.1,(h.n0 n).1,h.pL,h.oV,U,U,U,U⟩
def YE(s:bO)(v:aQ)(h:s.x.aJ<2):fQ (eu s v).x=fQ s.x:=by
 unfold fQ fq;show i' (eK s.x.f s.x.aJ _ (1-s.x.aJ)).K (eK s.x.f s.x.aJ _ (1-s.x.aJ)).cR=_;rw[qT _ _ U]
def Il(s:bO)(v:aQ):((eu s v).x.f s.x.aJ).next=(s.x.f s.x.aJ).next+1:=by
 show(eK s.x.f s.x.aJ _ s.x.aJ).next=_;rw[qU]
def Ik(s:bO)(v:aQ)(i:J):(s.x.f i).next<=((eu s v).x.f i).next:=by
 by_cases e:i=s.x.aJ
 .rw[e,Il];omega
 show _<=(eK s.x.f s.x.aJ _ i).next;rw[qT _ _ e];exact c9 _
def Qr(s:bO)(v:aQ)(h:jB s.x=false):jB (eu s v).x=false:=by
 have h1:=Ik s v 0;have h2:=Ik s v 1;have a:=DC h;refine cZ ?_;unfold iy at a⊢;show ¬ (s.x.dA:aa)<=(s.x.now:aa)-_;omega
def cb.J3(h:cb s F ba us)(n:h9 s ba us)(i:s.x.now<=90000)(b:s.x.now<=F+s.x.dA+1)(v:aQ)(aX:v.toNat<=63)(o:ah cg)(aq:fW s=true):Can (eu s v).x s.x.now/\fQ (eu s v).x=none/\jB (eu s v).x=false/\s.x.now<((eu s v).x.f s.x.aJ).next/\eH s.x.now (hY (eu s v).x s.x.now)/\jW (lL (eu s v,o)).1:=by
 have⟨a,_,_⟩:=Ae aq;have⟨cN,d,_,_,e,g⟩:=h.step n a U b v aX o;have c:=h.ab;unfold c4 at c;refine⟨g,by rw[YE s v h.aJ];exact(h.n0 n).1,Qr s v a,by rw[Il];omega,?_,d.oV⟩;rw[e];exact rJ _ h.aO _
def OJ{b:fG}(h:IsCore w b s.x)(p:cb s F ba us)(n:h9 s ba us)(l:s.x.now<=90001):az 90 #[b.c,I (cY s.x)] w λe w'=>(∃ n:aa,e=.returned (I n))/\IsCore w' b (dW s.x)/\Keeps b.S w w':=by
 have⟨h1,h2⟩:=p.n0 n;have i:=p.uW;have a:=p.ab;have j:=p.aJ
 have d:∀ k,k<2->(s.x.f k).first=F/\min (bT s) s.x.now<=(s.x.f k).next:=λk hk=>⟨p.hR.first hk,by
  have:k=s.x.aJ\/k=1-s.x.aJ:=U
  rcases this with rfl|rfl
  .unfold c4 at a;omega
  .unfold bT fq;omega⟩
 unfold dW;by_cases ax:cY s.x<0
 .rw[aD ax];refine OK h h1 _ U U (λk hk=>?_);have g:=d k hk
  have:F<=(s.x.f k).next:=by
   have:k=s.x.aJ\/k=1-s.x.aJ:=U
   rcases this with rfl|rfl
   .unfold c4 at a;omega
   have:=p.ju.2.2.1;unfold bT fq at this;omega
  omega
 rw[aA ax];refine OI h h1 (cY s.x).toNat _ U U U (λk hk=>?_) ?_ U
 .have g:=d k hk;omega
 rw[p.hR.eT];omega
end
end Go.Proofs.YtalagblioepadaaGreatDoor
