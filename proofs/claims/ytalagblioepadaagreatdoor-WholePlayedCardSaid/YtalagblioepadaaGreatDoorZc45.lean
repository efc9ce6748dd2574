/- The proof, part 45. -/
import Derived.Test.YtalagblioepadaaGreatDoorZc44
import Derived.Deep.CutBlock
namespace Go.Proofs.YtalagblioepadaaGreatDoor
set_option linter.all false
open Proofs.Tryz List Go.RowKit
set_option maxRecDepth 100000
set_option maxHeartbeats 4000000
def MO{p:ak}(h:p:=by
 go_wp2_with fail;go_roundg k
 case rel=>exact⟨eH (s,cs),k,rfl,by rw[<-v.out.1];exact i.out.2.2.1,ZJ.o,v.out.2.1.1,by rw[v.out.2.1.2.2];have:=i.out.2.2.2.1;(try dsimp only);omega,by rw[v.out.2.1.2.2];have:=i.out.2.2.2.2.1;(try dsimp only);omega,by rw[v.out.2.1.2.2];(try dsimp only);omega,by have:=v.out.2.1.2.1;have:=i.out.2.2.2.2.2.2;(try dsimp only at *);omega⟩
 omega
 ):p:=h
def Nn{p:ak}(h:p:=by
 go_wp2_with first|refine ow a rfl rfl rfl rfl ?_|refine ow g rfl rfl rfl rfl ?_
 refine bA aT.out ?_;go_wp2_with fail;go_end0;exact⟨rfl,j.out⟩
 ):p:=h
def NX{p:ak}(h:p:=by
 unfold iE gg fX;rw[gV];exact b7 (mH _ _) (mH _ _)
 ):p:=h
def D4{p:ak}(h:p:=by
 go_wp2_with fail;refine cU (v:=aV #[]) (by simp[results,results88]) rfl ?_;exact⟨rfl,t.o⟩
 ):p:=h
def Mk{p:ak}(h:p:=by
 go_wp2_with fail;go_end0;exact⟨rfl,by rw[V.out.1.eq];exact aae.o⟩
 ):p:=h
def Ml{p:ak}(h:p:=by
 clear D B C an;go_wp2_with fail;go_meet;exact⟨_,_,u.sep⟩
 ):p:=h
def xa{p:ak}(h:p:=by
 rw[aO];exact Tj ((a _).1 t.held).box
 ):p:=h
section
open Go.Maps
variable{eC:Old}{w w':ai}{b:ga}{R:ah ay}{q:cl}{o:J}{sd vl:ax}{m:aY}{l:ah ca}
def Bp(z:ay.kinds eC∈R)(h:fo w b q o sd m (ay.cR vl l :: R))(ar:j3 q.1)(al:∀ c∈l,s7 c)(V':q.2.length+l.length<=100000):aA 96 #[b.p,o,vl] w λe w'=>e=aV #[]/\fo w' b (q.1,q.2++l) o sd m R:=by
 obtain⟨s,cs⟩:=q;obtain⟨A,cap,rfl,_,_⟩:=cS (show w.ownsRow 0 47 12 vl l.length (ep l)by obtain⟨d,v,H⟩:=h;exact H.at' 10 rfl);have O:=af (bB h (bB ar (bB al (bB V' z))));clear h ar al V' z
 go_in
 go_wp2_with fail;go_loopg [11] l.length (λg i wr=>∃ pre rest:ah ca,l=pre++rest/\g=rest.length/\i=I pre.length/\fo wr b (s,cs) o sd m (ay.cR (aq A l.length cap) l :: R))
 case atStart=>exact⟨[],l,rfl,rfl,rfl,O.o.1⟩
 obtain⟨pre,rest,f,aZ,rfl,d,v,H⟩:=hrel;cases rest with
 | nil=>
  have ZX:¬ (pre.length:aa)<(l.length:aa):=by rw[f];simp
  obtain⟨aj,hd⟩:=ko (p:=(s,cs)) H;have T:wr.ownsRow 0 47 12 (aq A l.length cap) l.length (ep l):=H.at' 10 rfl;obtain⟨v',ao,ZI,s',ps,lb⟩:=FW 32 hd T O.out.2.2.2.1;have ys:∀ j,v.ownBlock=some j->j≠o:=λj Q e=>ud hd (e▸aj) bq Q;have fr:=ps.heap aj (λe=>ys _ e rfl);have bt:=aS aj;have d0:=aS fr;have f0:=bI fr;have eN:=(Keeps.refl (λj=>j=o) ao).setCell (p:=ad o 0 ab) rfl v';have ZK:=bP aj;have TS:=b4 s' eN (λj Q e=>by
   rcases lb j Q with zd|zd
   .exact ys j zd e
   .omega)
  have l':=bV fr 0 v';simp only[sU,rA]at l';have ZH:=af (show fo (ao.setCell (ad o 0 ab) v') b (s,cs++l) o sd m R from⟨d,v',(Bh (p:=(s,cs)) H (v':=v') (sd':=sd) (m':=m) (l:=cs++l) ⟨l',TS⟩ ((ps.mono λ_ _ e=>.inr e).trans (eN.mono λ_ _ e=>.inl e)) (λj Q=>.inr (lb j Q))).qe⟩);obtain⟨ZO,ZQ,rfl,_,_⟩:=cS hd;obtain⟨ZP,ZR,rfl,_,_⟩:=cS s';clear H aj hd T s' ps lb ys fr eN ZK TS l' f O;go_wp2_with refine wK ZI rfl rfl rfl rfl ?_
  go_end0;exact⟨rfl,by simpa only[cx]using ZH.o⟩
 | cons c rest=>
  have Tq:pre.length<l.length:=by rw[f];simp
  have ZJ:(pre.length:aa)<(l.length:aa):=U;have he:l[pre.length]=c:=by simp[f]
  have ZW:l.length<=100000:=by have:=O.out.2.2.2.1;omega
  have T':s7 c:=O.out.2.2.1 c vf;have W':l=(pre++[c])++rest:=by rw[f];simp
  have CW:=aZ;simp only[ds]at CW;have T:wr.ownsRow 0 47 12 (aq A l.length cap) l.length (ep l):=H.at' 10 rfl;obtain⟨r,rfl⟩:=pa T U;have V:=og (P:=prog) (enc:=ca.br) (λ_=>rfl) isAgg47 sizeOf47 T pre.length Tq;rw[he]at V;have V:(Instr.loadAt 47 (.pointer (some (ad r (pre.length*12) ab)))).run prog wr=.ok (.agg (dk c)) wr:=V;have dw:=yX wr;obtain⟨a',Z,zp,Q',ZM⟩:=xG wr c;obtain⟨bM,mv⟩:∃ bM,bM=wr.heap.size:=⟨_,rfl⟩;have u:gL (bC b s d++ay.out o v sd m cs :: ay.cR (aq (some (ad r 0 ab)) l.length cap) l :: R) bM c a':=⟨H.keep Q',mv▸zp,λr ZL Q=>absurd (H.lt ZL Q) U⟩;obtain⟨bL,cn,dB,pl⟩:=c;have ZG:a'.cell? (ad bM 0 ab)=some (I bL):=bb u.box rfl;have h2:=af (bB W' T');rw[<-mv]at dw Z;generalize wr.alloc _=ZZ at dw Z;clear H T f aZ he T' W' zp Q' ZM mv
  go_upto_block 1 with fail
  go_cut [] (λbU=>fo bU b (s,cs) o sd m (ay.cR (aq (some (ad r 0 ab)) l.length cap) l :: R))
  case first=>
   have S:=af (bB h2.o.2 (bB O.out.2.1 O.out.2.2.2.2));go_wp2_with first|((with_reducible refine dp V rfl rfl ?_ ?_);exact rfl)|(with_reducible refine d_ dw rfl rfl ?_)|((with_reducible refine c8 Z rfl rfl ?_ ?_ ?_);exact rfl;exact rfl)
   all_goals clear V dw Z ZG O h2 Tq ZJ CW
   .have an:=af (λW (n:gL (bC b s d++ay.out o v sd m cs :: ay.cR (aq (some (ad r 0 ab)) l.length cap) l :: R) bM (ca.mk bL cn dB pl) W)=>by
     obtain⟨bQ,hm⟩:=Bc n.sep;exact TX hm cn S.o.1.cn dB S.o.1.dB)
    obtain⟨G,a⟩:∃ G:ai->ak,∀ W,G W↔gL (bC b s d++ay.out o v sd m cs :: ay.cR (aq (some (ad r 0 ab)) l.length cap) l :: R) bM (ca.mk bL cn dB pl) W:=⟨_,λ_=>Iff.rfl⟩;have M:∀ t:bp G,t.to.cell? (ad b.p 3 ab)=some (.pointer (some (ad b.fe 0 ab))):=λt=>vN ((a _).1 t.held).sep;have N:∀ t:bp G,t.to.cell? (ad b.p 4 ab)=some (.pointer (some (ad b.dU 0 ab))):=λt=>tG ((a _).1 t.held).sep;have L:=λx:bp G=>aS (((a _).1 x.held).box);have E:∀ W,(∃ t:bp G,W=t.to)->(Instr.loadAt 45 (.pointer (some (ad bM 1 ab)))).run prog W=.ok (.agg (dT cn)) W:=λW ⟨t,aO⟩=>by
     exact xa
    have B:=(a _).2 (u.keep (ba a').drew);have C:=af (λW (n:G W)=>(a W).1 n);have F:=af (λW n=>(a W).2 n);clear a;clear u;go_wp2_with fail;refine cH 11 ?_;refine cI (G) (.range 9) 2 9 ?_;refine p0 (B) (.range 9) 0 λhne=>?_
    repeat (first|(refine ke E rfl rfl rfl ?_;simp only[Act.put,c7])|go_big_quiet_step (fail))
    refine wpQuiet_nil ?_;clear hne;refine lI ?_;clear M N L E F;refine cI (λ_=>True) [9,10] 0 2 ?_;refine ew 9 λK z=>?_;go_simp;refine(an.o _ (C.o _ B)).mono ?_;rintro e X ⟨⟨Y,rfl⟩,D⟩;refine z _ _ (trivial) ?_;clear z K;refine kx 10 λK z=>?_;go_simp;refine z _ _ (trivial) ?_;clear z K;obtain⟨d,u⟩:=(C.out _ B).fe D;clear D B C an;go_upto_region 6 with fail
    go_cut [34] (λZN bU=>(∃ t,ZN=.bool t)/\bU=X)
    case first=>
     clear u;cases ZU:(Y == 14)<;>cases ZV:(Y == 8)
     all_goals
      go_wp2_with fail;go_meet;exact⟨⟨_,rfl⟩,rfl⟩
    case rest=>
    obtain⟨⟨t,rfl⟩,rfl⟩:=hcut;go_upto_if 34 with fail
    go_cut [] (λbU=>∃ d:gq,gL (bC b s d++ay.out o v sd m cs :: ay.cR (aq (some (ad r 0 ab)) l.length cap) l :: R) bM (ca.mk bL cn dB pl) bU)
    case first=>
     have Az:=Q9 u.sep;have ZT:=x9 u.sep 11;have gf:=af u;clear u;go_wp2_with fail
     all_goals
      go_meet
      first|exact⟨_,gf.o⟩|exact⟨_,gf.o.mw _⟩
    case rest=>
    obtain⟨d,u⟩:=hcut;have Aw:=af (λW (n:gL (bC b s d++ay.out o v sd m cs :: ay.cR (aq (some (ad r 0 ab)) l.length cap) l :: R) bM (ca.mk bL cn dB pl) W)=>RJ n.sep S.out.2.1 cn.k.em);have an:=af (λW (n:gL (bC b s d++ay.out o v sd m cs :: ay.cR (aq (some (ad r 0 ab)) l.length cap) l :: R) bM (ca.mk bL cn dB pl) W) (x y:aa)=>by
     obtain⟨bQ,hm⟩:=Bb n.sep;have r':ay.kinds eC∈(ay.out o v sd m cs :: ay.cR (aq (some (ad r 0 ab)) l.length cap) l :: R):=by simp[S.out.2.2]
     exact Qz hm (n.sep.all (ay.kinds eC) (e5.2 (.inr r'))).1 (λe=>(pq.1 n.sep.apart).2.2 (ay.dU b.dU d.dg) (by simp[bC]) (ay.kinds eC) r' 0 (.inr e) (n.sep.all (ay.kinds eC) (e5.2 (.inr r'))).2.2.1) cn S.out.1.cn x y)
    obtain⟨G,a⟩:∃ G:ai->ak,∀ W,G W↔gL (bC b s d++ay.out o v sd m cs :: ay.cR (aq (some (ad r 0 ab)) l.length cap) l :: R) bM (ca.mk bL cn dB pl) W:=⟨_,λ_=>Iff.rfl⟩;have M:∀ t:bp G,t.to.cell? (ad b.p 3 ab)=some (.pointer (some (ad b.fe 0 ab))):=λt=>vN ((a _).1 t.held).sep;have N:∀ t:bp G,t.to.cell? (ad b.p 4 ab)=some (.pointer (some (ad b.dU 0 ab))):=λt=>tG ((a _).1 t.held).sep;have L:=λx:bp G=>aS (((a _).1 x.held).box);have E:∀ W,(∃ t:bp G,W=t.to)->(Instr.loadAt 45 (.pointer (some (ad bM 1 ab)))).run prog W=.ok (.agg (dT cn)) W:=λW ⟨t,aO⟩=>by
     exact xa
    have B:=(a _).2 (u.keep (ba wc).drew);have C:=af (λW (n:G W)=>(a W).1 n);have F:=af (λW n=>(a W).2 n);clear a;clear u;go_wp2_with fail;refine cH 14 ?_;refine cI (G) (.range 13) 1 13 ?_;refine p0 (B) (.range 12) 1 λhne=>?_
    repeat (first|(refine ke E rfl rfl rfl ?_;simp only[Act.put,c7])|go_big_quiet_step (fail))
    refine wpQuiet_nil ?_;clear hne;refine jq 12 λK z=>?_;go_simp;refine(Aw.o _ (C.o _ B)).mono ?_;rintro e X ⟨⟨x,y,f,ZY,rfl⟩,St⟩;have g':=(C.out _ B).keep St;refine z _ _ (F.out _ g') ?_;clear z K;clear M N L E F;refine cI (λ_=>True) [13] 0 1 ?_;refine kx 13 λK z=>?_;go_simp;refine(an.out _ g' x y).mono ?_;rintro e Z0 ⟨⟨ZS,rfl⟩,D⟩;refine z _ _ (trivial) ?_;clear z K;obtain⟨d,u⟩:=g'.dU D;clear D B C an Aw g' St;go_wp2_with fail;go_meet;exact⟨_,_,u.sep⟩
   .have an:=af (λW (n:gL (bC b s d++ay.out o v sd m cs :: ay.cR (aq (some (ad r 0 ab)) l.length cap) l :: R) bM (ca.mk bL cn dB pl) W)=>by
     obtain⟨bQ,hm⟩:=Bc n.sep;exact TY hm cn S.out.1.cn)
    obtain⟨G,a⟩:∃ G:ai->ak,∀ W,G W↔gL (bC b s d++ay.out o v sd m cs :: ay.cR (aq (some (ad r 0 ab)) l.length cap) l :: R) bM (ca.mk bL cn dB pl) W:=⟨_,λ_=>Iff.rfl⟩;have M:∀ t:bp G,t.to.cell? (ad b.p 3 ab)=some (.pointer (some (ad b.fe 0 ab))):=λt=>vN ((a _).1 t.held).sep;have N:∀ t:bp G,t.to.cell? (ad b.p 4 ab)=some (.pointer (some (ad b.dU 0 ab))):=λt=>tG ((a _).1 t.held).sep;have L:=λx:bp G=>aS (((a _).1 x.held).box);have E:∀ W,(∃ t:bp G,W=t.to)->(Instr.loadAt 45 (.pointer (some (ad bM 1 ab)))).run prog W=.ok (.agg (dT cn)) W:=λW ⟨t,aO⟩=>by
     exact xa
    have B:=(a _).2 (u.keep (ba a').drew);have C:=af (λW (n:G W)=>(a W).1 n);have F:=af (λW n=>(a W).2 n);clear a;clear u;go_wp2_with fail;refine cH 8 ?_;refine cI (G) (.range 7) 1 7 ?_;refine p0 (B) (.range 7) 0 λhne=>?_
    repeat (first|(refine ke E rfl rfl rfl ?_;simp only[Act.put,c7])|go_big_quiet_step (fail))
    refine wpQuiet_nil ?_;clear hne;refine lI ?_;clear M N L E F;refine cI (λ_=>True) [7] 0 1 ?_;refine kx 7 λK z=>?_;go_simp;refine(an.o _ (C.o _ B)).mono ?_;rintro e X ⟨⟨Y,rfl⟩,D⟩;refine z _ _ (trivial) ?_;clear z K;obtain⟨d,u⟩:=(C.out _ B).fe D;exact Ml
   .have an:=af (λW (n:gL (bC b s d++ay.out o v sd m cs :: ay.cR (aq (some (ad r 0 ab)) l.length cap) l :: R) bM (ca.mk bL cn dB pl) W)=>by
     obtain⟨bQ,hm⟩:=Bc n.sep;exact TU hm cn.k)
    obtain⟨G,a⟩:∃ G:ai->ak,∀ W,G W↔gL (bC b s d++ay.out o v sd m cs :: ay.cR (aq (some (ad r 0 ab)) l.length cap) l :: R) bM (ca.mk bL cn dB pl) W:=⟨_,λ_=>Iff.rfl⟩;have M:∀ t:bp G,t.to.cell? (ad b.p 3 ab)=some (.pointer (some (ad b.fe 0 ab))):=λt=>vN ((a _).1 t.held).sep;have N:∀ t:bp G,t.to.cell? (ad b.p 4 ab)=some (.pointer (some (ad b.dU 0 ab))):=λt=>tG ((a _).1 t.held).sep;have L:=λx:bp G=>aS (((a _).1 x.held).box);have E:∀ W,(∃ t:bp G,W=t.to)->(Instr.loadAt 45 (.pointer (some (ad bM 1 ab)))).run prog W=.ok (.agg (dT cn)) W:=λW ⟨t,aO⟩=>by
     exact xa
    have B:=(a _).2 (u.keep (ba a').drew);have C:=af (λW (n:G W)=>(a W).1 n);have F:=af (λW n=>(a W).2 n);clear a;clear u;go_wp2_with fail;refine cH 9 ?_;refine cI (G) (.range 8) 1 8 ?_;refine dC (B) (.range 8) 0 ?_;refine lI ?_;clear M N L E F;refine cI (λ_=>True) [8] 0 1 ?_;refine kx 8 λK z=>?_;go_simp;refine(an.o _ (C.o _ B)).mono ?_;rintro e X ⟨⟨Y,rfl⟩,D⟩;refine z _ _ (trivial) ?_;clear z K;obtain⟨d,u⟩:=(C.out _ B).fe D;clear D B C an;have an:=af (λW (n:gL (bC b s d++ay.out o v sd m cs :: ay.cR (aq (some (ad r 0 ab)) l.length cap) l :: R) bM (ca.mk bL cn dB pl) W)=>by
     obtain⟨bQ,hm⟩:=Bb n.sep;exact Qw hm cn.k)
    obtain⟨G,a⟩:∃ G:ai->ak,∀ W,G W↔gL (bC b s d++ay.out o v sd m cs :: ay.cR (aq (some (ad r 0 ab)) l.length cap) l :: R) bM (ca.mk bL cn dB pl) W:=⟨_,λ_=>Iff.rfl⟩;have M:∀ t:bp G,t.to.cell? (ad b.p 3 ab)=some (.pointer (some (ad b.fe 0 ab))):=λt=>vN ((a _).1 t.held).sep;have N:∀ t:bp G,t.to.cell? (ad b.p 4 ab)=some (.pointer (some (ad b.dU 0 ab))):=λt=>tG ((a _).1 t.held).sep;have L:=λx:bp G=>aS (((a _).1 x.held).box);have E:∀ W,(∃ t:bp G,W=t.to)->(Instr.loadAt 45 (.pointer (some (ad bM 1 ab)))).run prog W=.ok (.agg (dT cn)) W:=λW ⟨t,aO⟩=>by
     exact xa
    have B:=(a _).2 (u.keep (ba X).drew);have C:=af (λW (n:G W)=>(a W).1 n);have F:=af (λW n=>(a W).2 n);clear a;clear u;go_wp2_with fail;refine cH 9 ?_;refine cI (G) (.range 8) 1 8 ?_;refine dC (B) (.range 8) 0 ?_;refine lI ?_;clear M N L E F;refine cI (λ_=>True) [8] 0 1 ?_;refine kx 8 λK z=>?_;go_simp;refine(an.o _ (C.o _ B)).mono ?_;rintro e X ⟨⟨Y,rfl⟩,D⟩;refine z _ _ (trivial) ?_;clear z K;obtain⟨d,u⟩:=(C.out _ B).dU D;exact Ml
   go_meet;exact⟨_,_,u.sep⟩
  have gf:=af hcut;clear hcut ZG V dw Z u;go_wp2_with fail;go_roundg rest.length
  case measure=>omega
  exact⟨pre++[(ca.mk bL cn dB pl)],rest,h2.out.1,rfl,qx,gf.o⟩
end
section
open Go.Maps
variable{eC:Old}{w w':ai}{b:ga}{s:bJ}{R:ah ay}{d:gq}{q:cl}{o:J}{sd:ax}{m:aY}
def oL(_:ai):ak:=True
def ma(w:ai):oL w:=trivial
def j3.same{s s':bJ}(h:j3 s)(e:s'.x=s.x):j3 s':=by
 unfold j3;rw[e];exact h
def Br(i:ay.kinds eC∈R)(h:fo w b q o sd m R)(ar:j3 q.1)(k:hs q.1.ld.bf)(u:q.2.length<=90000)(r:aa):aA 63 #[b.p,o,I r] w λe w'=>e=aV #[]/\fo w' b (fT r q) o sd m R:=by
 have⟨s,cs⟩:=q;have⟨d,v,H⟩:=h;have fa:=pR H;unfold fT;by_cases aJ:s.b1=true
 .rw[aJ]at fa;rw[aD aJ]
  go_in
  go_wp2_with fail;refine cU (v:=aV #[]) (by simp[results,results63]) rfl ?_;exact⟨rfl,d,v,H⟩
 have aJ:s.b1=false:=by simpa using aJ
 rw[aJ]at fa;rw[az (by simp[aJ])];have z:=x9 H 9;have y:=x9 H 10;have qH:=G9 H
 have h2:Sep ((w.setCell (ad b.p 9 ab) (.bool true)).setCell (ad b.p 10 ab) (I r)) (bC b {s with b1:=true,reason:=r} d++ay.out o v sd m cs :: R):=
  x8 (s:={s with b1:=true}) (s':={s with b1:=true,reason:=r}) (n:=d.mw) (x8 (s':={s with b1:=true}) (n:=d.mw) H 9 (.bool true) rfl rfl rfl rfl rfl rfl) 10 (I r) rfl rfl rfl rfl rfl rfl
 have x:=tF h2;have a:=b6 h2 (bB ar (bB k u))
 go_in
 go_wp2_with fail;refine((SY (o1 h2))).mono ?_;rintro e aC ⟨vl,rfl,c,j,t⟩;have B:(kp s.ld).length<=256:=by
  have:=(o1 a.out.1).cp
  unfold kp;split
  .simp
  rw[gV];exact this
 have g:=af (Bp i (q:=({s with b1:=true,reason:=r,ld:=gO s.ld},cs)) (l:=kp s.ld) (vl:=vl) (b:=b) (o:=o) (sd:=sd) (m:=m) (R:=R) ⟨_,v,(Bg a.out.1 j c t).q1⟩ (a.out.2.1.same rfl) (R7 a.out.2.2.1) (by show cs.length+_<=_;have:=a.out.2.2.2;omega));obtain⟨A,cap,rfl,_,_⟩:=cS c;go_wp2_with fail;refine aU g.o λbm f=>?_;go_wp2_with fail;go_end0;exact⟨rfl,f⟩
def Bq(f:ay.kinds eC∈R)(h:fo w b q o sd m R)(ar:j3 q.1)(g:hs q.1.ld.bf)(i:q.2.length<=90000):aA 94 #[b.p,o] w λe w'=>e=aV #[]/\fo w' b (eX q) o sd m R:=by
 have a:=h;have⟨d,v,H⟩:=h;have bY:=o0 H;have an:=af (Io (mR H));unfold eX;by_cases aZ:q.1.aE.state=2
 .rw[aD aZ];rw[aZ]at an
  go_in
  go_wp2_with fail;refine bA an.o ?_;go_wp2_with fail;refine aU (Br f a ar g i 12) λbm c=>?_;go_wp2_with fail;go_end0;exact⟨rfl,c⟩
 rw[az aZ];generalize q.1.aE.state=z at *
 go_in
 go_wp2_with fail;refine bA an.o ?_;go_wp2_with fail;go_end0;exact⟨rfl,a⟩
structure qD(L:ah ay)(bM:J)(f:aa)(v:ax)(xs:ah aB)(W:ai):ak where
 sep:Sep W L
 bM:W.heap[bM]?=some (ae #[I f,v] 271 (0,0))
 row:∃ base,W.ownsRow base 45 9 v xs.length (bX xs)
theorem qD.keep{L:ah ay}{bM:J}{f:aa}{v:ax}{xs:ah aB}(h:qD L bM f v xs w)(hk:Keeps aI w w'):qD L bM f v xs w':=by
 have⟨base,a⟩:=h.row;exact⟨h.sep.keep hk,hk.heap h.bM id,base,b4 a hk (λ_ _=>id)⟩
def HC(c:ay.kinds eC∈R)(h:fo w b q o sd m R){n:J}{base:J}{v:ax}{xs:ah aB}(aW:w.ownsRow base 45 9 v xs.length (bX xs))(au:eL n xs)(now:aa)(y:(n:aa)<=now/\now<=1000000)(aJ:q.1.ld.hd=false)(al:q.1.ld.aN<n)(ar:j3 q.1)(u:hs q.1.ld.bf)(L:q.2.length<=50000):aA 139 #[b.p,o,aQ #[I (n:aa),v],I now] w λe w'=>e=aV #[]/\fo w' b (ib now q (n,xs)) o sd m R:=by
 obtain⟨s,cs⟩:=q;obtain⟨d,cw,H⟩:=h;dsimp only at *;obtain⟨a,i⟩:=cO (bC b s d++ay.out o cw sd m cs :: R);have k:=(ba w).alloc (ae #[I (n:aa),v] 271);have B:qD a w.heap.size n v xs (w.alloc (ae #[I (n:aa),v] 271)):=⟨by rw[i];exact H.keep k,aX w _,base,b4 aW k (λ_ _=>id)⟩;obtain⟨A,cap,rfl,_,_⟩:=cS aW;have j:∀ W,Sep W a->Sep W (bC b s d++ay.out o cw sd m cs :: R):=λW h=>i▸h;have O:∀ x:bp (qD a w.heap.size n (aq A xs.length cap) xs),x.to.cell? (ad b.p 2 ab)=some (.pointer (some (ad b.lb 0 ab))):=λx=>tF (j _ x.held.sep);have P:=λx:bp (qD a w.heap.size n (aq A xs.length cap) xs)=>aS x.held.bM;have C:=af (λ(W:ai) (t:qD a w.heap.size n (aq A xs.length cap) xs W)=>by
  obtain⟨base,M⟩:=t.row;have h1:=j _ t.sep;exact S0 (o1 h1) aJ M au U y al)
 have E:(kC s.ld n xs now).length<=320:=by
  have h1:=(o1 H).cp;have h2:=au.2.1;have r:=CH s.ld.most now (hM s.ld.bf (gg xs (fX s.ld.bf n))) xs;have N:(iE xs (fX s.ld.bf n)).length<=s.ld.bf.length:=by
   exact NX
  unfold kC;rw[cx];omega
 have f:=b6 ar (bB (X7 u au U y) (show cs.length+(kC s.ld n xs now).length<=100000 by omega));clear H aW au aJ al ar u L k i E
 go_in
 go_wp2_with fail;have g:=B.keep (ba _).drew;refine cH 13 ?_;refine cI (qD a w.heap.size n (aq A xs.length cap) xs) (.range 7) 6 7 ?_;refine dC (g) (.range 7) 0 ?_;refine lI ?_;refine cI (oL) [7,8,9,10,11,12] 0 6 ?_;refine ew 7 λK c=>?_;go_simp;refine(C.o _ g).mono ?_;rintro e ao ⟨vl,jD,rfl,G,D,F⟩;refine c _ _ (ma _) ?_;clear c K;refine dC (ma ao) [8,9,10,11,12] 0 ?_;refine n5 ?_;have z:=af (Bp c (q:=({s with ld:=ns s.ld n xs},cs)) (l:=kC s.ld n xs now) (vl:=vl) (b:=b) (o:=o) (sd:=sd) (m:=m) (R:=R) ⟨_,cw,(Bg (j _ g.sep) D G F).q1⟩ (f.out.1.same rfl) f.out.2.1 (by show cs.length+_<=_;have:=f.out.2.2;omega));go_wp2_with fail;refine aU z.o λbm r=>?_;go_wp2_with fail;go_end0;exact⟨rfl,r⟩
end
section
open Go.Maps
variable{eC:Old}{w w':ai}{b:ga}{s:bJ}{R:ah ay}{d:gq}{q:cl}{o:J}{sd:ax}{m:aY}
def QJ(M:ah (aa×aa))(f:aa):h6 (mz M) f=(lD M f).map λv=>aP v:=by
 unfold h6 lD mz;rw[find?_map,D0,D0];rfl
def Gt(M:ah (aa×aa))(f:aa):kX (mz M) f=mz (ly M f):=by
 unfold kX ly mz;rw[rv];rfl
def UU(M:ah (aa×aa))(f v:aa):lR (mz M) f (aP v)=mz (q4 M f v):=by
 unfold lR q4;rw[Gt];unfold mz;rw[jy];rfl
def Gp(M:ah (aa×aa))(f:aa):∀ p∈ly M f,p∈M:=λ_ au=>(eR.1 au).1
def Wi(w:ai):(zeroValue 22).run prog w=.ok (aP 0) w:=aH
namespace IsSm
variable{B:J}{M:ah (aa×aa)}
def fQ(h:IsSm w B M):M.length<=2147483648:=by
 have:=A0 2147483648 ((mz M).map Prod.fst) (sS.2 h.1.pN) λx b=>by
  obtain⟨p,au,rfl⟩:=e3.1 b;obtain⟨c,a,rfl⟩:=e3.1 au
  have:=h.2 c a
  simp only;omega
 simpa[mz]using this
theorem ok{f:aa}(a:-4294967296<=f/\f<4294967296):r4.ok f:=wf_i64 U
theorem look(h:IsSm w B M)(f:aa)(a:0<=f/\f<2147483648):(Instr.lookup 110 (.map (some B)) (I f) true).run prog w=.ok (aV #[aP ((lD M f).getD 0),.bool (lD M f).isSome]) w:=by
 have:=h.1.look tN (x:=f) (ok U) underlying110 Wi
 rw[QJ]at this;refine this.trans ?_;cases lD M f<;>rfl
def put(h:IsSm w B M)(f v:aa)(b:0<=f/\f<2147483648):∃ w',(Instr.mapUpdate 110 (.map (some B)) (I f) (aP v)).run prog w=.ok () w'/\IsSm w' B (q4 M f v)/\Keeps (λj=>j=B) w w':=by
 have c:=h.fQ;obtain⟨aC,h1,h2,a⟩:=h.1.store tN (x:=f) (ok U) underlying110 (by unfold mz;rw[gV];unfold maxLen;omega) (aP v);rw[UU]at h2;refine⟨aC,h1,⟨h2,λp au=>?_⟩,a⟩;rcases e5.1 au with au|au
 .exact h.2 p (Gp _ _ p au)
 rw[fL.1 au];exact b
def del(h:IsSm w B M)(f:aa)(b:-4294967296<=f/\f<4294967296)(ty:TypeId):∃ w',(Builtin.delete_ #[110,3] ty #[.map (some B),I f]).run prog w=.ok (aV #[]) w'/\IsSm w' B (ly M f)/\Keeps (λj=>j=B) w w':=by
 have⟨aC,h1,h2,a⟩:=h.1.drop tN (x:=f) (ok U) underlying110 ty;rw[Gt]at h2;exact⟨aC,h1,⟨h2,λp au=>h.2 p (Gp _ _ p au)⟩,a⟩
theorem len(h:IsSm w B M)(ty:TypeId):(Builtin.len_ #[110] ty #[.map (some B)]).run prog w=.ok (I M.length) w:=by
 have:=h.1.len underlying110 ty
 unfold mz at this
 rwa [gV]at this
end IsSm
def HA(B:ay.kinds eC∈R)(h:fo w b q o sd m R)(ar:j3 q.1)(D:hs q.1.ld.bf)(E:q.2.length<=90000)(f v:aa)(l:0<=f/\f<2147483648):aA 104 #[b.p,o,I f,aP v] w λe w'=>e=aV #[]/\fo w' b (hB f v q) o sd m R:=by
 have⟨s,cs⟩:=q;have k:=h;have⟨d,cw,H⟩:=h;have eb:=A' H;have a:=(Bf H).look f l;unfold hB;dsimp only at *;cases n:lD s.own f with
 | some u=>
  rw[n]at a;simp only[hX,pv]at a;dsimp only;by_cases i:u=v
  .subst i;rw[aD rfl];have j:=af k;have hd:=ee (rfl:u=u)
   go_in
   go_wp2_with refine ow a rfl rfl rfl rfl ?_
   refine cU (v:=aV #[]) (by simp[results,results104]) rfl ?_;exact⟨rfl,j.o⟩
  rw[az i];have A:=af (Br B k ar D E 13);have z:=eu.2 i;have K:=D1.2 i;have L:decide (u=v)=false:=dd i
  go_in
  go_wp2_with refine ow a rfl rfl rfl rfl ?_
  refine aU A.o λaC h2=>?_;go_wp2_with fail;refine cU (v:=aV #[]) (by simp[results,results104]) rfl ?_;exact⟨rfl,h2⟩
 | none=>
  rw[n]at a;simp only[pt,oI]at a;dsimp only;have c5:=Ba H;have bo:=tF H;have g:=(vO H).look f l;have aT:=af (yv (o1 H));have t:=(vO H).len 3;have M:=(o1 H).cW;have⟨N,G,F,C⟩:=(vO H).put f v l;have y:=af (He (s:=s) H F C);have j:=af k;have z:IntKind.i64.wrap (s.ld.aN+1)=s.ld.aN+1:=ev _ U;generalize s.ld.aN=cW at *;by_cases h1:cW+1<f
  .have d1:decide (cW+1<f)=true:=ee h1;have x:decide (f>cW+1)=true:=ee h1;cases r:lD s.wt f with
   | some u=>
    rw[r]at g;simp only[hX,pv]at g;rw[az (λc=>by simp at c)]
    go_in
    exact Nn
   | none=>
    rw[r]at g;simp only[pt,oI]at g;by_cases h2:s.wt.length<8
    .have d2:decide ((s.wt.length:aa)<8)=true:=ee U;rw[aD ⟨h1,rfl,h2⟩]
     go_in
     go_wp2_with first|refine ow a rfl rfl rfl rfl ?_|refine ow g rfl rfl rfl rfl ?_
     refine bA aT.out ?_;go_wp2_with first|refine Ld t rfl rfl rfl ?_|refine Le G rfl rfl rfl rfl rfl ?_
     go_end0;exact⟨rfl,_,_,y.out⟩
    have d2:decide ((s.wt.length:aa)<8)=false:=dd U;rw[az (λc=>h2 c.2.2)]
    go_in
    go_wp2_with first|refine ow a rfl rfl rfl rfl ?_|refine ow g rfl rfl rfl rfl ?_
    refine bA aT.out ?_;go_wp2_with refine Ld t rfl rfl rfl ?_
    go_end0;exact⟨rfl,j.out⟩
  have d1:decide (cW+1<f)=false:=dd h1;have x:decide (f>cW+1)=false:=dd h1;rw[az (λc=>h1 c.1)]
  go_in
  exact Nn
end
section
open Go.Maps
variable{eC:Old}{w w':ai}{b:ga}{s:bJ}{R:ah ay}{d:gq}{q:cl}{o:J}{sd:ax}{m:aY}
structure vu(x:ck)(f:J):ak where
 L:gQ x.L (f:aa)=some (gU x f)
 wf:tk (gU x f)
 rt:k' (gU x f)=true
 len:(mr (gU x f)).length<=100000
 top:f<=1000000
def RL(Z:ay.kinds eC∈R)(h:fo w b q o sd m R)(ar:j3 q.1)(A:hs q.1.ld.bf)(C:q.2.length<=90000)(f:J)(c:vu q.1.x f):aA 148 #[b.p,o,I (f:aa)] w λe w'=>e=aV #[]/\fo w' b (iM f q) o sd m R:=by
 obtain⟨s,cs⟩:=q;obtain⟨d,cw,H⟩:=h;dsimp only at *;have bt:=lE H;have an:=af (Px (hz H) f (by have:=c.top;omega) _ c.L c.wf c.rt c.len);have g':f<=1000000:=c.top;have gf:IntKind.i64.wrap ((f:aa)-128)=(f:aa)-128:=ev _ U;obtain⟨iw,n⟩:∃ iw,iw=iQ (gU s.x f):=⟨_,rfl⟩;have D:sc s f={s with own:=ly (q4 s.own f iw) ((f:aa)-128),aE:=lT s.aE f iw}:=by rw[n];rfl
 have j:=af (bB ar (bB A C));have r:=af H;obtain⟨k,l⟩:∃ k,k=lD s.wt f:=⟨_,rfl⟩;unfold iM;dsimp only;rw[D,<-l];have T:=af l;rw[<-n]at an;clear H ar A C c D n l
 go_in
 go_wp2_with fail;refine an.o.mono ?_;rintro e ao ⟨rfl,M⟩;have h1:=r.out.keep M;have eb:=A' h1;obtain⟨aC,K,E,N⟩:=(Bf h1).put f iw U;have h2:=Hd h1 E N;have W:=A' h2;obtain⟨bm,z,F,O⟩:=(Bf h2).del ((f:aa)-128) U 0;have i:=Hd h2 F O;have V:=o0 i;have y:=af (Tc (mR i) f iw);have t:=af i;clear h1 h2 i M N O E F r an;go_wp2_with first|refine Le K rfl rfl rfl rfl rfl ?_|refine De z rfl rfl rfl rfl ?_
 refine y.o.mono ?_;rintro e hd ⟨rfl,B,P⟩;have a:=x' t.out B P;have c5:=Ba a;have g:=(vO a).look f U;clear B P t y K z bt eb W V;rw[<-T.out]at g;cases k with
 | none=>
  simp only[pt,oI]at g;have S:=af a;clear a;go_wp2_with refine ow g rfl rfl rfl rfl ?_
  go_end0;exact⟨rfl,_,_,S.o⟩
 | some u=>
  simp only[hX,pv]at g;obtain⟨lb,a',G,Q⟩:=(vO a).del f U 0;have v:=He a G Q;have Y:=af (HA Z (q:=({s with own:=ly (q4 s.own f iw) ((f:aa)-128),aE:=lT s.aE f iw,wt:=ly s.wt f},cs)) ⟨_,_,v⟩ (j.out.1.same rfl) j.out.2.1 j.out.2.2 f u U);have fr:=Ba a;clear a v G Q;go_wp2_with first|refine ow g rfl rfl rfl rfl ?_|refine De a' rfl rfl rfl rfl ?_
  refine Y.o.mono ?_;rintro e l' ⟨rfl,X⟩;go_wp2_with fail;go_end0;exact⟨rfl,X⟩
end
section
open Go.Maps
variable{eC:Old}{w w':ai}{b:ga}{s:bJ}{R:ah ay}{d:gq}{q:cl}{o:J}{sd:ax}{m:aY}
def RM(j:ay.kinds eC∈R)(h:fo w b q o sd m R)(t:hv q.1.x q)(ar:j3 q.1)(Z:fJ q.1.x=none)(T':q.2.length<=10000)(fr:q.1.ld.aN<=900000/\cY q.1.x<=q.1.ld.aN+100)(an:∀ f:J,q.1.ld.aN+2<=f->(f:aa)<=cY q.1.x+1->vu q.1.x f):aA 89 #[b.p,o] w λe w'=>e=aV #[]/\fo w' b (jr q) o sd m R:=by
 have⟨x,gf⟩:=cO q.1.x;rw[<-gf]at t Z fr an;have E:=b6 h (bB t (bB ar gf));have L:=b6 Z (bB fr (bB an T'));clear h t ar Z fr an T' gf
 go_in
 go_wp2_with fail;go_loopg [4,5,6] (cY x-q.1.ld.aN).toNat (λg l e n wr=>∃ (p:cl) (k:J),g=k/\eA k p=jr q/\fo wr b p o sd m R/\hv x p/\cY x<=p.1.ld.aN+k/\q.1.ld.aN<=p.1.ld.aN/\p.1.ld.aN+k<=990000/\p.2.length+320*k<=60000)
 case atStart=>
  have h1:=L.o.2.1;have h2:=L.o.2.2.2;have y:(cY x-q.1.ld.aN).toNat<=100:=U;refine⟨q,_,rfl,?_,E.o.1,E.o.2.1,U,jw _,?_,U⟩
  .unfold jr;rw[<-E.o.2.2.2]
  omega
 have⟨p,k,aZ,aO,ZN,t,hk,CW,Q',Tq⟩:=hrel;have⟨s,cs⟩:=p;dsimp only at *;have G:=t.x;have O:=t.aN;have zd:=E.o.2.2.1.same (G.trans E.o.2.2.2);have⟨d,cw,H⟩:=ZN;have⟨a,X⟩:=cO (bC b s d++ay.out o cw sd m cs :: R);have C:∀ W,Sep W a->Sep W (bC b s d++ay.out o cw sd m cs :: R):=λW h=>X▸h;have r:Sep wr.drew a:=by rw[X];exact H.drew 1
 have P:∀ x:bp (λW=>Sep W a),x.to.cell? (ad b.p 9 ab)=some (.bool s.b1):=λx=>pR (C _ x.held);have g':∀ x:bp (λW=>Sep W a),x.to.cell? (ad b.p 2 ab)=some (.pointer (some (ad b.lb 0 ab))):=λx=>tF (C _ x.held);have l':∀ x:bp (λW=>Sep W a),x.to.cell? (ad b.p 0 ab)=some (.pointer (some (ad b.c.c 0 ab))):=λx=>lE (C _ x.held);have aT:=af (λ(W:ai) (F:Sep W a)=>yv (o1 (C _ F)));have an:=af (λ(W:ai) (F:Sep W a)=>xO (hz (C _ F)) (by rw[G];exact L.o.1));have V':cY s.x=cY x:=by rw[G]
 rw[V']at an;have i:=b6 t (bB zd (bB aO (bB hk (bB CW (bB Q' Tq)))));have S:=af G;have M:=af C;clear t zd aO hk CW Q' Tq X H G V' C;go_wp2_with fail;cases aJ:s.b1 with
 | true=>
  rw[aJ]at P;have hfin:=show eA k (s,cs)=(s,cs)by cases k with|zero=>rfl|succ k=>unfold eA;rw[aD (.inl aJ)]
  have Q:=af (show fo wr.drew b (jr q) o sd m R by rw[<-i.out.2.2.1,hfin];exact⟨d,cw,M.out _ r⟩);clear aJ aT an g' l' hfin;refine cH 20 ?_;have hne:Nonempty (bp ((λW=>Sep W a))):=⟨⟨_,r⟩⟩;refine uz ((λW=>Sep W a)) (r) [0,1,2,3,4,5,6,7,8,9,10,12,13,14,15,16] [11,17] 2 rfl #[true,true,true,true,true,true,true,true,true,true,true,true,true,true,true,true,true,true,false,false] aH aH (λ_ _ _ d _ h=>sZ) ?_;simp only[eG,jz,lo,hf]
  repeat (go_big_quiet_step (fail))
  refine wpQuiet_nil ?_;refine Ik u_ ?_;refine Ik u_ ?_;refine hP ?_;simp only[Act.put,c7];have hne:Nonempty (bp ((λW=>Sep W a))):=⟨⟨_,r⟩⟩;refine uz ((λW=>Sep W a)) (r) [18,19] [] 0 rfl #[true,true,true,true,true,true,true,true,true,true,true,true,true,true,true,true,true,true,true,true] aH aH (λ_ _ _ d _ h=>sZ) ?_;simp only[eG,jz,lo,hf]
  repeat (go_big_quiet_step (fail))
  refine wpQuiet_nil ?_;refine hP ?_;refine iu ?_;clear r P;go_wp2_with fail;go_end0;exact⟨rfl,Q.o⟩
 | false=>
  rw[aJ]at P;have ps:=af aJ;clear aJ;refine cH 20 ?_;have hne:Nonempty (bp ((λW=>Sep W a))):=⟨⟨_,r⟩⟩;refine uz ((λW=>Sep W a)) (r) [0,1,2,3,4,5,6,7,8,9,10,12,13,14,15,16] [11,17] 2 rfl #[true,true,true,true,true,true,true,true,true,true,true,true,true,true,true,true,true,true,false,false] aH aH (λ_ _ _ d _ h=>sZ) ?_;simp only[eG,jz,lo,hf]
  repeat (go_big_quiet_step (fail))
  refine wpQuiet_nil ?_;refine gi λK j=>?_;go_simp;refine bA (aT.out _ r) ?_;refine j _ _ (jN (r)) ?_;clear j K;refine kv λK j=>?_;go_simp;refine aU (an.out _ r) λao ZI=>?_;have z:=r.keep ZI;refine j _ _ (jN (z)) ?_;clear j K;have hne:Nonempty (bp ((λW=>Sep W a))):=⟨⟨_,z⟩⟩;refine uz ((λW=>Sep W a)) (z) [18,19] [] 0 rfl #[true,true,true,true,true,true,true,true,true,true,true,true,true,true,true,true,true,true,true,true] aH aH (λ_ _ _ d _ h=>sZ) ?_;simp only[eG,jz,lo,hf]
  repeat (go_big_quiet_step (fail))
  refine wpQuiet_nil ?_;refine hP ?_;refine iu ?_;clear r ZI P;by_cases D:s.ld.aN<cY x;rotate_left
  .have hfin:=show eA k (s,cs)=(s,cs)by cases k with|zero=>rfl|succ k=>unfold eA;rw[aD (.inr (by show cY s.x<=s.ld.aN;rw[S.out];omega))]
   have Q:=af (show fo ao b (jr q) o sd m R by rw[<-i.out.2.2.1,hfin];exact⟨d,cw,M.out _ z⟩);have ZO:=dd D;clear hfin z aT an g' l';go_wp2_with fail;go_end0;exact⟨rfl,Q.o⟩
  have ZO:=ee D;obtain⟨k,rfl⟩:∃ ZK,k=ZK+1:=⟨k-1,by have:=i.out.2.2.2.1;omega⟩;have W':eA (k+1) (s,cs)=eA k (eH (s,cs)):=by
   show(if s.b1=true\/cY s.x<=s.ld.aN then(s,cs)else eA k (eH (s,cs)))=_;rw[az (by rw[ps.o,S.out];simp;omega)]
  have ZG:=i.out.1.step;have ys:=i.out.1.hd.trans ps.o;have Y:=i.out.2.2.2.2.2.1;have B:Sep ao.drew a:=z.drew 1;have ZQ:IntKind.i64.wrap (s.ld.aN+1)=s.ld.aN+1:=ev _ U;have s':=af (λ(W:ai) (F:Sep W a)=>SX (o1 (M.out _ F)) ys (s.ld.aN+1) rfl U);have v:=b6 W' (bB ZG (bB Y O));clear W' ZG ys z Y;go_wp2_with fail;refine cH 18 ?_;refine cI ((λW=>Sep W a)) (.range 12) 6 12 ?_;refine dC (B) (.range 10) 2 ?_;refine ew 10 λK j=>?_;go_simp;refine bA (aT.out _ B) ?_;refine j _ _ (B) ?_;clear j K;refine dC (B) [11] 0 ?_;refine lI ?_;refine cI (oL) [12,13,14,15,16,17] 0 6 ?_;refine ew 12 λK j=>?_;go_simp;refine(s'.o _ B).mono ?_;rintro e bm ⟨vl,jD,rfl,a',Aw,TS⟩;refine j _ _ (ma _) ?_;clear j K;refine dC (ma bm) [13,14,15,16,17] 0 ?_;refine n5 ?_;have St:(hL s.ld (s.ld.aN+1)).length<=64:=by
   have h1:=F5 s.ld.bf (s.ld.bW (s.ld.aN+1));have h2:(s.ld.bW (s.ld.aN+1)).length<=64:=(i.out.1.bW (s.ld.aN+1)).2;unfold hL;omega
  have v':=af (Bp j (q:=({s with ld:=jJ s.ld (s.ld.aN+1)},cs)) (l:=hL s.ld (s.ld.aN+1)) (vl:=vl) (b:=b) (o:=o) (sd:=sd) (m:=m) (R:=R) ⟨_,cw,(Bg (M.out _ B) Aw a' TS).q1⟩ (i.out.2.1.same rfl) (O_ (i.out.1.bW _).1) (by show cs.length+_<=_;have:=i.out.2.2.2.2.2.2;omega));obtain⟨A,cap,rfl,_,_⟩:=cS a';clear B Aw a' TS s' aT an g' l';go_wp2_with fail;refine aU v'.o λmv y=>?_;have m':=af y;obtain⟨d4,v4,y⟩:=y;have bo:=tF y;have r':Hid (aA 17 #[b.lb] mv λe w'=>e=.returned (I (s.ld.aN+1))/\mv=w'):=af (yv (o1 y));have O:=v.out.2.2.2;have Y:=v.out.2.2.1;have ZR:IntKind.i64.wrap (s.ld.aN+1+1)=s.ld.aN+2:=by rw[show s.ld.aN+1+1=s.ld.aN+2 by omega];exact ev _ U
  have N:Int.tmod (s.ld.aN+2) 16=(s.ld.aN+2)%16:=oA U;clear y v';by_cases u:(s.ld.aN+2)%16=0
  .have ZH:(((s.ld.aN+2).toNat:J):aa)=s.ld.aN+2:=U
   have zp:=af (RL j m'.o (i.out.2.1.same rfl) (i.out.1.bf.F4 _) (by show(cs++hL s.ld (s.ld.aN+1)).length<=_;rw[cx];have:=i.out.2.2.2.2.2.2;omega) (s.ld.aN+2).toNat (by
    show vu s.x _;rw[S.out];exact L.out.2.2.1 _ (by have:=i.out.2.2.2.2.1;omega) U))
   rw[ZH]at zp;have T:=af (show eH (s,cs)=iM (s.ld.aN+2).toNat ({s with ld:=jJ s.ld (s.ld.aN+1)},cs++hL s.ld (s.ld.aN+1))by unfold eH;dsimp only;rw[aD u]);have ZL:(Int.tmod (s.ld.aN+2) 16 == 0)=true:=by rw[N,u];rfl
   have ZM:((s.ld.aN+2)%16 == 0)=true:=by rw[u];rfl
   have ZP:=D;clear N u ZH St O D;go_wp2_with fail;refine bA r'.o ?_;go_wp2_with fail;refine aU zp.o λZS V=>?_;rw[<-T.o]at V;have ZJ:=af V;clear V;exact MO
  have T:=af (show eH (s,cs)=({s with ld:=jJ s.ld (s.ld.aN+1)},cs++hL s.ld (s.ld.aN+1))by unfold eH;dsimp only;rw[az u]);have ZL:(Int.tmod (s.ld.aN+2) 16 == 0)=false:=by rw[N];simpa using u
  have ZM:((s.ld.aN+2)%16 == 0)=false:=by simpa using u
  have ZP:=D;clear N u St O D;go_wp2_with fail;refine bA r'.o ?_;have ZJ:=af (show fo mv b (eH (s,cs)) o sd m R by rw[T.o];exact m'.o);exact MO
end
def Tt{c f r:aa}{v:J->aa}(h:Mid c f r v):∀ k,k<2->bj (v (4+10*k))/\bj (v (4+10*k+1)):=λk hk=>by
 have p:=h.pl (4+10*k) (by unfold ej;omega);have a:=p.x;have b:=p.y;unfold bj;simp only[rC]at a;omega
def b8.o9{s:bJ}{F:J}{a_ us:J->J->aa}(h:b8 s F a_ us):j3 s:=by
 have⟨r,hm,_⟩:=sh us h.aG s.x.now;exact⟨_,h.hy.st h.jk.1 bs,Tt hm⟩
def b8.XT{s:bJ}{F:J}{a_ us:J->J->aa}(h:b8 s F a_ us)(b:s.x.now<=1000000)(f:J)(h1:F<=f)(h2:f<=s.x.now):vu s.x f:=by
 have⟨r,hm,a⟩:=sh us h.aG f;have e:=h.hy.gU h1 h2;have⟨s1,s2,gS⟩:=hm.XX U a;exact⟨by rw[e];exact h.hy.st h1 h2,by rw[e];exact s1,by rw[e];exact s2,by rw[e];exact gS,U⟩
structure oR(s:bJ)(k:J)(p:cl):ak where
 rest:p.1={s with ld:=p.1.ld}
 aN:p.1.ld.aN=s.ld.aN
 hd:p.1.ld.hd=s.ld.hd
 dL:en p.1.ld.bf
 bf:hs p.1.ld.bf
 k5:(p.1.ld.bf.length:aa)<=p.1.ld.most/\p.1.ld.most<=256
 len:p.2.length<=320*k
def KF{s:cD}(h:s.bf.length<=256){fr now:aa}{xs:ah aB}(c:xs.length<=64):(kC s fr xs now).length<=320:=by
 have a:=CH s.most now (hM s.bf (gg xs (fX s.bf fr))) xs;have b:(iE xs (fX s.bf fr)).length<=s.bf.length:=by
  exact NX
 unfold kC;rw[cx];omega
def oR.step{s:bJ}{k:J}{p:cl}(h:oR s k p){n:J}{xs:ah aB}(a:eL n xs)(now:aa):oR s (k+1) (ib now p (n,xs)):=by
 have c:=h.k5;have h1:=KF (s:=p.1.ld) (fr:=n) (now:=now) U a.2.1;refine⟨cV (λq:bJ=>{q with ld:=ns p.1.ld n xs}) h.rest,h.aN,h.hd,?_,h.bf.tell (λe b=>(a.2.2 e b).1) h.dL,⟨?_,c.2⟩,?_⟩
 .exact(wE (most:=p.1.ld.most) (now:=0) (tv h.dL _) xs).1
 .have hd:=(qP p.1.ld.bf (gg xs (fX p.1.ld.bf (n:aa)))).length_le;exact Kt (tv h.dL _) (show(((hM p.1.ld.bf (gg xs (fX p.1.ld.bf (n:aa)))).length:J):aa)<=p.1.ld.most by omega) xs
 have:=h.len
 show(p.2++kC p.1.ld n xs now).length<=_;rw[cx];omega
section
open Go.Maps
variable{w w':ai}{b:ga}{s:bJ}{R A:ah ay}{d:gq}{q:cl}{o:J}{sd:ax}{m:aY}{F:J}{a_ us:J->J->aa}
def N9(w:ai)(v:ax)(ps:ah fp):ak:=w.ownsRow 0 271 2 v ps.length (rowP ps)/\∀ p∈ps,w.ownsRow 0 45 9 p.cC p.xs.length (bX p.xs)
def ay.k8(v:ax)(ps:ah fp):ay where
 S j:=v.ownBlock=some j\/∃ p∈ps,p.cC.ownBlock=some j
 P w:=N9 w v ps
 lt h a:=by
  rcases a with a|⟨p,au,a⟩
  .exact o' h.1 a
  .exact o' (h.2 p au) a
 frame h hk av:=⟨b4 h.1 hk λj a=>av j (.inl a),λp au=>b4 (h.2 p au) hk λj a=>av j (.inr ⟨p,au,a⟩)⟩
structure Oc(s:bJ)(dW:ck)(ps:ah fp):ak where
 now:dW.now=s.x.now
 eq:cM s=(ps.map fp.key).foldl (ib s.x.now) ({s with x:=dW},[])
 ok:∀ p∈ps,eL p.n p.xs/\s.ld.aN<p.n/\p.n<=s.x.now
 fQ:ps.length<=64
def RH(h:Sep w (bC b s d++A))(au:b8 s F a_ us)(B:s.x.now<=100000):aA 138 #[b.c.c] w λe w'=>∃ dW ps i cap,e=aV #[aq i ps.length cap,I 0]/\Oc s dW ps/\Sep w' (ay.k8 (aq i ps.length cap) ps :: (bC b {s with x:=dW} d++A)):=by
 cases hw:fJ s.x with
 | none=>
  refine aU (Pu (hz h) hw) λao r=>?_;refine⟨s.x,[],none,0,rfl,⟨rfl,by unfold cM;rw[hw];rfl,λp au=>(by cases au),aK⟩,?_⟩;have ar:(ay.k8 (aq none 0 0) []).P ao:=⟨gI _ _ _ _,λp au=>by cases au⟩;exact(h.keep r).cons (ba ao) (λ_ _ _ _=>id) ar (λj a=>by rcases a with a|⟨p,au,_⟩;cases a;cases au)
 | some g=>
  have⟨g1,D,E,G,v⟩:=au.hy.zo au.aL au.jk.1 hw;have L:s.ld.aN<g:=by
   rcases Int.lt_or_le s.ld.aN g with c|c
   .exact c
   exact absurd (au.sC g (.inr c)) v
  have H:=au.jk;have K:=au.lB;obtain⟨_,_,_,_,u,_⟩:=se s.x g (s.x.now-g);refine(Pt (hz h) hw U (λk hk=>O1 au.hy au.aG au.er g1 U B k hk) U).mono ?_;rintro e ao ⟨ps,i,cap,rfl,m,l,o,al,r⟩;have M:ps.length=s.x.now-g:=by rw[<-gV (f:=fp.key),l];unfold mu;simp
  refine⟨_,ps,i,cap,rfl,⟨u,?_,λp z=>?_,U⟩,?_⟩
  .unfold cM;rw[hw,l]
  .have hm:p.key∈mu s.x g (s.x.now-g):=by rw[<-l];exact e3.2 ⟨p,z,rfl⟩
   have⟨j,a,t⟩:=e3.1 hm;have a:=po.1 a;have ar:p.n=g+j:=(cV Prod.fst t).symm;have C:p.xs=eM (ju s.x a_ us g s.x.now) s.x.aG (g+j):=by rw[<-yI au.hy g1 U j U];exact(cV Prod.snd t).symm
   exact⟨by rw[ar,C];exact nX _ au.aG _,U,U⟩
  exact h.y5 1 (r':=ay.core b.c (replay s.x g (s.x.now-g))) (q:=ay.k8 (aq i ps.length cap) ps) rfl r (λ_ _ h=>h) al (λ_ h=>.inl h) ⟨kB m (c' _),λp au=>kB (o p au) (c' _)⟩ (λj a=>by
   rcases a with a|⟨p,au,a⟩
   .exact(m.lt j a).1
   .exact((o p au).lt j a).1) (λj a y=>by
   have h1:=(hz h).lt y;rcases a with a|⟨p,au,a⟩
   .have:=(m.lt j a).1;omega
   .have:=((o p au).lt j a).1;omega)
end
section
open Go.Maps
variable{eC:Old}{w w':ai}{b:ga}{s:bJ}{R:ah ay}{o:J}{sd:ax}{m:aY}{F:J}{a_ us:J->J->aa}
def mC(s:bJ)(dW:ck)(now:aa)(ps:ah fp):cl:=(ps.map fp.key).foldl (ib now) ({s with x:=dW},[])
def X8(s:bJ)(dW:ck)(now:aa)(ps:ah fp)(p:fp):mC s dW now (ps++[p])=ib now (mC s dW now ps) (p.n,p.xs):=by
 unfold mC;rw[jy,w2,A4];rfl
def VT(w:ai):(Instr.alloc 271 true (aV #[])).run prog w=.ok w.heap.size (w.alloc (ae #[I 0,aq none 0 0] 271)):=aH
structure Fi(L:ah ay)(ue n:J)(cC:ax)(W:ai):ak where
 sep:Sep W L
 box:W.heap[ue]?=some (ae #[I (n:aa),cC] 271 (0,0))
def RK(a:ay.kinds eC∈R)(h:fo w b (s,[]) o sd m R)(au:b8 s F a_ us)(Z9:s.x.now<=100000)(aJ:s.ld.hd=false):aA 86 #[b.p,o] w λe w'=>e=aV #[]/\fo w' b (cM s) o sd m R:=by
 have⟨d,cw,H⟩:=h;have⟨v,ZW,aW⟩:=au.o9;have ZY:=af (Bs H v ZW);have ZO:=af H;have M:=b6 au (bB Z9 (bB aW aJ));have a:=af a;clear H ZW aW au Z9 aJ
 go_in
 go_wp2_with fail;refine aU ZY.o λao aab=>?_;go_wp2_with fail;refine(KN v M.o.2.2.1 _).mono ?_;rintro e aC ⟨⟨c,rfl,W',Z6,Z7⟩,Z3⟩;have ZP:=ZO.out.keep (aab.fI Z3);have l':=Cn aC;have O:=aX aC (ae jB 264);obtain⟨y,_,Z⟩:=dP (aC.alloc (ae jB 264)) 264 26 aC.heap.size c _ sizeOf264 W' rfl O (fg.2 Z6);have ZJ:=fl (aC.alloc (ae jB 264)) aC.heap.size _ c 264 O;have ZM:=cL ((ba aC).alloc (ae jB 264)) Z a7;generalize (aC.alloc (ae jB 264)).setRow aC.heap.size c=bm at y ZJ ZM;generalize aC.alloc (ae jB 264)=aaA at l' y;obtain⟨dH,ZK⟩:=cO aC.heap.size;have zp:=(ZP.cons (r:=ay.bc dH (c,264)) ZM (λ_ _ _ _=>id) (ZK▸ZJ) (λj z=>by have z:j=dH:=z;omega)).q1;rw[<-ZK]at l' y;have bt:=lE zp;have Z0:=af (RH zp M.out.1 M.out.2.1);have Aw:=b6 W' Z7;clear ZP zp O Z ZJ ZM ZK ZY ZO aab Z3 W' Z6 Z7;go_wp2_with first|refine d_ l' rfl rfl ?_|refine c8 y rfl rfl rfl rfl ?_
 clear l' y;refine Z0.o.mono ?_;rintro e v' ⟨dW,ps,zd,cap,rfl,r',gf⟩;have gf:=gf.q1;have Q:=M.out.1;have Z1:oR {s with x:=dW} 0 (mC s dW s.x.now []):=⟨rfl,rfl,rfl,Q.dL,Q.pZ,⟨Q.k5,Q.most.2⟩,by show([]:ah ca).length<=_;simp⟩;have Z2:∀ (L:ah fp) (k:J) (Y:cl),Y.1.x=dW->((L.map fp.key).foldl (ib s.x.now) Y).1.x=dW:=by
  intro L
  induction L with
  | nil=>intro k Y h;exact h
  | cons p L aan=>intro k Y h;exact aan k _ h
 obtain⟨cr,ZN,_⟩:=q5 Q;have aaa:(cM s).1.x=dW:=by rw[r'.eq];exact Z2 ps 0 _ rfl
 have g':=b6 (ZN.o9.same (s':={s with x:=dW}) aaa.symm) (bB Aw.out.1 Aw.out.2);have V:=b6 r' (bB Q.aN (bB M.out.2.2.2 (bB M.out.2.1 r'.fQ)));have ys:=af (bB gf Z1);clear Z0 gf r' Q Z1 Z2 ZN aaa M Aw bt;simp only;go_wp2_with fail;go_loopg [23] ps.length (λg i wr=>∃ pre rest:ah fp,ps=pre++rest/\g=rest.length/\i=I pre.length/\oR {s with x:=dW} pre.length (mC s dW s.x.now pre)/\∃ d cw,Sep wr (bC b (mC s dW s.x.now pre).1 d++ay.out o cw sd m (mC s dW s.x.now pre).2 :: ay.k8 (aq zd ps.length cap) ps :: ay.bc dH (c,264) :: R))
 case atStart=>exact⟨[],ps,rfl,rfl,rfl,ys.o.2,d,cw,ys.o.1⟩
 obtain⟨pre,rest,T,aZ,rfl,l,d,cw,D⟩:=hrel;clear ys;cases rest with
 | nil=>
  obtain rfl:ps=pre:=by rw[T,e4]
  have aax:¬ (ps.length:aa)<(ps.length:aa):=U;clear T;by_cases aaw:0<ps.length
  .have aaj:=ee U;have aaf:=ee U;have Z8:(mC s dW s.x.now ps).1.x=dW:=by rw[l.rest]
   have aai:=g'.out.1.same Z8;have⟨v9,St,Z_⟩:=aai;have⟨f,S⟩:=cO (mC s dW s.x.now ps);rw[<-S]at D St;have⟨B,N⟩:=cO (bC b f.1 d++ay.out o cw sd m f.2 :: ay.k8 (aq zd ps.length cap) ps :: ay.bc dH (c,264) :: R);have C:∀ W,Sep W B->Sep W (bC b f.1 d++ay.out o cw sd m f.2 :: ay.k8 (aq zd ps.length cap) ps :: ay.bc dH (c,264) :: R):=λW h=>N▸h;have E:Sep wr.drew B:=by rw[N];exact D.drew 1
   have aat:∀ t:bp (λW=>Sep W B),t.to.cell? (ad b.p 5 ab)=some (.pointer (some (ad b.dS 0 ab))):=λt=>G_ (C _ t.held);have fr:∀ W,(∃ t:bp (λW=>Sep W B),W=t.to)->(Instr.loadAt 264 dH).run prog W=.ok (.agg c) W:=λW ⟨t,aO⟩=>by
    rw[aO];have aj:=(C _ t.held).at' 11 rfl;exact gz (P:=prog) 264 26 dH 0 c c _ isAgg264 sizeOf264 g'.out.2.1 aj (λj u z=>jZ)
   have ZZ:=af (λ(W:ai) (T':Sep W B)=>Bs (C _ T') v9 St);have ZQ:=af C;have aah:=af Z_;have ZR:=b6 S g'.out.2.2;clear D Z8 St N C Z_ S l;go_wp2_with fail;refine cH 11 ?_;refine cI ((λW=>Sep W B)) (.range 10) 1 10 ?_;refine p0 (E) (.range 7) 3 λhne=>?_
   repeat (first|(refine ke fr rfl rfl rfl ?_;simp only[Act.put,c7])|go_big_quiet_step (fail))
   refine wpQuiet_nil ?_;clear hne;refine ew 7 λK a=>?_;go_simp;refine aU (ZZ.o _ E) λaau aac=>?_;have CW:=E.keep aac;refine a _ _ (CW) ?_;clear a K;refine ew 8 λK a=>?_;go_simp;refine(KN v9 aah.o _).mono ?_;rintro e aaC ⟨⟨eb,rfl,_,_,ZT⟩,Z4⟩;have Q':=CW.keep (Keeps.bD Z4 a7);refine a _ _ (Q') ?_;clear a K;refine jq 9 λK a=>?_;go_simp;refine(Yo ZR.out.2 ZT _).mono ?_;rintro e aaD ⟨⟨aao,aap,aaq,aar,aak,rfl⟩,Z5⟩;have h2:=Q'.keep (Keeps.bD Z5 a7);refine a _ _ (h2) ?_;clear a K;clear E CW Q' aac Z4 Z5 ZT ZZ aat fr;have ZX:=af (PX b.dS (Ha (ZQ.out _ h2)) aao aap aaq aar aak);refine cI (oL) [10] 0 1 ?_;refine kx 10 λK a=>?_;go_simp;refine ZX.o.mono ?_;rintro e aav ⟨⟨fy,rfl⟩,ZV,aad⟩;refine a _ _ (ma _) ?_;clear a K;have aae:=af (show fo aav b (mC s dW s.x.now ps) o sd m R from ZR.out.1▸⟨d,cw,(Hb (ZQ.out _ h2) ZV aad).qe.qe⟩);clear h2 ZV aad ZX;exact Mk
  have aaj:=dd U;have aaf:=dd U;have aae:=af (show fo wr b (mC s dW s.x.now ps) o sd m R from⟨d,cw,D.qe.qe⟩);clear D l;exact Mk
 | cons p rest=>
  have aam:pre.length<ps.length:=by rw[T];simp
  have aay:(pre.length:aa)<(ps.length:aa):=U;have he:ps[pre.length]=p:=by simp[T]
  have ZH:p∈ps:=by rw[T];simp
  have mv:=V.out.1.ok p ZH;have Z':ps=(pre++[p])++rest:=by rw[T];simp
  have aal:=aZ;simp only[ds]at aal;have m':=D.at' 10 rfl;obtain⟨r,rfl⟩:=pa m'.1 U;have a':=og (P:=prog) (enc:=λp:fp=>[I (p.n:aa),p.cC]) (λ_=>rfl) isAgg271 sizeOf271 m'.1 pre.length aam;rw[he]at a';have a':=a';have dw:=VT wr;have O:=aX wr (ae #[I 0,aq none 0 0] 271);obtain⟨y,_,Z⟩:=dP (wr.alloc (ae #[I 0,aq none 0 0] 271)) 271 2 wr.heap.size #[I (p.n:aa),aq p.A p.xs.length p.cap] _ sizeOf271 rfl rfl O rfl;have V':=fl (wr.alloc (ae #[I 0,aq none 0 0] 271)) wr.heap.size _ #[I (p.n:aa),aq p.A p.xs.length p.cap] 271 O;have vl:=cL ((ba wr).alloc (ae #[I 0,aq none 0 0] 271)) Z a7;generalize (wr.alloc (ae #[I 0,aq none 0 0] 271)).setRow wr.heap.size _=v' at y V' vl;generalize wr.alloc (ae #[I 0,aq none 0 0] 271)=aaB at dw y;obtain⟨f,S⟩:=cO (mC s dW s.x.now pre);rw[<-S]at D l;obtain⟨B,N⟩:=cO (bC b f.1 d++ay.out o cw sd m f.2 :: ay.k8 (aq (some (ad r 0 ab)) ps.length cap) ps :: ay.bc dH (c,264) :: R);have C:∀ W,Sep W B->Sep W (bC b f.1 d++ay.out o cw sd m f.2 :: ay.k8 (aq (some (ad r 0 ab)) ps.length cap) ps :: ay.bc dH (c,264) :: R):=λW h=>N▸h;obtain⟨ue,ZG⟩:=cO wr.heap.size;have E:Fi B ue p.n (aq p.A p.xs.length p.cap) v'.drew:=⟨by rw[N];exact(D.keep vl).drew 1,ZG▸V'⟩;obtain⟨G,X⟩:=hJ (F:=λW=>Fi B ue p.n (aq p.A p.xs.length p.cap) W);have Y:∀ t:bp G,t.to.cell? (ad b.p 0 ab)=some (.pointer (some (ad b.c.c 0 ab))):=λt=>lE (C _ ((X _).1 t.held).sep);have aas:=λx:bp G=>aS (((X _).1 x.held).box);have fr:∀ W,(∃ t:bp G,W=t.to)->(Instr.loadAt 271 ue).run prog W=.ok (aQ #[I (p.n:aa),aq p.A p.xs.length p.cap]) W:=λW ⟨t,aO⟩=>by
   rw[aO];exact gz (P:=prog) 271 2 ue 0 #[I (p.n:aa),aq p.A p.xs.length p.cap] #[I (p.n:aa),aq p.A p.xs.length p.cap] _ isAgg271 sizeOf271 rfl ((X _).1 t.held).box (λj u z=>jZ)
  have lb:=(X _).2 E;have ZL:f.1.x=dW:=by rw[l.rest]
  have ZU:Hid (∀ W,G W->aA 22 #[b.c.c] W λe w'=>e=.returned (I (s.x.now:aa))/\W=w'):=af (λW T'=>by
   have h1:=vA (hz (C _ ((X W).1 T').sep));rw[ZL,V.out.1.now]at h1;exact h1)
  have TS:=af (HC (w:=v'.drew) (b:=b) (q:=f) (o:=o) (sd:=sd) (m:=m) (R:=ay.k8 (aq (some (ad r 0 ab)) ps.length cap) ps :: ay.bc dH (c,264) :: R) (kg _ (kg _ a.out)) ⟨d,cw,C _ E.sep⟩ (show v'.drew.ownsRow 0 45 9 (aq p.A p.xs.length p.cap) p.xs.length (bX p.xs)from b4 (m'.2 p ZH) (vl.drew) (λ_ _=>id)) mv.1 (s.x.now:aa) ⟨U,by have:=V.out.2.2.2.1;omega⟩ (l.hd.trans V.out.2.2.1) (by rw[l.aN];exact mv.2.1) (g'.out.1.same ZL) l.bf (by have:=l.len;have:=V.out.2.2.2.2;omega));have ZI:ib s.x.now f (p.n,p.xs)=mC s dW s.x.now (pre++[p]):=by rw[X8,S]
  rw[ZI]at TS;have Tq:=l.step mv.1 s.x.now;rw[ZI]at Tq;have eB:=b6 Tq Z';have aaz:=V.out.2.2.2.2;rw[<-ZG]at dw y;clear D l T aZ he ZH mv Z' m' O Z V' vl S N C E X ZL ZI Tq ZG;go_wp2_with first|((with_reducible refine dp a' rfl rfl ?_ ?_);exact rfl)|refine d_ dw rfl rfl ?_|refine c8 y rfl rfl rfl rfl ?_
  clear a' dw y;simp only[Act.put,c7];refine cH 10 ?_;refine cI (G) (.range 9) 1 9 ?_;refine p0 (lb) (.range 8) 1 λhne=>?_
  repeat (first|(refine ke fr rfl rfl rfl ?_;simp only[Act.put,c7])|go_big_quiet_step (fail))
  refine wpQuiet_nil ?_;clear hne;refine jq 8 λK a=>?_;go_simp;refine bA (ZU.o _ lb) ?_;refine a _ _ (lb) ?_;clear a K;clear Y aas fr lb ZU;refine cI (oL) [9] 0 1 ?_;refine kx 9 λK a=>?_;go_simp;refine aU TS.o ?_;rintro aau ⟨d5,v5,ZS⟩;refine a _ _ (ma _) ?_;clear a K;have aag:=af ZS;clear ZS TS;go_wp2_with fail;go_roundg rest.length
  case measure=>omega
  exact⟨pre++[p],rest,eB.out.2,rfl,qx,by rw[cx,iT];exact eB.out.1,d5,v5,aag.o⟩
end
section
open Go.Maps
variable{eC:Old}{w w':ai}{b:ga}{s:bJ}{R:ah ay}{d:gq}{q:cl}{o:J}{sd:ax}{m:aY}
structure Fm(s:bJ):ak where
 ct:-1000<=s.ct/\s.ct<=1000
 ot:0<=s.aE.b_/\s.aE.b_<=1000000
 ch:0<=s.aE.c4/\s.aE.c4<=1000000
 hd:s.ld.hd=false
 aN:s.ld.aN<s.x.now
 no:fJ s.x=none
 bf:hs s.ld.bf
 now:j3 s
 dl:s.x.eF<=1000
 d:(s.x.f s.x.aL).next<=s.x.now+s.x.eF
 dG:(s.x.f s.x.aL).next<1000000
 w:(s.x.f s.x.aL).first<=(s.x.f s.x.aL).next/\(s.x.f s.x.aL).next<(s.x.f s.x.aL).first+64
def yr{w:ai}{b:ga}{q:cl}{o:J}{sd:ax}{R:ah ay}{v:aR}(h:fo w b q o sd false R)(al:gd q.1=false):fo w b (ei v q) o sd (gd q.1) R:=by
 unfold ei;rw[al];exact h
def Q_{p:cl}{v:ax}(h:Sep w (bC b p.1 d++ay.out o v sd m p.2 :: R))(m':aY):Sep (w.setCell (ad o 2 ab) (.bool m')) (bC b p.1 d++ay.out o v sd m' p.2 :: R):=by
 obtain⟨aj,c⟩:=ko h;have eN:=(Keeps.refl (λj=>j=o) w).setCell (p:=ad o 2 ab) rfl (.bool m');exact Bh h ⟨by simpa using bV aj 2 (.bool m'),b4 c eN (λj a e=>ud c (e▸aj) bq a)⟩ (eN.mono λ_ _ e=>.inl e) (λj a=>.inr (.inl a))
def Rb{p:cl}{v:ax}(h:Sep w (bC b p.1 d++ay.out o v sd m p.2 :: R))(sd':ax):Sep (w.setCell (ad o 1 ab) sd') (bC b p.1 d++ay.out o v sd' m p.2 :: R):=by
 obtain⟨aj,c⟩:=ko h;have eN:=(Keeps.refl (λj=>j=o) w).setCell (p:=ad o 1 ab) rfl sd';exact Bh h ⟨by simpa using bV aj 1 sd',b4 c eN (λj a e=>ud c (e▸aj) bq a)⟩ (eN.mono λ_ _ e=>.inl e) (λj a=>.inr (.inl a))
def RN(g':ay.kinds eC∈R)(h:fo w b q o sd false R)(v:aR)(aW:v.toNat<=63)(hk:Fm q.1)(s':q.2.length<=40000)(m':gd q.1=true->Can (ek q.1 v).x q.1.x.now/\fJ (ek q.1 v).x=none/\jn (ek q.1 v).x=false/\q.1.x.now<((ek q.1 v).x.f q.1.x.aL).next/\eL q.1.x.now (hi (ek q.1 v).x q.1.x.now)/\j3 (lj (ek q.1 v,q.2)).1):aA 88 #[b.p,o,aF v.toNat] w λe w'=>e=aV #[]/\fo w' b (ei v q) o sd (gd q.1) R:=by
 have⟨s,cs⟩:=q;have M:=h;have⟨d,cw,H⟩:=h;have bY:=o0 H;have an:=af (Io (mR H));by_cases m:s.aE.state=1;rotate_left
 .have t:=af (yr (v:=v) M (show gd s=false by unfold gd;simp[m]));have Aw:=dd m;generalize s.aE.state=z at *
  go_in
  go_wp2_with fail;refine bA an.o ?_;exact D4
 rw[m]at an;have k:=af (RO H hk.ct hk.ot);by_cases g:sD s=true
 .have t:=af (yr (v:=v) M (show gd s=false by unfold gd;simp[g]));have S:=af (λn=>(show fo (w.drewN n) b (ei v (s,cs)) o sd (gd s) R from yr ⟨d,cw,H.drew n⟩ (show gd s=false by unfold gd;simp[g])));rw[g]at k
  go_in
  go_wp2_with fail;refine bA an.o ?_;go_wp2_with fail;refine aU k.o ?_;rintro _ ⟨n,rfl⟩;have t:=af (S.out n);exact D4
 have g:sD s=false:=by simpa using g
 rw[g]at k;have i:=af hk;by_cases c:jn s.x=true
 .have l:gd s=false:=by unfold gd;simp[c]
  have C:=af (λn=>Ps (hz (H.drew n)) v.toNat c);have B:=af H;have Q:=af l;have T:=af c;have u:=af (λn=>lE (H.drew n))
  go_in
  go_wp2_with fail;refine bA an.out ?_;go_wp2_with fail;refine aU k.out ?_;rintro _ ⟨n,rfl⟩;have bt:=u.out n;have E:=af (C.out n);go_wp2_with fail;refine aU E.o λaC G=>?_;have h2:=(B.out.drew n).keep G;have bt:=lE h2;have F:=af (Pw (hz h2) i.out.no T.out);have y:=af h2;simp only;go_wp2_with fail;refine aU F.o λbm K=>?_;have t:=af (yr (v:=v) (show fo (bm.alloc (ae #[I 0,aq none 0 0] 271)) b (s,cs) o sd false R from⟨d,cw,(y.o.keep K).keep ((ba bm).alloc _)⟩) Q.out);exact D4
 have c:jn s.x=false:=by simpa using c
 have l:gd s=true:=by unfold gd;simp[m,g,c]
 have⟨g1,W,X,Y,Z,g6⟩:=m' l;have C:=af (λn=>Pr (hz (H.drew n)) v.toNat U c hk.d hk.dl hk.dG hk.w);have B:=af H;have u:=af (λn=>lE (H.drew n));have a:=b6 g1 (bB W (bB X (bB Y (bB Z (bB g6 s')))));unfold ei;dsimp only;rw[aD l,l]
 go_in
 go_wp2_with fail;refine bA an.out ?_;go_wp2_with fail;refine aU k.out ?_;rintro _ ⟨n,rfl⟩;have bt:=u.out n;have E:=af (C.out n);go_wp2_with fail;refine aU E.o ?_;rintro aC ⟨v',G⟩;have h2:=x_ (B.out.drew n) v' G;have bY:=o0 h2;have l':=af (Tb (mR h2) (s.x.f s.x.aL).next v (by have:=i.out.ch;simp only;omega));have y:=af h2;go_wp2_with fail;refine aU l'.o ?_;rintro bm ⟨ps,K⟩;have D:=x' y.out ps K;have bt:=lE D;obtain⟨r,lb,vl⟩:=a.out.1.st;have mv:=af (Pv (hz D) a.out.2.1 a.out.2.2.1 a.out.2.2.2.1 a.out.1.L lb vl a.out.1.top a.out.1.bS a.out.1.GR a.out.1.uF);have P:=af D;simp only;go_wp2_with fail;refine mv.o.mono ?_;rintro e O ⟨⟨A,cap,rfl,r'⟩,ys,zd⟩;have a':=x_ P.out ys zd;have gf:=aX O (ae #[I (s.x.now:aa),.slice A (hi (ek s v).x s.x.now).length cap] 271);have N:=(ba O).alloc (ae #[I (s.x.now:aa),.slice A (hi (ek s v).x s.x.now).length cap] 271);have zp:=aS gf;have F:=af (HC (q:=({ek s v with x:={jd (ek s v).x s.x.now with now:=s.x.now+1}},cs)) g' ⟨d,cw,a'.keep N⟩ (b4 r' N (λ_ _=>id)) a.out.2.2.2.2.1 (s.x.now:aa) ⟨U,by have:=a.out.1.top;omega⟩ i.out.hd i.out.aN (j3.same (s:=(lj (ek s v,cs)).1) a.out.2.2.2.2.2.1 rfl) i.out.bf (b7 a.out.2.2.2.2.2.2 bq));go_wp2_with fail;refine aU F.o ?_;rintro CW ⟨V,v6,j⟩;have j:=j;have f2:=aS ((ko j).1);have gv:=bI ((ko j).1);have fr:=af (show fo _ b (lj (ek s v,cs)) o sd true R from⟨V,v6,Q_ (p:=lj (ek s v,cs)) j true⟩);go_wp2_with fail;go_end0;exact⟨rfl,fr.o⟩
end
section
variable{w w':ai}{s:bJ}{F:J}{a_ us:J->J->aa}
theorem oR.many{s:bJ}(now:aa):∀ (L:ah (J×ah aB)) (k:J) (p:cl),oR s k p->(∀ g∈L,eL g.1 g.2)->oR s (k+L.length) (L.foldl (ib now) p)
 | [],_,_,h,_=>h
 | g :: L,k,p,h,a=>by
  rw[ds,show k+(L.length+1)=k+1+L.length by omega];exact oR.many now L (k+1) _ (h.step (a g mI) now) (λe b=>a e (kg _ b))
def b8.Jp(h:b8 s F a_ us):(cM s).2.length<=5760:=by
 cases hw:fJ s.x with
 | none=>unfold cM;rw[hw];simp
 | some g=>
  obtain⟨g1,d,_⟩:=h.hy.zo h.aL h.jk.1 hw;have f:=h.jk;have i:=h.lB;have b:oR {s with x:=replay s.x g (s.x.now-g)} 0 ({s with x:=replay s.x g (s.x.now-g)},[]):=⟨rfl,rfl,rfl,h.dL,h.pZ,⟨h.k5,h.most.2⟩,aK⟩;have h1:=b.many s.x.now (mu s.x g (s.x.now-g)) 0 _ (λe c=>by
   obtain⟨j,a,rfl⟩:=e3.1 c;have a:=po.1 a;rw[yI h.hy g1 U j U];exact nX _ h.aG _)
  have k:(mu s.x g (s.x.now-g)).length=s.x.now-g:=by unfold mu;simp
  unfold cM;rw[hw]
  have:=h1.len
  show((mu s.x g (s.x.now-g)).foldl (ib s.x.now) ({s with x:=replay s.x g (s.x.now-g)},[])).2.length<=5760;omega
def Kx{q:cl}(v:aR)(h:b8 q.1 F a_ us)(au:gd q.1=true->eL q.1.x.now (hi (ek q.1 v).x q.1.x.now)):(ei v q).2.length<=q.2.length+320:=by
 unfold ei;split
 .rename_i al;have h1:=KF (s:=q.1.ld) (fr:=q.1.x.now) (now:=q.1.x.now) (by have:=h.k5;have:=h.most;omega) (au al).2.1;show(q.2++kC q.1.ld q.1.x.now (hi (ek q.1 v).x q.1.x.now) q.1.x.now).length<=_;rw[cx];omega
 omega
theorem hv.AZ{x:ck}:∀ (n:J) {p:cl},hv x p->(eA n p).2.length<=p.2.length+320*n
 | 0,_,_=>c9 _
 | n+1,p,h=>by
  unfold eA;split
  .omega
  obtain⟨h1,h2,_⟩:=h.step
  have:=hv.AZ n h1
  omega
structure vn(l:b9)(lead:aa):ak where
 aO:0<=l.b_/\l.b_<=1000000
 aJ:0<=l.heard/\l.heard<=1000000
 j7:∀ m∈l.out,m.a8=[]
 hm:∀ m∈(c1 l lead).1,m.wf/\di m
 ar:(c1 l lead).1.length<=100
structure Ao(s:bJ)(v:aR)(F:J)(a_ us:J->J->aa):ak where
 cK:b8 s F a_ us
 lK:s.b1=false
 E:s.x.now<=F+s.x.dv+1
 gF:(F:aa)<=s.ld.aN+1
 top:s.x.now<=90000
 dH:v.toNat<=63
 ct:-1000<=s.ct/\s.ct<=1000
 ot:0<=s.aE.b_/\s.aE.b_<=1000000
 ch:0<=s.aE.c4/\s.aE.c4<=1000000
 aE:vn (da v s).1.aE (h8 {(da v s).1 with x:=dV (da v s).1.x})
def b8.XK(h:b8 s F a_ us)(n:ha s a_ us)(aJ:s.b1=false)(i:s.x.now<=90000)(b:-1000<=s.ct/\s.ct<=1000)(d:0<=s.aE.b_/\s.aE.b_<=1000000)(a:0<=s.aE.c4/\s.aE.c4<=1000000):Fm s:=by
 have e:=h.jk;have f:=h.lB;have c:=h.ab;have g:=h.hy.first h.aL;unfold c_ at c;exact⟨b,d,a,h.hd.trans aJ,h.aN.2.1,(h.oj n).1,h.pZ,h.o9,U,U,U,U⟩
def Zg(s:bJ)(v:aR)(h:s.x.aL<2):fJ (ek s v).x=fJ s.x:=by
 unfold fJ fv;show jf (eP s.x.f s.x.aL _ (1-s.x.aL)).K (eP s.x.f s.x.aL _ (1-s.x.aL)).cQ=_;rw[q' _ _ U]
def IM(s:bJ)(v:aR):((ek s v).x.f s.x.aL).next=(s.x.f s.x.aL).next+1:=by
 show(eP s.x.f s.x.aL _ s.x.aL).next=_;rw[ra]
def IL(s:bJ)(v:aR)(i:J):(s.x.f i).next<=((ek s v).x.f i).next:=by
 by_cases e:i=s.x.aL
 .rw[e,IM];omega
 show _<=(eP s.x.f s.x.aL _ i).next;rw[q' _ _ e];exact c9 _
def Q2(s:bJ)(v:aR)(h:jn s.x=false):jn (ek s v).x=false:=by
 have h1:=IL s v 0;have h2:=IL s v 1;have a:=D2 h;refine dd ?_;unfold kW at a⊢;show ¬ (s.x.dv:aa)<=(s.x.now:aa)-_;omega
def b8.Kw(h:b8 s F a_ us)(n:ha s a_ us)(i:s.x.now<=90000)(b:s.x.now<=F+s.x.dv+1)(v:aR)(aW:v.toNat<=63)(o:ah ca)(al:gd s=true):Can (ek s v).x s.x.now/\fJ (ek s v).x=none/\jn (ek s v).x=false/\s.x.now<((ek s v).x.f s.x.aL).next/\eL s.x.now (hi (ek s v).x s.x.now)/\j3 (lj (ek s v,o)).1:=by
 have⟨a,_,_⟩:=xI al;have⟨cr,d,_,_,e,g⟩:=h.step n a U b v aW o;have c:=h.ab;unfold c_ at c;refine⟨g,by rw[Zg s v h.aL];exact(h.oj n).1,Q2 s v a,by rw[IM];omega,?_,d.o9⟩;rw[e];exact nX _ h.aG _
def Pm{b:f'}(h:IsCore w b s.x)(p:b8 s F a_ us)(n:ha s a_ us)(l:s.x.now<=90001):aA 90 #[b.c,I (cY s.x)] w λe w'=>(∃ n:aa,e=.returned (I n))/\IsCore w' b (dV s.x)/\Keeps b.S w w':=by
 have⟨h1,h2⟩:=p.oj n;have i:=p.vk;have a:=p.ab;have j:=p.aL
 have d:∀ k,k<2->(s.x.f k).first=F/\min (bN s) s.x.now<=(s.x.f k).next:=λk hk=>⟨p.hy.first hk,by
  have:k=s.x.aL\/k=1-s.x.aL:=U
  rcases this with rfl|rfl
  .unfold c_ at a;omega
  .unfold bN fv;omega⟩
 unfold dV;by_cases av:cY s.x<0
 .rw[aD av];refine Pn h h1 _ U U (λk hk=>?_);have g:=d k hk
  have:F<=(s.x.f k).next:=by
   have:k=s.x.aL\/k=1-s.x.aL:=U
   rcases this with rfl|rfl
   .unfold c_ at a;omega
   have:=p.jk.2.2.1;unfold bN fv at this;omega
  omega
 rw[az av];refine Pl h h1 (cY s.x).toNat _ U U U (λk hk=>?_) ?_ U
 .have g:=d k hk;omega
 rw[p.hy.eQ];omega
end
end Go.Proofs.YtalagblioepadaaGreatDoor
