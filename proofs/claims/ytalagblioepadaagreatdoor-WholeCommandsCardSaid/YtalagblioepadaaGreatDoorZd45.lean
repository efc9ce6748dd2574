/- The proof, part 45. -/
import Derived.Test.YtalagblioepadaaGreatDoorZd44
import Derived.Deep.CutBlock
namespace Go.Proofs.YtalagblioepadaaGreatDoor
set_option linter.all false
open Proofs.Tryz List Go.RowKit
set_option maxRecDepth 100000
set_option maxHeartbeats 4000000
def Nw{p:al}(h:p:=by
 go_wp2_with fail;go_roundg k
 case rel=>exact⟨eR (s,cs),k,rfl,by rw[<-v.out.1];exact i.out.2.2.1,aat.o,v.out.2.1.1,by rw[v.out.2.1.2.2];have:=i.out.2.2.2.1;(try dsimp only);omega,by rw[v.out.2.1.2.2];have:=i.out.2.2.2.2.1;(try dsimp only);omega,by rw[v.out.2.1.2.2];(try dsimp only);omega,by have:=v.out.2.1.2.1;have:=i.out.2.2.2.2.2.2;(try dsimp only at *);omega⟩
 omega
 ):p:=h
def N6{p:al}(h:p:=by
 go_wp2_with first|refine lC a rfl rfl rfl rfl ?_|refine lC g rfl rfl rfl rfl ?_
 refine bE aV.out ?_;go_wp2_with fail;go_end0;exact⟨rfl,j.out⟩
 ):p:=h
def OJ{p:al}(h:p:=by
 unfold im gp gw;rw[hG];exact ca (ml _ _) (ml _ _)
 ):p:=h
def EA{p:al}(h:p:=by
 go_wp2_with fail;refine c1 (v:=aY #[]) (by simp[results,results88]) rfl ?_;exact⟨rfl,t.o⟩
 ):p:=h
def M1{p:al}(h:p:=by
 go_wp2_with fail;go_end0;exact⟨rfl,by rw[V.out.1.eq];exact aaZ.o⟩
 ):p:=h
def M3{p:al}(h:p:=by
 clear D B C ar;go_wp2_with fail;go_meet;exact⟨_,_,u.sep⟩
 ):p:=h
def xt{p:al}(h:p:=by
 rw[aK];exact T2 ((a _).1 t.held).box
 ):p:=h
section
open Go.Maps
variable{eK:Old}{w w':aj}{b:gk}{R:ah az}{q:cq}{o:J}{sd vl:ay}{m:a1}{l:ah bI}
def BU(z:az.kinds eK∈R)(h:fy w b q o sd m (az.cF vl l :: R))(av:ki q.1)(an:∀ c∈l,lH c)(V':q.2.length+l.length<=100000):aA 96 #[b.p,o,vl] w λe w'=>e=aY #[]/\fy w' b (q.1,q.2++l) o sd m R:=by
 obtain⟨s,cs⟩:=q;obtain⟨A,cap,rfl,_,_⟩:=cS (show w.ownsRow 0 47 12 vl l.length (dC l)by obtain⟨d,v,H⟩:=h;exact H.at' 10 rfl);have O:=ag (bD h (bD av (bD an (bD V' z))));clear h av an V' z
 go_in
 go_wp2_with fail;go_loopg [11] l.length (λg i wr=>∃ pre rest:ah bI,l=pre++rest/\g=rest.length/\i=I pre.length/\fy wr b (s,cs) o sd m (az.cF (aq A l.length cap) l :: R))
 case atStart=>exact⟨[],l,rfl,rfl,rfl,O.o.1⟩
 obtain⟨pre,rest,f,aZ,rfl,d,v,H⟩:=hrel;cases rest with
 | nil=>
  have aaG:¬ (pre.length:aa)<(l.length:aa):=by rw[f];simp
  obtain⟨ak,g'⟩:=kG (p:=(s,cs)) H;have T:wr.ownsRow 0 47 12 (aq A l.length cap) l.length (dC l):=H.at' 10 rfl;obtain⟨v',ao,aas,s',ps,h2⟩:=A4 32 g' T (ca O.out.2.2.2.1 bt);have ys:∀ j,v.ownBlock=some j->j≠o:=λj Q e=>uw g' (e▸ak) bt Q;have a':=ps.heap ak (λe=>ys _ e rfl);have bz:=aO ak;have d0:=aO a';have f0:=bP a';have eU:=(Keeps.refl (λj=>j=o) ao).setCell (p:=ae o 0 ad) rfl v';have aau:=bT ak;have TS:=b5 s' eU (λj Q e=>by
   rcases h2 j Q with zd|zd
   .exact ys j zd e
   .omega)
  have lb:=b3 a' 0 v';simp only[tc,rT]at lb;have aar:=ag (show fy (ao.setCell (ae o 0 ad) v') b (s,cs++l) o sd m R from⟨d,v',(BM (p:=(s,cs)) H (v':=v') (sd':=sd) (m':=m) (l:=cs++l) ⟨lb,TS⟩ ((ps.mono λ_ _ e=>.inr e).trans (eU.mono λ_ _ e=>.inl e)) (λj Q=>.inr (h2 j Q))).qx⟩);obtain⟨aay,aaA,rfl,_,_⟩:=cS g';obtain⟨aaz,aaB,rfl,_,_⟩:=cS s';clear H ak g' T s' ps h2 ys a' eU aau TS lb f O;go_wp2_with refine wY aas rfl rfl rfl rfl ?_
  go_end0;exact⟨rfl,by simpa only[cx]using aar.o⟩
 | cons c rest=>
  have Tq:pre.length<l.length:=by rw[f];simp
  have aat:(pre.length:aa)<(l.length:aa):=U;have he:l[pre.length]=c:=by simp[f]
  have aaF:l.length<=100000:=by have:=O.out.2.2.2.1;omega
  have T':lH c:=O.out.2.2.1 c vw;have W':l=(pre++[c])++rest:=by rw[f];simp
  have CW:=aZ;simp only[dy]at CW;have T:wr.ownsRow 0 47 12 (aq A l.length cap) l.length (dC l):=H.at' 10 rfl;obtain⟨r,rfl⟩:=nw T U;have V:=mM (P:=prog) (enc:=bI.bu) (λ_=>rfl) isAgg47 sizeOf47 T pre.length Tq;rw[he]at V;have V:(Instr.loadAt 47 (.pointer (some (ae r (pre.length*12) ad)))).run prog wr=.ok (.agg (dg c)) wr:=V;have dp:=wK wr;obtain⟨ab,Z,zp,Q',aaw⟩:=vO wr c;obtain⟨bN,l'⟩:∃ bN,bN=wr.heap.size:=⟨_,rfl⟩;have u:gW (bH b s d++az.out o v sd m cs :: az.cF (aq (some (ae r 0 ad)) l.length cap) l :: R) bN c ab:=⟨H.keep Q',l'▸zp,λr aav Q=>absurd (H.lt aav Q) U⟩;obtain⟨bp,bg,db,pl⟩:=c;have aaq:ab.cell? (ae bN 0 ad)=some (I bp):=bf u.box rfl;have hd:=ag (bD W' T');rw[<-l']at dp Z;generalize wr.alloc _=aaI at dp Z;clear H T f aZ he T' W' zp Q' aaw l'
  go_upto_block 1 with fail
  go_cut [] (λb2=>fy b2 b (s,cs) o sd m (az.cF (aq (some (ae r 0 ad)) l.length cap) l :: R))
  case first=>
   have S:=ag (bD hd.o.2 (bD O.out.2.1 O.out.2.2.2.2));go_wp2_with first|((with_reducible refine dn V rfl rfl ?_ ?_);exact rfl)|(with_reducible refine dU dp rfl rfl ?_)|((with_reducible refine c7 Z rfl rfl ?_ ?_ ?_);exact rfl;exact rfl)
   all_goals clear V dp Z aaq O hd Tq aat CW
   .have ar:=ag (λW (n:gW (bH b s d++az.out o v sd m cs :: az.cF (aq (some (ae r 0 ad)) l.length cap) l :: R) bN (bI.mk bp bg db pl) W)=>by
     obtain⟨bV,hm⟩:=BH n.sep;exact UA hm bg S.o.1.bg db S.o.1.db)
    obtain⟨G,a⟩:∃ G:aj->al,∀ W,G W↔gW (bH b s d++az.out o v sd m cs :: az.cF (aq (some (ae r 0 ad)) l.length cap) l :: R) bN (bI.mk bp bg db pl) W:=⟨_,λ_=>Iff.rfl⟩;have M:∀ t:bs G,t.to.cell? (ae b.p 3 ad)=some (.pointer (some (ae b.fl 0 ad))):=λt=>v8 ((a _).1 t.held).sep;have N:∀ t:bs G,t.to.cell? (ae b.p 4 ad)=some (.pointer (some (ae b.ed 0 ad))):=λt=>tW ((a _).1 t.held).sep;have L:=λx:bs G=>aO (((a _).1 x.held).box);have E:∀ W,(∃ t:bs G,W=t.to)->(Instr.loadAt 45 (.pointer (some (ae bN 1 ad)))).run prog W=.ok (.agg (dD bg)) W:=λW ⟨t,aK⟩=>by
     exact xt
    have B:=(a _).2 (u.keep (bb ab).drew);have C:=ag (λW (n:G W)=>(a W).1 n);have F:=ag (λW n=>(a W).2 n);clear a;clear u;go_wp2_with fail;refine cJ 11 ?_;refine cK (G) (.range 9) 2 9 ?_;refine qg (B) (.range 9) 0 λhne=>?_
    repeat (first|(refine jL E rfl rfl rfl ?_;simp only[Act.put,c8])|go_big_quiet_step (fail))
    refine wpQuiet_nil ?_;clear hne;refine lZ ?_;clear M N L E F;refine cK (λ_=>True) [9,10] 0 2 ?_;refine eH 9 λK z=>?_;go_simp;refine(ar.o _ (C.o _ B)).mono ?_;rintro e X ⟨⟨Y,rfl⟩,D⟩;refine z _ _ (trivial) ?_;clear z K;refine kM 10 λK z=>?_;go_simp;refine z _ _ (trivial) ?_;clear z K;obtain⟨d,u⟩:=(C.out _ B).fl D;clear D B C ar;go_upto_region 6 with fail
    go_cut [34] (λaax b2=>(∃ t,aax=.bool t)/\b2=X)
    case first=>
     clear u;cases aaD:(Y == 14)<;>cases aaE:(Y == 8)
     all_goals
      go_wp2_with fail;go_meet;exact⟨⟨_,rfl⟩,rfl⟩
    case rest=>
    obtain⟨⟨t,rfl⟩,rfl⟩:=hcut;go_upto_if 34 with fail
    go_cut [] (λb2=>∃ d:gG,gW (bH b s d++az.out o v sd m cs :: az.cF (aq (some (ae r 0 ad)) l.length cap) l :: R) bN (bI.mk bp bg db pl) b2)
    case first=>
     have A1:=RT u.sep;have f11:=yp u.sep 11;have fr:=ag u;clear u;go_wp2_with fail
     all_goals
      go_meet
      first|exact⟨_,fr.o⟩|exact⟨_,fr.o.mL _⟩
    case rest=>
    obtain⟨d,u⟩:=hcut;have Aw:=ag (λW (n:gW (bH b s d++az.out o v sd m cs :: az.cF (aq (some (ae r 0 ad)) l.length cap) l :: R) bN (bI.mk bp bg db pl) W)=>Sr n.sep S.out.2.1 bg.k.em);have ar:=ag (λW (n:gW (bH b s d++az.out o v sd m cs :: az.cF (aq (some (ae r 0 ad)) l.length cap) l :: R) bN (bI.mk bp bg db pl) W) (x y:aa)=>by
     obtain⟨bV,hm⟩:=BG n.sep;have r':az.kinds eK∈(az.out o v sd m cs :: az.cF (aq (some (ae r 0 ad)) l.length cap) l :: R):=by simp[S.out.2.2]
     exact Rj hm (n.sep.all (az.kinds eK) (eJ.2 (.inr r'))).1 (λe=>(pJ.1 n.sep.apart).2.2 (az.ed b.ed d.dq) (by simp[bH]) (az.kinds eK) r' 0 (.inr e) (n.sep.all (az.kinds eK) (eJ.2 (.inr r'))).2.2.1) bg S.out.1.bg x y)
    obtain⟨G,a⟩:∃ G:aj->al,∀ W,G W↔gW (bH b s d++az.out o v sd m cs :: az.cF (aq (some (ae r 0 ad)) l.length cap) l :: R) bN (bI.mk bp bg db pl) W:=⟨_,λ_=>Iff.rfl⟩;have M:∀ t:bs G,t.to.cell? (ae b.p 3 ad)=some (.pointer (some (ae b.fl 0 ad))):=λt=>v8 ((a _).1 t.held).sep;have N:∀ t:bs G,t.to.cell? (ae b.p 4 ad)=some (.pointer (some (ae b.ed 0 ad))):=λt=>tW ((a _).1 t.held).sep;have L:=λx:bs G=>aO (((a _).1 x.held).box);have E:∀ W,(∃ t:bs G,W=t.to)->(Instr.loadAt 45 (.pointer (some (ae bN 1 ad)))).run prog W=.ok (.agg (dD bg)) W:=λW ⟨t,aK⟩=>by
     exact xt
    have B:=(a _).2 (u.keep (bb wc).drew);have C:=ag (λW (n:G W)=>(a W).1 n);have F:=ag (λW n=>(a W).2 n);clear a;clear u;go_wp2_with fail;refine cJ 14 ?_;refine cK (G) (.range 13) 1 13 ?_;refine qg (B) (.range 12) 1 λhne=>?_
    repeat (first|(refine jL E rfl rfl rfl ?_;simp only[Act.put,c8])|go_big_quiet_step (fail))
    refine wpQuiet_nil ?_;clear hne;refine jG 12 λK z=>?_;go_simp;refine(Aw.o _ (C.o _ B)).mono ?_;rintro e X ⟨⟨x,y,f,aaH,rfl⟩,St⟩;have gf:=(C.out _ B).keep St;refine z _ _ (F.out _ gf) ?_;clear z K;clear M N L E F;refine cK (λ_=>True) [13] 0 1 ?_;refine kM 13 λK z=>?_;go_simp;refine(ar.out _ gf x y).mono ?_;rintro e aaJ ⟨⟨aaC,rfl⟩,D⟩;refine z _ _ (trivial) ?_;clear z K;obtain⟨d,u⟩:=gf.ed D;clear D B C ar Aw gf St;go_wp2_with fail;go_meet;exact⟨_,_,u.sep⟩
   .have ar:=ag (λW (n:gW (bH b s d++az.out o v sd m cs :: az.cF (aq (some (ae r 0 ad)) l.length cap) l :: R) bN (bI.mk bp bg db pl) W)=>by
     obtain⟨bV,hm⟩:=BH n.sep;exact UB hm bg S.out.1.bg)
    obtain⟨G,a⟩:∃ G:aj->al,∀ W,G W↔gW (bH b s d++az.out o v sd m cs :: az.cF (aq (some (ae r 0 ad)) l.length cap) l :: R) bN (bI.mk bp bg db pl) W:=⟨_,λ_=>Iff.rfl⟩;have M:∀ t:bs G,t.to.cell? (ae b.p 3 ad)=some (.pointer (some (ae b.fl 0 ad))):=λt=>v8 ((a _).1 t.held).sep;have N:∀ t:bs G,t.to.cell? (ae b.p 4 ad)=some (.pointer (some (ae b.ed 0 ad))):=λt=>tW ((a _).1 t.held).sep;have L:=λx:bs G=>aO (((a _).1 x.held).box);have E:∀ W,(∃ t:bs G,W=t.to)->(Instr.loadAt 45 (.pointer (some (ae bN 1 ad)))).run prog W=.ok (.agg (dD bg)) W:=λW ⟨t,aK⟩=>by
     exact xt
    have B:=(a _).2 (u.keep (bb ab).drew);have C:=ag (λW (n:G W)=>(a W).1 n);have F:=ag (λW n=>(a W).2 n);clear a;clear u;go_wp2_with fail;refine cJ 8 ?_;refine cK (G) (.range 7) 1 7 ?_;refine qg (B) (.range 7) 0 λhne=>?_
    repeat (first|(refine jL E rfl rfl rfl ?_;simp only[Act.put,c8])|go_big_quiet_step (fail))
    refine wpQuiet_nil ?_;clear hne;refine lZ ?_;clear M N L E F;refine cK (λ_=>True) [7] 0 1 ?_;refine kM 7 λK z=>?_;go_simp;refine(ar.o _ (C.o _ B)).mono ?_;rintro e X ⟨⟨Y,rfl⟩,D⟩;refine z _ _ (trivial) ?_;clear z K;obtain⟨d,u⟩:=(C.out _ B).fl D;exact M3
   .have ar:=ag (λW (n:gW (bH b s d++az.out o v sd m cs :: az.cF (aq (some (ae r 0 ad)) l.length cap) l :: R) bN (bI.mk bp bg db pl) W)=>by
     obtain⟨bV,hm⟩:=BH n.sep;exact Ux hm bg.k)
    obtain⟨G,a⟩:∃ G:aj->al,∀ W,G W↔gW (bH b s d++az.out o v sd m cs :: az.cF (aq (some (ae r 0 ad)) l.length cap) l :: R) bN (bI.mk bp bg db pl) W:=⟨_,λ_=>Iff.rfl⟩;have M:∀ t:bs G,t.to.cell? (ae b.p 3 ad)=some (.pointer (some (ae b.fl 0 ad))):=λt=>v8 ((a _).1 t.held).sep;have N:∀ t:bs G,t.to.cell? (ae b.p 4 ad)=some (.pointer (some (ae b.ed 0 ad))):=λt=>tW ((a _).1 t.held).sep;have L:=λx:bs G=>aO (((a _).1 x.held).box);have E:∀ W,(∃ t:bs G,W=t.to)->(Instr.loadAt 45 (.pointer (some (ae bN 1 ad)))).run prog W=.ok (.agg (dD bg)) W:=λW ⟨t,aK⟩=>by
     exact xt
    have B:=(a _).2 (u.keep (bb ab).drew);have C:=ag (λW (n:G W)=>(a W).1 n);have F:=ag (λW n=>(a W).2 n);clear a;clear u;go_wp2_with fail;refine cJ 9 ?_;refine cK (G) (.range 8) 1 8 ?_;refine dK (B) (.range 8) 0 ?_;refine lZ ?_;clear M N L E F;refine cK (λ_=>True) [8] 0 1 ?_;refine kM 8 λK z=>?_;go_simp;refine(ar.o _ (C.o _ B)).mono ?_;rintro e X ⟨⟨Y,rfl⟩,D⟩;refine z _ _ (trivial) ?_;clear z K;obtain⟨d,u⟩:=(C.out _ B).fl D;clear D B C ar;have ar:=ag (λW (n:gW (bH b s d++az.out o v sd m cs :: az.cF (aq (some (ae r 0 ad)) l.length cap) l :: R) bN (bI.mk bp bg db pl) W)=>by
     obtain⟨bV,hm⟩:=BG n.sep;exact Rg hm bg.k)
    obtain⟨G,a⟩:∃ G:aj->al,∀ W,G W↔gW (bH b s d++az.out o v sd m cs :: az.cF (aq (some (ae r 0 ad)) l.length cap) l :: R) bN (bI.mk bp bg db pl) W:=⟨_,λ_=>Iff.rfl⟩;have M:∀ t:bs G,t.to.cell? (ae b.p 3 ad)=some (.pointer (some (ae b.fl 0 ad))):=λt=>v8 ((a _).1 t.held).sep;have N:∀ t:bs G,t.to.cell? (ae b.p 4 ad)=some (.pointer (some (ae b.ed 0 ad))):=λt=>tW ((a _).1 t.held).sep;have L:=λx:bs G=>aO (((a _).1 x.held).box);have E:∀ W,(∃ t:bs G,W=t.to)->(Instr.loadAt 45 (.pointer (some (ae bN 1 ad)))).run prog W=.ok (.agg (dD bg)) W:=λW ⟨t,aK⟩=>by
     exact xt
    have B:=(a _).2 (u.keep (bb X).drew);have C:=ag (λW (n:G W)=>(a W).1 n);have F:=ag (λW n=>(a W).2 n);clear a;clear u;go_wp2_with fail;refine cJ 9 ?_;refine cK (G) (.range 8) 1 8 ?_;refine dK (B) (.range 8) 0 ?_;refine lZ ?_;clear M N L E F;refine cK (λ_=>True) [8] 0 1 ?_;refine kM 8 λK z=>?_;go_simp;refine(ar.o _ (C.o _ B)).mono ?_;rintro e X ⟨⟨Y,rfl⟩,D⟩;refine z _ _ (trivial) ?_;clear z K;obtain⟨d,u⟩:=(C.out _ B).ed D;exact M3
   go_meet;exact⟨_,_,u.sep⟩
  have fr:=ag hcut;clear hcut aaq V dp Z u;go_wp2_with fail;go_roundg rest.length
  case measure=>omega
  exact⟨pre++[(bI.mk bp bg db pl)],rest,hd.out.1,rfl,qO,fr.o⟩
end
section
open Go.Maps
variable{eK:Old}{w w':aj}{b:gk}{s:bM}{R:ah az}{d:gG}{q:cq}{o:J}{sd:ay}{m:a1}
def n3(_:aj):al:=True
def lM(w:aj):n3 w:=trivial
def ki.same{s s':bM}(h:ki s)(e:s'.x=s.x):ki s':=by
 unfold ki;rw[e];exact h
def BW(i:az.kinds eK∈R)(h:fy w b q o sd m R)(av:ki q.1)(k:hJ q.1.ld.bc)(u:q.2.length<=90000)(r:aa):aA 63 #[b.p,o,I r] w λe w'=>e=aY #[]/\fy w' b (fQ r q) o sd m R:=by
 have⟨s,cs⟩:=q;have⟨d,v,H⟩:=h;have fq:=p' H;unfold fQ;by_cases aS:s.cc=true
 .rw[aS]at fq;rw[aE aS]
  go_in
  go_wp2_with fail;refine c1 (v:=aY #[]) (by simp[results,results63]) rfl ?_;exact⟨rfl,d,v,H⟩
 have aS:s.cc=false:=by simpa using aS
 rw[aS]at fq;rw[aB (by simp[aS])];have z:=yp H 9;have y:=yp H 10;have q0:=HM H
 have h2:Sep ((w.setCell (ae b.p 9 ad) (.bool true)).setCell (ae b.p 10 ad) (I r)) (bH b {s with cc:=true,reason:=r} d++az.out o v sd m cs :: R):=
  yo (s:={s with cc:=true}) (s':={s with cc:=true,reason:=r}) (n:=d.mL) (yo (s':={s with cc:=true}) (n:=d.mL) H 9 (.bool true) rfl rfl rfl rfl rfl rfl) 10 (I r) rfl rfl rfl rfl rfl rfl
 have x:=tV h2;have a:=bW h2 (bD av (bD k u))
 go_in
 go_wp2_with fail;refine((TF (ni h2))).mono ?_;rintro e aD ⟨vl,rfl,c,j,t⟩;have B:(j4 s.ld).length<=256:=by
  have:=(ni a.out.1).cv
  unfold j4;split
  .simp
  rw[hG];exact this
 have g:=ag (BU i (q:=({s with cc:=true,reason:=r,ld:=gq s.ld},cs)) (l:=j4 s.ld) (vl:=vl) (b:=b) (o:=o) (sd:=sd) (m:=m) (R:=R) ⟨_,v,(BL a.out.1 j c t).rj⟩ (a.out.2.1.same rfl) (Is a.out.2.2.1) (by show cs.length+_<=_;have:=a.out.2.2.2;omega));obtain⟨A,cap,rfl,_,_⟩:=cS c;go_wp2_with fail;refine aW g.o λbq f=>?_;go_wp2_with fail;go_end0;exact⟨rfl,f⟩
def BV(f:az.kinds eK∈R)(h:fy w b q o sd m R)(av:ki q.1)(g:hJ q.1.ld.bc)(i:q.2.length<=90000):aA 94 #[b.p,o] w λe w'=>e=aY #[]/\fy w' b (fj q) o sd m R:=by
 have a:=h;have⟨d,v,H⟩:=h;have b6:=pf H;have ar:=ag (I2 (nj H));unfold fj;by_cases aZ:q.1.aF.state=2
 .rw[aE aZ];rw[aZ]at ar
  go_in
  go_wp2_with fail;refine bE ar.o ?_;go_wp2_with fail;refine aW (BW f a av g i 12) λbq c=>?_;go_wp2_with fail;go_end0;exact⟨rfl,c⟩
 rw[aB aZ];generalize q.1.aF.state=z at *
 go_in
 go_wp2_with fail;refine bE ar.o ?_;go_wp2_with fail;go_end0;exact⟨rfl,a⟩
structure qX(L:ah az)(bN:J)(f:aa)(v:ay)(xs:ah aC)(W:aj):al where
 sep:Sep W L
 bN:W.heap[bN]?=some (af #[I f,v] 271 (0,0))
 row:∃ base,W.ownsRow base 45 9 v xs.length (b4 xs)
theorem qX.keep{L:ah az}{bN:J}{f:aa}{v:ay}{xs:ah aC}(h:qX L bN f v xs w)(hk:Keeps aG w w'):qX L bN f v xs w':=by
 have⟨base,a⟩:=h.row;exact⟨h.sep.keep hk,hk.heap h.bN id,base,b5 a hk (λ_ _=>id)⟩
def Ig(c:az.kinds eK∈R)(h:fy w b q o sd m R){n:J}{base:J}{v:ay}{xs:ah aC}(aU:w.ownsRow base 45 9 v xs.length (b4 xs))(au:eL n xs)(now:aa)(y:(n:aa)<=now/\now<=1000000)(aS:q.1.ld.hd=false)(an:q.1.ld.aP<n)(av:ki q.1)(u:hJ q.1.ld.bc)(L:q.2.length<=50000):aA 139 #[b.p,o,aL #[I (n:aa),v],I now] w λe w'=>e=aY #[]/\fy w' b (jt now q (n,xs)) o sd m R:=by
 obtain⟨s,cs⟩:=q;obtain⟨d,cA,H⟩:=h;dsimp only at *;obtain⟨a,i⟩:=cT (bH b s d++az.out o cA sd m cs :: R);have k:=(bb w).alloc (af #[I (n:aa),v] 271);have B:qX a w.heap.size n v xs (w.alloc (af #[I (n:aa),v] 271)):=⟨by rw[i];exact H.keep k,aX w _,base,b5 aU k (λ_ _=>id)⟩;obtain⟨A,cap,rfl,_,_⟩:=cS aU;have j:∀ W,Sep W a->Sep W (bH b s d++az.out o cA sd m cs :: R):=λW h=>i▸h;have O:∀ x:bs (qX a w.heap.size n (aq A xs.length cap) xs),x.to.cell? (ae b.p 2 ad)=some (.pointer (some (ae b.lb 0 ad))):=λx=>tV (j _ x.held.sep);have P:=λx:bs (qX a w.heap.size n (aq A xs.length cap) xs)=>aO x.held.bN;have C:=ag (λ(W:aj) (t:qX a w.heap.size n (aq A xs.length cap) xs W)=>by
  obtain⟨base,M⟩:=t.row;have h1:=j _ t.sep;exact TG (ni h1) aS M au U y an)
 have E:(kS s.ld n xs now).length<=320:=by
  have h1:=(ni H).cv;have h2:=au.2.1;have r:=Dc s.ld.most now (e_ s.ld.bc (gp xs (gw s.ld.bc n))) xs;have N:(im xs (gw s.ld.bc n)).length<=s.ld.bc.length:=by
   exact OJ
  unfold kS;rw[cx];omega
 have f:=bW av (bD (Lh u au U y) (show cs.length+(kS s.ld n xs now).length<=100000 by omega));clear H aU au aS an av u L k i E
 go_in
 go_wp2_with fail;have g:=B.keep (bb _).drew;refine cJ 13 ?_;refine cK (qX a w.heap.size n (aq A xs.length cap) xs) (.range 7) 6 7 ?_;refine dK (g) (.range 7) 0 ?_;refine lZ ?_;refine cK (n3) [7,8,9,10,11,12] 0 6 ?_;refine eH 7 λK c=>?_;go_simp;refine(C.o _ g).mono ?_;rintro e ao ⟨vl,jT,rfl,G,D,F⟩;refine c _ _ (lM _) ?_;clear c K;refine dK (lM ao) [8,9,10,11,12] 0 ?_;refine ox ?_;have z:=ag (BU c (q:=({s with ld:=pC s.ld n xs},cs)) (l:=kS s.ld n xs now) (vl:=vl) (b:=b) (o:=o) (sd:=sd) (m:=m) (R:=R) ⟨_,cA,(BL (j _ g.sep) D G F).rj⟩ (f.out.1.same rfl) f.out.2.1 (by show cs.length+_<=_;have:=f.out.2.2;omega));go_wp2_with fail;refine aW z.o λbq r=>?_;go_wp2_with fail;go_end0;exact⟨rfl,r⟩
end
section
open Go.Maps
variable{eK:Old}{w w':aj}{b:gk}{s:bM}{R:ah az}{d:gG}{q:cq}{o:J}{sd:ay}{m:a1}
def Rt(M:ah (aa×aa))(f:aa):hO (mP M) f=(lV M f).map λv=>aR v:=by
 unfold hO lV mP;rw[find?_map,Ew,Ew];rfl
def G_(M:ah (aa×aa))(f:aa):kE (mP M) f=mP (lQ M f):=by
 unfold kE lQ mP;rw[rQ];rfl
def Vx(M:ah (aa×aa))(f v:aa):lr (mP M) f (aR v)=mP (rn M f v):=by
 unfold lr rn;rw[G_];unfold mP;rw[jx];rfl
def G6(M:ah (aa×aa))(f:aa):∀ p∈lQ M f,p∈M:=λ_ au=>(fx.1 au).1
def W2(w:aj):(zeroValue 22).run prog w=.ok (aR 0) w:=aI
namespace IsSm
variable{B:J}{M:ah (aa×aa)}
def gn(h:IsSm w B M):M.length<=2147483648:=by
 have:=Bt 2147483648 ((mP M).map Prod.fst) (vc.2 h.1.p7) λx b=>by
  obtain⟨p,au,rfl⟩:=e9.1 b;obtain⟨c,a,rfl⟩:=e9.1 au
  have:=h.2 c a
  simp only;omega
 simpa[mP]using this
theorem ok{f:aa}(a:-4294967296<=f/\f<4294967296):sq.ok f:=wf_i64 U
theorem look(h:IsSm w B M)(f:aa)(a:0<=f/\f<2147483648):(Instr.lookup 110 (.map (some B)) (I f) true).run prog w=.ok (aY #[aR ((lV M f).getD 0),.bool (lV M f).isSome]) w:=by
 have:=h.1.look ua (x:=f) (ok U) underlying110 W2
 rw[Rt]at this;refine this.trans ?_;cases lV M f<;>rfl
def put(h:IsSm w B M)(f v:aa)(b:0<=f/\f<2147483648):∃ w',(Instr.mapUpdate 110 (.map (some B)) (I f) (aR v)).run prog w=.ok () w'/\IsSm w' B (rn M f v)/\Keeps (λj=>j=B) w w':=by
 have c:=h.gn;obtain⟨aD,h1,h2,a⟩:=h.1.store ua (x:=f) (ok U) underlying110 (by unfold mP;rw[hG];unfold maxLen;omega) (aR v);rw[Vx]at h2;refine⟨aD,h1,⟨h2,λp au=>?_⟩,a⟩;rcases eJ.1 au with au|au
 .exact h.2 p (G6 _ _ p au)
 rw[gC.1 au];exact b
def del(h:IsSm w B M)(f:aa)(b:-4294967296<=f/\f<4294967296)(ty:TypeId):∃ w',(Builtin.delete_ #[110,3] ty #[.map (some B),I f]).run prog w=.ok (aY #[]) w'/\IsSm w' B (lQ M f)/\Keeps (λj=>j=B) w w':=by
 have⟨aD,h1,h2,a⟩:=h.1.drop ua (x:=f) (ok U) underlying110 ty;rw[G_]at h2;exact⟨aD,h1,⟨h2,λp au=>h.2 p (G6 _ _ p au)⟩,a⟩
theorem len(h:IsSm w B M)(ty:TypeId):(Builtin.len_ #[110] ty #[.map (some B)]).run prog w=.ok (I M.length) w:=by
 have:=h.1.len underlying110 ty
 unfold mP at this
 rwa [hG]at this
end IsSm
def Ic(B:az.kinds eK∈R)(h:fy w b q o sd m R)(av:ki q.1)(D:hJ q.1.ld.bc)(E:q.2.length<=90000)(f v:aa)(l:0<=f/\f<2147483648):aA 104 #[b.p,o,I f,aR v] w λe w'=>e=aY #[]/\fy w' b (iu f v q) o sd m R:=by
 have⟨s,cs⟩:=q;have k:=h;have⟨d,cA,H⟩:=h;have ek:=BE H;have a:=(BK H).look f l;unfold iu;dsimp only at *;cases n:lV s.own f with
 | some u=>
  rw[n]at a;simp only[ib,pM]at a;dsimp only;by_cases i:u=v
  .subst i;rw[aE rfl];have j:=ag k;have hd:=ei (rfl:u=u)
   go_in
   go_wp2_with refine lC a rfl rfl rfl rfl ?_
   refine c1 (v:=aY #[]) (by simp[results,results104]) rfl ?_;exact⟨rfl,j.o⟩
  rw[aB i];have A:=ag (BW B k av D E 13);have z:=eA.2 i;have K:=An.2 i;have L:decide (u=v)=false:=di i
  go_in
  go_wp2_with refine lC a rfl rfl rfl rfl ?_
  refine aW A.o λaD h2=>?_;go_wp2_with fail;refine c1 (v:=aY #[]) (by simp[results,results104]) rfl ?_;exact⟨rfl,h2⟩
 | none=>
  rw[n]at a;simp only[pL,o0]at a;dsimp only;have c2:=BF H;have bw:=tV H;have g:=(v_ H).look f l;have aV:=ag (wu (ni H));have t:=(v_ H).len 3;have M:=(ni H).c0;have⟨N,G,F,C⟩:=(v_ H).put f v l;have y:=ag (HT (s:=s) H F C);have j:=ag k;have z:IntKind.i64.wrap (s.ld.aP+1)=s.ld.aP+1:=eG _ U;generalize s.ld.aP=c0 at *;by_cases h1:c0+1<f
  .have d1:decide (c0+1<f)=true:=ei h1;have x:decide (f>c0+1)=true:=ei h1;cases r:lV s.wt f with
   | some u=>
    rw[r]at g;simp only[ib,pM]at g;rw[aB (λc=>by simp at c)]
    go_in
    exact N6
   | none=>
    rw[r]at g;simp only[pL,o0]at g;by_cases h2:s.wt.length<8
    .have d2:decide ((s.wt.length:aa)<8)=true:=ei U;rw[aE ⟨h1,rfl,h2⟩]
     go_in
     go_wp2_with first|refine lC a rfl rfl rfl rfl ?_|refine lC g rfl rfl rfl rfl ?_
     refine bE aV.out ?_;go_wp2_with first|refine LS t rfl rfl rfl ?_|refine zK G rfl rfl rfl rfl rfl ?_
     go_end0;exact⟨rfl,_,_,y.out⟩
    have d2:decide ((s.wt.length:aa)<8)=false:=di U;rw[aB (λc=>h2 c.2.2)]
    go_in
    go_wp2_with first|refine lC a rfl rfl rfl rfl ?_|refine lC g rfl rfl rfl rfl ?_
    refine bE aV.out ?_;go_wp2_with refine LS t rfl rfl rfl ?_
    go_end0;exact⟨rfl,j.out⟩
  have d1:decide (c0+1<f)=false:=di h1;have x:decide (f>c0+1)=false:=di h1;rw[aB (λc=>h1 c.1)]
  go_in
  exact N6
end
section
open Go.Maps
variable{eK:Old}{w w':aj}{b:gk}{s:bM}{R:ah az}{d:gG}{q:cq}{o:J}{sd:ay}{m:a1}
structure vL(x:ct)(f:J):al where
 L:hb x.L (f:aa)=some (hg x f)
 wf:tA (hg x f)
 rt:lv (hg x f)=true
 len:(mJ (hg x f)).length<=100000
 top:f<=1000000
def Su(Y:az.kinds eK∈R)(h:fy w b q o sd m R)(av:ki q.1)(A:hJ q.1.ld.bc)(C:q.2.length<=90000)(f:J)(c:vL q.1.x f):aA 148 #[b.p,o,I (f:aa)] w λe w'=>e=aY #[]/\fy w' b (js f q) o sd m R:=by
 obtain⟨s,cs⟩:=q;obtain⟨d,cA,H⟩:=h;dsimp only at *;have bz:=lW H;have ar:=ag (Qh (hq H) f (by have:=c.top;omega) _ c.L c.wf c.rt c.len);have fr:f<=1000000:=c.top;have a':IntKind.i64.wrap ((f:aa)-128)=(f:aa)-128:=eG _ U;obtain⟨iK,n⟩:∃ iK,iK=jb (hg s.x f):=⟨_,rfl⟩;have D:sC s f={s with own:=lQ (rn s.own f iK) ((f:aa)-128),aF:=l9 s.aF f iK}:=by rw[n];rfl
 have j:=ag (bD av (bD A C));have r:=ag H;obtain⟨k,l⟩:∃ k,k=lV s.wt f:=⟨_,rfl⟩;unfold js;dsimp only;rw[D,<-l];have S:=ag l;rw[<-n]at ar;clear H av A C c D n l
 go_in
 go_wp2_with fail;refine ar.o.mono ?_;rintro e ao ⟨rfl,M⟩;have h1:=r.out.keep M;have ek:=BE h1;obtain⟨aD,K,E,N⟩:=(BK h1).put f iK U;have h2:=HS h1 E N;have V:=BE h2;obtain⟨bq,z,F,O⟩:=(BK h2).del ((f:aa)-128) U 0;have i:=HS h2 F O;have T:=pf i;have y:=ag (TV (nj i) f iK);have t:=ag i;clear h1 h2 i M N O E F r ar;go_wp2_with first|refine zK K rfl rfl rfl rfl rfl ?_|refine w0 z rfl rfl rfl rfl ?_
 refine y.o.mono ?_;rintro e gf ⟨rfl,B,cP⟩;have a:=yr t.out B cP;have c2:=BF a;have g:=(v_ a).look f U;clear B cP t y K z bz ek V T;rw[<-S.out]at g;cases k with
 | none=>
  simp only[pL,o0]at g;have Q:=ag a;clear a;go_wp2_with refine lC g rfl rfl rfl rfl ?_
  go_end0;exact⟨rfl,_,_,Q.o⟩
 | some u=>
  simp only[ib,pM]at g;obtain⟨g',Z,G,P⟩:=(v_ a).del f U 0;have v:=HT a G P;have X:=ag (Ic Y (q:=({s with own:=lQ (rn s.own f iK) ((f:aa)-128),aF:=l9 s.aF f iK,wt:=lQ s.wt f},cs)) ⟨_,_,v⟩ (j.out.1.same rfl) j.out.2.1 j.out.2.2 f u U);have ab:=BF a;clear a v G P;go_wp2_with first|refine lC g rfl rfl rfl rfl ?_|refine w0 Z rfl rfl rfl rfl ?_
  refine X.o.mono ?_;rintro e hd ⟨rfl,W⟩;go_wp2_with fail;go_end0;exact⟨rfl,W⟩
end
section
open Go.Maps
variable{eK:Old}{w w':aj}{b:gk}{s:bM}{R:ah az}{d:gG}{q:cq}{o:J}{sd:ay}{m:a1}
def Sv(j:az.kinds eK∈R)(h:fy w b q o sd m R)(t:hM q.1.x q)(av:ki q.1)(Z:fM q.1.x=none)(T':q.2.length<=10000)(a':q.1.ld.aP<=900000/\c3 q.1.x<=q.1.ld.aP+100)(ar:∀ f:J,q.1.ld.aP+2<=f->(f:aa)<=c3 q.1.x+1->vL q.1.x f):aA 89 #[b.p,o] w λe w'=>e=aY #[]/\fy w' b (j9 q) o sd m R:=by
 have⟨x,fr⟩:=cT q.1.x;rw[<-fr]at t Z a' ar;have E:=bW h (bD t (bD av fr));have L:=bW Z (bD a' (bD ar T'));clear h t av Z a' ar T' fr
 go_in
 go_wp2_with fail;go_loopg [4,5,6] (c3 x-q.1.ld.aP).toNat (λg l e n wr=>∃ (p:cq) (k:J),g=k/\fc k p=j9 q/\fy wr b p o sd m R/\hM x p/\c3 x<=p.1.ld.aP+k/\q.1.ld.aP<=p.1.ld.aP/\p.1.ld.aP+k<=990000/\p.2.length+320*k<=60000)
 case atStart=>
  have h1:=L.o.2.1;have h2:=L.o.2.2.2;have y:(c3 x-q.1.ld.aP).toNat<=100:=U;refine⟨q,_,rfl,?_,E.o.1,E.o.2.1,U,jw _,?_,U⟩
  .unfold j9;rw[<-E.o.2.2.2]
  omega
 have⟨p,k,aZ,aK,aax,t,hk,CW,Q',Tq⟩:=hrel;have⟨s,cs⟩:=p;dsimp only at *;have G:=t.x;have O:=t.aP;have zd:=E.o.2.2.1.same (G.trans E.o.2.2.2);have⟨d,cA,H⟩:=aax;have⟨a,X⟩:=cT (bH b s d++az.out o cA sd m cs :: R);have C:∀ W,Sep W a->Sep W (bH b s d++az.out o cA sd m cs :: R):=λW h=>X▸h;have r:Sep wr.drew a:=by rw[X];exact H.drew 1
 have P:∀ x:bs (λW=>Sep W a),x.to.cell? (ae b.p 9 ad)=some (.bool s.cc):=λx=>p' (C _ x.held);have gf:∀ x:bs (λW=>Sep W a),x.to.cell? (ae b.p 2 ad)=some (.pointer (some (ae b.lb 0 ad))):=λx=>tV (C _ x.held);have g':∀ x:bs (λW=>Sep W a),x.to.cell? (ae b.p 0 ad)=some (.pointer (some (ae b.c.c 0 ad))):=λx=>lW (C _ x.held);have aV:=ag (λ(W:aj) (F:Sep W a)=>wu (ni (C _ F)));have ar:=ag (λ(W:aj) (F:Sep W a)=>x5 (hq (C _ F)) (by rw[G];exact L.o.1));have V':c3 s.x=c3 x:=by rw[G]
 rw[V']at ar;have i:=bW t (bD zd (bD aK (bD hk (bD CW (bD Q' Tq)))));have S:=ag G;have M:=ag C;clear t zd aK hk CW Q' Tq X H G V' C;go_wp2_with fail;cases aS:s.cc with
 | true=>
  rw[aS]at P;have hfin:=show fc k (s,cs)=(s,cs)by cases k with|zero=>rfl|succ k=>unfold fc;rw[aE (.inl aS)]
  have Q:=ag (show fy wr.drew b (j9 q) o sd m R by rw[<-i.out.2.2.1,hfin];exact⟨d,cA,M.out _ r⟩);clear aS aV ar gf g' hfin;refine cJ 20 ?_;have hne:Nonempty (bs ((λW=>Sep W a))):=⟨⟨_,r⟩⟩;refine uN ((λW=>Sep W a)) (r) [0,1,2,3,4,5,6,7,8,9,10,12,13,14,15,16] [11,17] 2 rfl #[true,true,true,true,true,true,true,true,true,true,true,true,true,true,true,true,true,true,false,false] aI aI (λ_ _ _ d _ h=>th) ?_;simp only[eQ,jQ,lG,hr]
  repeat (go_big_quiet_step (fail))
  refine wpQuiet_nil ?_;refine IZ vp ?_;refine IZ vp ?_;refine hQ ?_;simp only[Act.put,c8];have hne:Nonempty (bs ((λW=>Sep W a))):=⟨⟨_,r⟩⟩;refine uN ((λW=>Sep W a)) (r) [18,19] [] 0 rfl #[true,true,true,true,true,true,true,true,true,true,true,true,true,true,true,true,true,true,true,true] aI aI (λ_ _ _ d _ h=>th) ?_;simp only[eQ,jQ,lG,hr]
  repeat (go_big_quiet_step (fail))
  refine wpQuiet_nil ?_;refine hQ ?_;refine iI ?_;clear r P;go_wp2_with fail;go_end0;exact⟨rfl,Q.o⟩
 | false=>
  rw[aS]at P;have ps:=ag aS;clear aS;refine cJ 20 ?_;have hne:Nonempty (bs ((λW=>Sep W a))):=⟨⟨_,r⟩⟩;refine uN ((λW=>Sep W a)) (r) [0,1,2,3,4,5,6,7,8,9,10,12,13,14,15,16] [11,17] 2 rfl #[true,true,true,true,true,true,true,true,true,true,true,true,true,true,true,true,true,true,false,false] aI aI (λ_ _ _ d _ h=>th) ?_;simp only[eQ,jQ,lG,hr]
  repeat (go_big_quiet_step (fail))
  refine wpQuiet_nil ?_;refine gu λK j=>?_;go_simp;refine bE (aV.out _ r) ?_;refine j _ _ (j2 (r)) ?_;clear j K;refine ko λK j=>?_;go_simp;refine aW (ar.out _ r) λao aas=>?_;have z:=r.keep aas;refine j _ _ (j2 (z)) ?_;clear j K;have hne:Nonempty (bs ((λW=>Sep W a))):=⟨⟨_,z⟩⟩;refine uN ((λW=>Sep W a)) (z) [18,19] [] 0 rfl #[true,true,true,true,true,true,true,true,true,true,true,true,true,true,true,true,true,true,true,true] aI aI (λ_ _ _ d _ h=>th) ?_;simp only[eQ,jQ,lG,hr]
  repeat (go_big_quiet_step (fail))
  refine wpQuiet_nil ?_;refine hQ ?_;refine iI ?_;clear r aas P;by_cases D:s.ld.aP<c3 x;rotate_left
  .have hfin:=show fc k (s,cs)=(s,cs)by cases k with|zero=>rfl|succ k=>unfold fc;rw[aE (.inr (by show c3 s.x<=s.ld.aP;rw[S.out];omega))]
   have Q:=ag (show fy ao b (j9 q) o sd m R by rw[<-i.out.2.2.1,hfin];exact⟨d,cA,M.out _ z⟩);have aay:=di D;clear hfin z aV ar gf g';go_wp2_with fail;go_end0;exact⟨rfl,Q.o⟩
  have aay:=ei D;obtain⟨k,rfl⟩:∃ aau,k=aau+1:=⟨k-1,by have:=i.out.2.2.2.1;omega⟩;have W':fc (k+1) (s,cs)=fc k (eR (s,cs)):=by
   show(if s.cc=true\/c3 s.x<=s.ld.aP then(s,cs)else fc k (eR (s,cs)))=_;rw[aB (by rw[ps.o,S.out];simp;omega)]
  have aaq:=i.out.1.step;have ys:=i.out.1.hd.trans ps.o;have Y:=i.out.2.2.2.2.2.1;have B:Sep ao.drew a:=z.drew 1;have aaA:IntKind.i64.wrap (s.ld.aP+1)=s.ld.aP+1:=eG _ U;have s':=ag (λ(W:aj) (F:Sep W a)=>TE (ni (M.out _ F)) ys (s.ld.aP+1) rfl U);have v:=bW W' (bD aaq (bD Y O));clear W' aaq ys z Y;go_wp2_with fail;refine cJ 18 ?_;refine cK ((λW=>Sep W a)) (.range 12) 6 12 ?_;refine dK (B) (.range 10) 2 ?_;refine eH 10 λK j=>?_;go_simp;refine bE (aV.out _ B) ?_;refine j _ _ (B) ?_;clear j K;refine dK (B) [11] 0 ?_;refine lZ ?_;refine cK (n3) [12,13,14,15,16,17] 0 6 ?_;refine eH 12 λK j=>?_;go_simp;refine(s'.o _ B).mono ?_;rintro e bq ⟨vl,jT,rfl,ab,Aw,TS⟩;refine j _ _ (lM _) ?_;clear j K;refine dK (lM bq) [13,14,15,16,17] 0 ?_;refine ox ?_;have St:(h4 s.ld (s.ld.aP+1)).length<=64:=by
   have h1:=GI s.ld.bc (s.ld.b9 (s.ld.aP+1));have h2:(s.ld.b9 (s.ld.aP+1)).length<=64:=(i.out.1.b9 (s.ld.aP+1)).2;unfold h4;omega
  have v':=ag (BU j (q:=({s with ld:=jX s.ld (s.ld.aP+1)},cs)) (l:=h4 s.ld (s.ld.aP+1)) (vl:=vl) (b:=b) (o:=o) (sd:=sd) (m:=m) (R:=R) ⟨_,cA,(BL (M.out _ B) Aw ab TS).rj⟩ (i.out.2.1.same rfl) (GH (i.out.1.b9 _).1) (by show cs.length+_<=_;have:=i.out.2.2.2.2.2.2;omega));obtain⟨A,cap,rfl,_,_⟩:=cS ab;clear B Aw ab TS s' aV ar gf g';go_wp2_with fail;refine aW v'.o λl' y=>?_;have m':=ag y;obtain⟨d4,v4,y⟩:=y;have bw:=tV y;have r':Hid (aA 17 #[b.lb] l' λe w'=>e=.returned (I (s.ld.aP+1))/\l'=w'):=ag (wu (ni y));have O:=v.out.2.2.2;have Y:=v.out.2.2.1;have aaB:IntKind.i64.wrap (s.ld.aP+1+1)=s.ld.aP+2:=by rw[show s.ld.aP+1+1=s.ld.aP+2 by omega];exact eG _ U
  have N:Int.tmod (s.ld.aP+2) 16=(s.ld.aP+2)%16:=oS U;clear y v';by_cases u:(s.ld.aP+2)%16=0
  .have aar:(((s.ld.aP+2).toNat:J):aa)=s.ld.aP+2:=U
   have zp:=ag (Su j m'.o (i.out.2.1.same rfl) (i.out.1.bc.GG _) (by show(cs++h4 s.ld (s.ld.aP+1)).length<=_;rw[cx];have:=i.out.2.2.2.2.2.2;omega) (s.ld.aP+2).toNat (by
    show vL s.x _;rw[S.out];exact L.out.2.2.1 _ (by have:=i.out.2.2.2.2.1;omega) U))
   rw[aar]at zp;have T:=ag (show eR (s,cs)=js (s.ld.aP+2).toNat ({s with ld:=jX s.ld (s.ld.aP+1)},cs++h4 s.ld (s.ld.aP+1))by unfold eR;dsimp only;rw[aE u]);have aav:(Int.tmod (s.ld.aP+2) 16 == 0)=true:=by rw[N,u];rfl
   have aaw:((s.ld.aP+2)%16 == 0)=true:=by rw[u];rfl
   have aaz:=D;clear N u aar St O D;go_wp2_with fail;refine bE r'.o ?_;go_wp2_with fail;refine aW zp.o λaaC V=>?_;rw[<-T.o]at V;have aat:=ag V;clear V;exact Nw
  have T:=ag (show eR (s,cs)=({s with ld:=jX s.ld (s.ld.aP+1)},cs++h4 s.ld (s.ld.aP+1))by unfold eR;dsimp only;rw[aB u]);have aav:(Int.tmod (s.ld.aP+2) 16 == 0)=false:=by rw[N];simpa using u
  have aaw:((s.ld.aP+2)%16 == 0)=false:=by simpa using u
  have aaz:=D;clear N u St O D;go_wp2_with fail;refine bE r'.o ?_;have aat:=ag (show fy l' b (eR (s,cs)) o sd m R by rw[T.o];exact m'.o);exact Nw
end
def T_{c f r:aa}{v:J->aa}(h:Mid c f r v):∀ k,k<2->bm (v (4+10*k))/\bm (v (4+10*k+1)):=λk hk=>by
 have p:=h.pl (4+10*k) (by unfold ey;omega);have a:=p.x;have b:=p.y;unfold bm;simp only[rV]at a;omega
def b8.pt{s:bM}{F:J}{ba us:J->J->aa}(h:b8 s F ba us):ki s:=by
 have⟨r,hm,_⟩:=sF us h.aJ s.x.now;exact⟨_,h.hN.st h.jf.1 bx,T_ hm⟩
def b8.YC{s:bM}{F:J}{ba us:J->J->aa}(h:b8 s F ba us)(b:s.x.now<=1000000)(f:J)(h1:F<=f)(h2:f<=s.x.now):vL s.x f:=by
 have⟨r,hm,a⟩:=sF us h.aJ f;have e:=h.hN.hg h1 h2;have⟨s1,s2,gy⟩:=hm.YG U a;exact⟨by rw[e];exact h.hN.st h1 h2,by rw[e];exact s1,by rw[e];exact s2,by rw[e];exact gy,U⟩
structure o8(s:bM)(k:J)(p:cq):al where
 rest:p.1={s with ld:=p.1.ld}
 aP:p.1.ld.aP=s.ld.aP
 hd:p.1.ld.hd=s.ld.hd
 dz:ev p.1.ld.bc
 bc:hJ p.1.ld.bc
 ll:(p.1.ld.bc.length:aa)<=p.1.ld.most/\p.1.ld.most<=256
 len:p.2.length<=320*k
def Lg{s:cO}(h:s.bc.length<=256){fr now:aa}{xs:ah aC}(c:xs.length<=64):(kS s fr xs now).length<=320:=by
 have a:=Dc s.most now (e_ s.bc (gp xs (gw s.bc fr))) xs;have b:(im xs (gw s.bc fr)).length<=s.bc.length:=by
  exact OJ
 unfold kS;rw[cx];omega
def o8.step{s:bM}{k:J}{p:cq}(h:o8 s k p){n:J}{xs:ah aC}(a:eL n xs)(now:aa):o8 s (k+1) (jt now p (n,xs)):=by
 have c:=h.ll;have h1:=Lg (s:=p.1.ld) (fr:=n) (now:=now) U a.2.1;refine⟨c5 (λq:bM=>{q with ld:=pC p.1.ld n xs}) h.rest,h.aP,h.hd,?_,h.bc.tell (λe b=>(a.2.2 e b).1) h.dz,⟨?_,c.2⟩,?_⟩
 .exact(zu (most:=p.1.ld.most) (now:=0) (p6 h.dz _) xs).1
 .have hd:=(q7 p.1.ld.bc (gp xs (gw p.1.ld.bc (n:aa)))).length_le;exact K6 (p6 h.dz _) (show(((e_ p.1.ld.bc (gp xs (gw p.1.ld.bc (n:aa)))).length:J):aa)<=p.1.ld.most by omega) xs
 have:=h.len
 show(p.2++kS p.1.ld n xs now).length<=_;rw[cx];omega
section
open Go.Maps
variable{w w':aj}{b:gk}{s:bM}{R A:ah az}{d:gG}{q:cq}{o:J}{sd:ay}{m:a1}{F:J}{ba us:J->J->aa}
def OU(w:aj)(v:ay)(ps:ah fz):al:=w.ownsRow 0 271 2 v ps.length (rowP ps)/\∀ p∈ps,w.ownsRow 0 45 9 p.cQ p.xs.length (b4 p.xs)
def az.lp(v:ay)(ps:ah fz):az where
 S j:=v.ownBlock=some j\/∃ p∈ps,p.cQ.ownBlock=some j
 P w:=OU w v ps
 lt h a:=by
  rcases a with a|⟨p,au,a⟩
  .exact mH h.1 a
  .exact mH (h.2 p au) a
 frame h hk aw:=⟨b5 h.1 hk λj a=>aw j (.inl a),λp au=>b5 (h.2 p au) hk λj a=>aw j (.inr ⟨p,au,a⟩)⟩
structure OZ(s:bM)(ee:ct)(ps:ah fz):al where
 now:ee.now=s.x.now
 eq:cL s=(ps.map fz.key).foldl (jt s.x.now) ({s with x:=ee},[])
 ok:∀ p∈ps,eL p.n p.xs/\s.ld.aP<p.n/\p.n<=s.x.now
 gn:ps.length<=64
def Sp(h:Sep w (bH b s d++A))(au:b8 s F ba us)(B:s.x.now<=100000):aA 138 #[b.c.c] w λe w'=>∃ ee ps i cap,e=aY #[aq i ps.length cap,I 0]/\OZ s ee ps/\Sep w' (az.lp (aq i ps.length cap) ps :: (bH b {s with x:=ee} d++A)):=by
 cases hw:fM s.x with
 | none=>
  refine aW (Qe (hq h) hw) λao r=>?_;refine⟨s.x,[],none,0,rfl,⟨rfl,by unfold cL;rw[hw];rfl,λp au=>(by cases au),aM⟩,?_⟩;have av:(az.lp (aq none 0 0) []).P ao:=⟨gx _ _ _ _,λp au=>by cases au⟩;exact(h.keep r).cons (bb ao) (λ_ _ _ _=>id) av (λj a=>by rcases a with a|⟨p,au,_⟩;cases a;cases au)
 | some g=>
  have⟨g1,D,E,G,v⟩:=au.hN.zM au.aN au.jf.1 hw;have L:s.ld.aP<g:=by
   rcases Int.lt_or_le s.ld.aP g with c|c
   .exact c
   exact absurd (au.sW g (.inr c)) v
  have H:=au.jf;have K:=au.my;obtain⟨_,_,_,_,u,_⟩:=sD s.x g (s.x.now-g);refine(Qd (hq h) hw U (λk hk=>PO au.hN au.aJ au.eD g1 U B k hk) U).mono ?_;rintro e ao ⟨ps,i,cap,rfl,m,l,o,an,r⟩;have M:ps.length=s.x.now-g:=by rw[<-hG (f:=fz.key),l];unfold mK;simp
  refine⟨_,ps,i,cap,rfl,⟨u,?_,λp z=>?_,U⟩,?_⟩
  .unfold cL;rw[hw,l]
  .have hm:p.key∈mK s.x g (s.x.now-g):=by rw[<-l];exact e9.2 ⟨p,z,rfl⟩
   have⟨j,a,t⟩:=e9.1 hm;have a:=pI.1 a;have av:p.n=g+j:=(c5 Prod.fst t).symm;have C:p.xs=fJ (jK s.x ba us g s.x.now) s.x.aJ (g+j):=by rw[<-y0 au.hN g1 U j U];exact(c5 Prod.snd t).symm
   exact⟨by rw[av,C];exact oi _ au.aJ _,U,U⟩
  exact h.zn 1 (r':=az.core b.c (replay s.x g (s.x.now-g))) (q:=az.lp (aq i ps.length cap) ps) rfl r (λ_ _ h=>h) an (λ_ h=>.inl h) ⟨kQ m (de _),λp au=>kQ (o p au) (de _)⟩ (λj a=>by
   rcases a with a|⟨p,au,a⟩
   .exact(m.lt j a).1
   .exact((o p au).lt j a).1) (λj a y=>by
   have h1:=(hq h).lt y;rcases a with a|⟨p,au,a⟩
   .have:=(m.lt j a).1;omega
   .have:=((o p au).lt j a).1;omega)
end
section
open Go.Maps
variable{eK:Old}{w w':aj}{b:gk}{s:bM}{R:ah az}{o:J}{sd:ay}{m:a1}{F:J}{ba us:J->J->aa}
def mS(s:bM)(ee:ct)(now:aa)(ps:ah fz):cq:=(ps.map fz.key).foldl (jt now) ({s with x:=ee},[])
def YR(s:bM)(ee:ct)(now:aa)(ps:ah fz)(p:fz):mS s ee now (ps++[p])=jt now (mS s ee now ps) (p.n,p.xs):=by
 unfold mS;rw[jx,xi,Bx];rfl
def WA(w:aj):(Instr.alloc 271 true (aY #[])).run prog w=.ok w.heap.size (w.alloc (af #[I 0,aq none 0 0] 271)):=aI
structure FT(L:ah az)(ux n:J)(cQ:ay)(W:aj):al where
 sep:Sep W L
 box:W.heap[ux]?=some (af #[I (n:aa),cQ] 271 (0,0))
def Ss(a:az.kinds eK∈R)(h:fy w b (s,[]) o sd m R)(au:b8 s F ba us)(aaS:s.x.now<=100000)(aS:s.ld.hd=false):aA 86 #[b.p,o] w λe w'=>e=aY #[]/\fy w' b (cL s) o sd m R:=by
 have⟨d,cA,H⟩:=h;have⟨v,aaF,aU⟩:=au.pt;have aaH:=ag (BX H v aaF);have aax:=ag H;have M:=bW au (bD aaS (bD aU aS));have a:=ag a;clear H aaF aU au aaS aS
 go_in
 go_wp2_with fail;refine aW aaH.o λao aaW=>?_;go_wp2_with fail;refine(Lo v M.o.2.2.1 _).mono ?_;rintro e aD ⟨⟨c,rfl,V',aaP,aaQ⟩,aaM⟩;have aay:=aax.out.keep (aaW.fT aaM);have lb:=CT aD;have O:=aX aD (af jS 264);obtain⟨y,_,Z⟩:=dQ (aD.alloc (af jS 264)) 264 26 aD.heap.size c _ sizeOf264 V' rfl O (fw.2 aaP);have aas:=fb (aD.alloc (af jS 264)) aD.heap.size _ c 264 O;have aav:=cN ((bb aD).alloc (af jS 264)) Z a8;generalize (aD.alloc (af jS 264)).setRow aD.heap.size c=bq at y aas aav;generalize aD.alloc (af jS 264)=abj at lb y;obtain⟨dR,aat⟩:=cT aD.heap.size;have zd:=(aay.cons (r:=az.bd dR (c,264)) aav (λ_ _ _ _=>id) (aat▸aas) (λj z=>by have z:j=dR:=z;omega)).rj;rw[<-aat]at lb y;have bz:=lW zd;have aaJ:=ag (Sp zd M.out.1 M.out.2.1);have zp:=bW V' aaQ;clear aay zd O Z aas aav aat aaH aax aaW aaM V' aaP aaQ;go_wp2_with first|refine dU lb rfl rfl ?_|refine c7 y rfl rfl rfl rfl ?_
 clear lb y;refine aaJ.o.mono ?_;rintro e vl ⟨ee,ps,ys,cap,rfl,r',fr⟩;have fr:=fr.rj;have Q:=M.out.1;have aaK:o8 {s with x:=ee} 0 (mS s ee s.x.now []):=⟨rfl,rfl,rfl,Q.dz,Q.po,⟨Q.ll,Q.most.2⟩,by show([]:ah bI).length<=_;simp⟩;have aaL:∀ (L:ah fz) (k:J) (Y:cq),Y.1.x=ee->((L.map fz.key).foldl (jt s.x.now) Y).1.x=ee:=by
  intro L
  induction L with
  | nil=>intro k Y h;exact h
  | cons p L aa8=>intro k Y h;exact aa8 k _ h
 obtain⟨cB,aaw,_⟩:=rp Q;have aaV:(cL s).1.x=ee:=by rw[r'.eq];exact aaL ps 0 _ rfl
 have gf:=bW (aaw.pt.same (s':={s with x:=ee}) aaV.symm) (bD zp.out.1 zp.out.2);have V:=bW r' (bD Q.aP (bD M.out.2.2.2 (bD M.out.2.1 r'.gn)));have v':=ag (bD fr aaK);clear aaJ fr r' Q aaK aaL aaw aaV M zp bz;simp only;go_wp2_with fail;go_loopg [23] ps.length (λg i wr=>∃ pre rest:ah fz,ps=pre++rest/\g=rest.length/\i=I pre.length/\o8 {s with x:=ee} pre.length (mS s ee s.x.now pre)/\∃ d cA,Sep wr (bH b (mS s ee s.x.now pre).1 d++az.out o cA sd m (mS s ee s.x.now pre).2 :: az.lp (aq ys ps.length cap) ps :: az.bd dR (c,264) :: R))
 case atStart=>exact⟨[],ps,rfl,rfl,rfl,v'.o.2,d,cA,v'.o.1⟩
 obtain⟨pre,rest,T,aZ,rfl,l,d,cA,D⟩:=hrel;clear v';cases rest with
 | nil=>
  obtain rfl:ps=pre:=by rw[T,eB]
  have abg:¬ (ps.length:aa)<(ps.length:aa):=U;clear T;by_cases abf:0<ps.length
  .have aa4:=ei U;have aa0:=ei U;have aaR:(mS s ee s.x.now ps).1.x=ee:=by rw[l.rest]
   have aa3:=gf.out.1.same aaR;have⟨v9,Q',aaT⟩:=aa3;have⟨f,S⟩:=cT (mS s ee s.x.now ps);rw[<-S]at D Q';have⟨B,N⟩:=cT (bH b f.1 d++az.out o cA sd m f.2 :: az.lp (aq ys ps.length cap) ps :: az.bd dR (c,264) :: R);have C:∀ W,Sep W B->Sep W (bH b f.1 d++az.out o cA sd m f.2 :: az.lp (aq ys ps.length cap) ps :: az.bd dR (c,264) :: R):=λW h=>N▸h;have E:Sep wr.drew B:=by rw[N];exact D.drew 1
   have abc:∀ t:bs (λW=>Sep W B),t.to.cell? (ae b.p 5 ad)=some (.pointer (some (ae b.ec 0 ad))):=λt=>HN (C _ t.held);have a':∀ W,(∃ t:bs (λW=>Sep W B),W=t.to)->(Instr.loadAt 264 dR).run prog W=.ok (.agg c) W:=λW ⟨t,aK⟩=>by
    rw[aK];have ak:=(C _ t.held).at' 11 rfl;exact gd (P:=prog) 264 26 dR 0 c c _ isAgg264 sizeOf264 gf.out.2.1 ak (λj u z=>ke)
   have aaI:=ag (λ(W:aj) (TS:Sep W B)=>BX (C _ TS) v9 Q');have aaz:=ag C;have aa2:=ag aaT;have aaA:=bW S gf.out.2.2;clear D aaR Q' N C aaT S l;go_wp2_with fail;refine cJ 11 ?_;refine cK ((λW=>Sep W B)) (.range 10) 1 10 ?_;refine qg (E) (.range 7) 3 λhne=>?_
   repeat (first|(refine jL a' rfl rfl rfl ?_;simp only[Act.put,c8])|go_big_quiet_step (fail))
   refine wpQuiet_nil ?_;clear hne;refine eH 7 λK a=>?_;go_simp;refine aW (aaI.o _ E) λabd aaX=>?_;have Aw:=E.keep aaX;refine a _ _ (Aw) ?_;clear a K;refine eH 8 λK a=>?_;go_simp;refine(Lo v9 aa2.o _).mono ?_;rintro e abl ⟨⟨ek,rfl,_,_,aaC⟩,aaN⟩;have CW:=Aw.keep (Keeps.bJ aaN a8);refine a _ _ (CW) ?_;clear a K;refine jG 9 λK a=>?_;go_simp;refine(Y8 aaA.out.2 aaC _).mono ?_;rintro e abm ⟨⟨aa9,aa_,aa',aba,aa5,rfl⟩,aaO⟩;have g':=CW.keep (Keeps.bJ aaO a8);refine a _ _ (g') ?_;clear a K;clear E Aw CW aaX aaN aaO aaC aaI abc a';have aaG:=ag (QE b.ec (HP (aaz.out _ g')) aa9 aa_ aa' aba aa5);refine cK (n3) [10] 0 1 ?_;refine kM 10 λK a=>?_;go_simp;refine aaG.o.mono ?_;rintro e abe ⟨⟨fI,rfl⟩,aaE,aaY⟩;refine a _ _ (lM _) ?_;clear a K;have aaZ:=ag (show fy abe b (mS s ee s.x.now ps) o sd m R from aaA.out.1▸⟨d,cA,(HQ (aaz.out _ g') aaE aaY).qx.qx⟩);clear g' aaE aaY aaG;exact M1
  have aa4:=di U;have aa0:=di U;have aaZ:=ag (show fy wr b (mS s ee s.x.now ps) o sd m R from⟨d,cA,D.qx.qx⟩);clear D l;exact M1
 | cons p rest=>
  have aa7:pre.length<ps.length:=by rw[T];simp
  have abh:(pre.length:aa)<(ps.length:aa):=U;have he:ps[pre.length]=p:=by simp[T]
  have aaq:p∈ps:=by rw[T];simp
  have l':=V.out.1.ok p aaq;have aaU:ps=(pre++[p])++rest:=by rw[T];simp
  have aa6:=aZ;simp only[dy]at aa6;have m':=D.at' 10 rfl;obtain⟨r,rfl⟩:=nw m'.1 U;have ab:=mM (P:=prog) (enc:=λp:fz=>[I (p.n:aa),p.cQ]) (λ_=>rfl) isAgg271 sizeOf271 m'.1 pre.length aa7;rw[he]at ab;have ab:=ab;have dp:=WA wr;have O:=aX wr (af #[I 0,aq none 0 0] 271);obtain⟨y,_,Z⟩:=dQ (wr.alloc (af #[I 0,aq none 0 0] 271)) 271 2 wr.heap.size #[I (p.n:aa),aq p.A p.xs.length p.cap] _ sizeOf271 rfl rfl O rfl;have T':=fb (wr.alloc (af #[I 0,aq none 0 0] 271)) wr.heap.size _ #[I (p.n:aa),aq p.A p.xs.length p.cap] 271 O;have cP:=cN ((bb wr).alloc (af #[I 0,aq none 0 0] 271)) Z a8;generalize (wr.alloc (af #[I 0,aq none 0 0] 271)).setRow wr.heap.size _=vl at y T' cP;generalize wr.alloc (af #[I 0,aq none 0 0] 271)=abk at dp y;obtain⟨f,S⟩:=cT (mS s ee s.x.now pre);rw[<-S]at D l;obtain⟨B,N⟩:=cT (bH b f.1 d++az.out o cA sd m f.2 :: az.lp (aq (some (ae r 0 ad)) ps.length cap) ps :: az.bd dR (c,264) :: R);have C:∀ W,Sep W B->Sep W (bH b f.1 d++az.out o cA sd m f.2 :: az.lp (aq (some (ae r 0 ad)) ps.length cap) ps :: az.bd dR (c,264) :: R):=λW h=>N▸h;obtain⟨ux,W'⟩:=cT wr.heap.size;have E:FT B ux p.n (aq p.A p.xs.length p.cap) vl.drew:=⟨by rw[N];exact(D.keep cP).drew 1,W'▸T'⟩;obtain⟨G,X⟩:=h0 (F:=λW=>FT B ux p.n (aq p.A p.xs.length p.cap) W);have Y:∀ t:bs G,t.to.cell? (ae b.p 0 ad)=some (.pointer (some (ae b.c.c 0 ad))):=λt=>lW (C _ ((X _).1 t.held).sep);have abb:=λx:bs G=>aO (((X _).1 x.held).box);have a':∀ W,(∃ t:bs G,W=t.to)->(Instr.loadAt 271 ux).run prog W=.ok (aL #[I (p.n:aa),aq p.A p.xs.length p.cap]) W:=λW ⟨t,aK⟩=>by
   rw[aK];exact gd (P:=prog) 271 2 ux 0 #[I (p.n:aa),aq p.A p.xs.length p.cap] #[I (p.n:aa),aq p.A p.xs.length p.cap] _ isAgg271 sizeOf271 rfl ((X _).1 t.held).box (λj u z=>ke)
  have h2:=(X _).2 E;have aau:f.1.x=ee:=by rw[l.rest]
  have aaD:Hid (∀ W,G W->aA 22 #[b.c.c] W λe w'=>e=.returned (I (s.x.now:aa))/\W=w'):=ag (λW TS=>by
   have h1:=tK (hq (C _ ((X W).1 TS).sep));rw[aau,V.out.1.now]at h1;exact h1)
  have Tq:=ag (Ig (w:=vl.drew) (b:=b) (q:=f) (o:=o) (sd:=sd) (m:=m) (R:=az.lp (aq (some (ae r 0 ad)) ps.length cap) ps :: az.bd dR (c,264) :: R) (kx _ (kx _ a.out)) ⟨d,cA,C _ E.sep⟩ (show vl.drew.ownsRow 0 45 9 (aq p.A p.xs.length p.cap) p.xs.length (b4 p.xs)from b5 (m'.2 p aaq) (cP.drew) (λ_ _=>id)) l'.1 (s.x.now:aa) ⟨U,by have:=V.out.2.2.2.1;omega⟩ (l.hd.trans V.out.2.2.1) (by rw[l.aP];exact l'.2.1) (gf.out.1.same aau) l.bc (by have:=l.len;have:=V.out.2.2.2.2;omega));have aar:jt s.x.now f (p.n,p.xs)=mS s ee s.x.now (pre++[p]):=by rw[YR,S]
  rw[aar]at Tq;have St:=l.step l'.1 s.x.now;rw[aar]at St;have ew:=bW St aaU;have abi:=V.out.2.2.2.2;rw[<-W']at dp y;clear D l T aZ he aaq l' aaU m' O Z T' cP S N C E X aau aar St W';go_wp2_with first|((with_reducible refine dn ab rfl rfl ?_ ?_);exact rfl)|refine dU dp rfl rfl ?_|refine c7 y rfl rfl rfl rfl ?_
  clear ab dp y;simp only[Act.put,c8];refine cJ 10 ?_;refine cK (G) (.range 9) 1 9 ?_;refine qg (h2) (.range 8) 1 λhne=>?_
  repeat (first|(refine jL a' rfl rfl rfl ?_;simp only[Act.put,c8])|go_big_quiet_step (fail))
  refine wpQuiet_nil ?_;clear hne;refine jG 8 λK a=>?_;go_simp;refine bE (aaD.o _ h2) ?_;refine a _ _ (h2) ?_;clear a K;clear Y abb a' h2 aaD;refine cK (n3) [9] 0 1 ?_;refine kM 9 λK a=>?_;go_simp;refine aW Tq.o ?_;rintro abd ⟨d5,v5,aaB⟩;refine a _ _ (lM _) ?_;clear a K;have aa1:=ag aaB;clear aaB Tq;go_wp2_with fail;go_roundg rest.length
  case measure=>omega
  exact⟨pre++[p],rest,ew.out.2,rfl,qO,by rw[cx,jd];exact ew.out.1,d5,v5,aa1.o⟩
end
section
open Go.Maps
variable{eK:Old}{w w':aj}{b:gk}{s:bM}{R:ah az}{d:gG}{q:cq}{o:J}{sd:ay}{m:a1}
structure FX(s:bM):al where
 cz:-1000<=s.cz/\s.cz<=1000
 oM:0<=s.aF.cf/\s.aF.cf<=1000000
 cp:0<=s.aF.da/\s.aF.da<=1000000
 hd:s.ld.hd=false
 aP:s.ld.aP<s.x.now
 no:fM s.x=none
 bc:hJ s.ld.bc
 now:ki s
 dl:s.x.eO<=1000
 d:(s.x.f s.x.aN).next<=s.x.now+s.x.eO
 dO:(s.x.f s.x.aN).next<1000000
 w:(s.x.f s.x.aN).first<=(s.x.f s.x.aN).next/\(s.x.f s.x.aN).next<(s.x.f s.x.aN).first+64
def yJ{w:aj}{b:gk}{q:cq}{o:J}{sd:ay}{R:ah az}{v:aT}(h:fy w b q o sd false R)(an:gm q.1=false):fy w b (eF v q) o sd (gm q.1) R:=by
 unfold eF;rw[an];exact h
def RU{p:cq}{v:ay}(h:Sep w (bH b p.1 d++az.out o v sd m p.2 :: R))(m':a1):Sep (w.setCell (ae o 2 ad) (.bool m')) (bH b p.1 d++az.out o v sd m' p.2 :: R):=by
 obtain⟨ak,c⟩:=kG h;have eU:=(Keeps.refl (λj=>j=o) w).setCell (p:=ae o 2 ad) rfl (.bool m');exact BM h ⟨by simpa using b3 ak 2 (.bool m'),b5 c eU (λj a e=>uw c (e▸ak) bt a)⟩ (eU.mono λ_ _ e=>.inl e) (λj a=>.inr (.inl a))
def RW{p:cq}{v:ay}(h:Sep w (bH b p.1 d++az.out o v sd m p.2 :: R))(sd':ay):Sep (w.setCell (ae o 1 ad) sd') (bH b p.1 d++az.out o v sd' m p.2 :: R):=by
 obtain⟨ak,c⟩:=kG h;have eU:=(Keeps.refl (λj=>j=o) w).setCell (p:=ae o 1 ad) rfl sd';exact BM h ⟨by simpa using b3 ak 1 sd',b5 c eU (λj a e=>uw c (e▸ak) bt a)⟩ (eU.mono λ_ _ e=>.inl e) (λj a=>.inr (.inl a))
def Sw(gf:az.kinds eK∈R)(h:fy w b q o sd false R)(v:aT)(aU:v.toNat<=63)(hk:FX q.1)(s':q.2.length<=40000)(m':gm q.1=true->Can (ez q.1 v).x q.1.x.now/\fM (ez q.1 v).x=none/\j0 (ez q.1 v).x=false/\q.1.x.now<((ez q.1 v).x.f q.1.x.aN).next/\eL q.1.x.now (hR (ez q.1 v).x q.1.x.now)/\ki (mc (ez q.1 v,q.2)).1):aA 88 #[b.p,o,aH v.toNat] w λe w'=>e=aY #[]/\fy w' b (eF v q) o sd (gm q.1) R:=by
 have⟨s,cs⟩:=q;have M:=h;have⟨d,cA,H⟩:=h;have b6:=pf H;have ar:=ag (I2 (nj H));by_cases m:s.aF.state=1;rotate_left
 .have t:=ag (yJ (v:=v) M (show gm s=false by unfold gm;simp[m]));have zp:=di m;generalize s.aF.state=z at *
  go_in
  go_wp2_with fail;refine bE ar.o ?_;exact EA
 rw[m]at ar;have k:=ag (Sx H hk.cz hk.oM);by_cases g:sX s=true
 .have t:=ag (yJ (v:=v) M (show gm s=false by unfold gm;simp[g]));have S:=ag (λn=>(show fy (w.drewN n) b (eF v (s,cs)) o sd (gm s) R from yJ ⟨d,cA,H.drew n⟩ (show gm s=false by unfold gm;simp[g])));rw[g]at k
  go_in
  go_wp2_with fail;refine bE ar.o ?_;go_wp2_with fail;refine aW k.o ?_;rintro _ ⟨n,rfl⟩;have t:=ag (S.out n);exact EA
 have g:sX s=false:=by simpa using g
 rw[g]at k;have i:=ag hk;by_cases c:j0 s.x=true
 .have l:gm s=false:=by unfold gm;simp[c]
  have C:=ag (λn=>Qc (hq (H.drew n)) v.toNat c);have B:=ag H;have Q:=ag l;have T:=ag c;have u:=ag (λn=>lW (H.drew n))
  go_in
  go_wp2_with fail;refine bE ar.out ?_;go_wp2_with fail;refine aW k.out ?_;rintro _ ⟨n,rfl⟩;have bz:=u.out n;have E:=ag (C.out n);go_wp2_with fail;refine aW E.o λaD G=>?_;have h2:=(B.out.drew n).keep G;have bz:=lW h2;have F:=ag (Qg (hq h2) i.out.no T.out);have y:=ag h2;simp only;go_wp2_with fail;refine aW F.o λbq K=>?_;have t:=ag (yJ (v:=v) (show fy (bq.alloc (af #[I 0,aq none 0 0] 271)) b (s,cs) o sd false R from⟨d,cA,(y.o.keep K).keep ((bb bq).alloc _)⟩) Q.out);exact EA
 have c:j0 s.x=false:=by simpa using c
 have l:gm s=true:=by unfold gm;simp[m,g,c]
 have⟨g1,W,X,Y,Z,g6⟩:=m' l;have C:=ag (λn=>Qb (hq (H.drew n)) v.toNat U c hk.d hk.dl hk.dO hk.w);have B:=ag H;have u:=ag (λn=>lW (H.drew n));have a:=bW g1 (bD W (bD X (bD Y (bD Z (bD g6 s')))));unfold eF;dsimp only;rw[aE l,l]
 go_in
 go_wp2_with fail;refine bE ar.out ?_;go_wp2_with fail;refine aW k.out ?_;rintro _ ⟨n,rfl⟩;have bz:=u.out n;have E:=ag (C.out n);go_wp2_with fail;refine aW E.o ?_;rintro aD ⟨v',G⟩;have h2:=yq (B.out.drew n) v' G;have b6:=pf h2;have lb:=ag (TU (nj h2) (s.x.f s.x.aN).next v (by have:=i.out.cp;simp only;omega));have y:=ag h2;go_wp2_with fail;refine aW lb.o ?_;rintro bq ⟨ps,K⟩;have D:=yr y.out ps K;have bz:=lW D;obtain⟨r,g',vl⟩:=a.out.1.st;have l':=ag (Qf (hq D) a.out.2.1 a.out.2.2.1 a.out.2.2.2.1 a.out.1.L g' vl a.out.1.top a.out.1.bY a.out.1.Hu a.out.1.uU);have P:=ag D;simp only;go_wp2_with fail;refine l'.o.mono ?_;rintro e O ⟨⟨A,cap,rfl,r'⟩,ys,cP⟩;have ab:=yq P.out ys cP;have fr:=aX O (af #[I (s.x.now:aa),.slice A (hR (ez s v).x s.x.now).length cap] 271);have N:=(bb O).alloc (af #[I (s.x.now:aa),.slice A (hR (ez s v).x s.x.now).length cap] 271);have zd:=aO fr;have F:=ag (Ig (q:=({ez s v with x:={jr (ez s v).x s.x.now with now:=s.x.now+1}},cs)) gf ⟨d,cA,ab.keep N⟩ (b5 r' N (λ_ _=>id)) a.out.2.2.2.2.1 (s.x.now:aa) ⟨U,by have:=a.out.1.top;omega⟩ i.out.hd i.out.aP (ki.same (s:=(mc (ez s v,cs)).1) a.out.2.2.2.2.2.1 rfl) i.out.bc (ca a.out.2.2.2.2.2.2 bt));go_wp2_with fail;refine aW F.o ?_;rintro Aw ⟨V,v6,j⟩;have j:=j;have f2:=aO ((kG j).1);have gJ:=bP ((kG j).1);have a':=ag (show fy _ b (mc (ez s v,cs)) o sd true R from⟨V,v6,RU (p:=mc (ez s v,cs)) j true⟩);go_wp2_with fail;go_end0;exact⟨rfl,a'.o⟩
end
section
variable{w w':aj}{s:bM}{F:J}{ba us:J->J->aa}
theorem o8.many{s:bM}(now:aa):∀ (L:ah (J×ah aC)) (k:J) (p:cq),o8 s k p->(∀ g∈L,eL g.1 g.2)->o8 s (k+L.length) (L.foldl (jt now) p)
 | [],_,_,h,_=>h
 | g :: L,k,p,h,a=>by
  rw[dy,show k+(L.length+1)=k+1+L.length by omega];exact o8.many now L (k+1) _ (h.step (a g nS) now) (λe b=>a e (kx _ b))
def b8.J5(h:b8 s F ba us):(cL s).2.length<=5760:=by
 cases hw:fM s.x with
 | none=>unfold cL;rw[hw];simp
 | some g=>
  obtain⟨g1,d,_⟩:=h.hN.zM h.aN h.jf.1 hw;have f:=h.jf;have i:=h.my;have b:o8 {s with x:=replay s.x g (s.x.now-g)} 0 ({s with x:=replay s.x g (s.x.now-g)},[]):=⟨rfl,rfl,rfl,h.dz,h.po,⟨h.ll,h.most.2⟩,aM⟩;have h1:=b.many s.x.now (mK s.x g (s.x.now-g)) 0 _ (λe c=>by
   obtain⟨j,a,rfl⟩:=e9.1 c;have a:=pI.1 a;rw[y0 h.hN g1 U j U];exact oi _ h.aJ _)
  have k:(mK s.x g (s.x.now-g)).length=s.x.now-g:=by unfold mK;simp
  unfold cL;rw[hw]
  have:=h1.len
  show((mK s.x g (s.x.now-g)).foldl (jt s.x.now) ({s with x:=replay s.x g (s.x.now-g)},[])).2.length<=5760;omega
def K'{q:cq}(v:aT)(h:b8 q.1 F ba us)(au:gm q.1=true->eL q.1.x.now (hR (ez q.1 v).x q.1.x.now)):(eF v q).2.length<=q.2.length+320:=by
 unfold eF;split
 .rename_i an;have h1:=Lg (s:=q.1.ld) (fr:=q.1.x.now) (now:=q.1.x.now) (by have:=h.ll;have:=h.most;omega) (au an).2.1;show(q.2++kS q.1.ld q.1.x.now (hR (ez q.1 v).x q.1.x.now) q.1.x.now).length<=_;rw[cx];omega
 omega
theorem hM.Bs{x:ct}:∀ (n:J) {p:cq},hM x p->(fc n p).2.length<=p.2.length+320*n
 | 0,_,_=>df _
 | n+1,p,h=>by
  unfold fc;split
  .omega
  obtain⟨h1,h2,_⟩:=h.step
  have:=hM.Bs n h1
  omega
structure vD(l:cd)(lead:aa):al where
 aK:0<=l.cf/\l.cf<=1000000
 aS:0<=l.heard/\l.heard<=1000000
 kl:∀ m∈l.out,m.a_=[]
 hm:∀ m∈(c9 l lead).1,m.wf/\ds m
 av:(c9 l lead).1.length<=100
structure AS(s:bM)(v:aT)(F:J)(ba us:J->J->aa):al where
 cC:b8 s F ba us
 l1:s.cc=false
 E:s.x.now<=F+s.x.dE+1
 g_:(F:aa)<=s.ld.aP+1
 top:s.x.now<=90000
 dR:v.toNat<=63
 cz:-1000<=s.cz/\s.cz<=1000
 oM:0<=s.aF.cf/\s.aF.cf<=1000000
 cp:0<=s.aF.da/\s.aF.da<=1000000
 aF:vD (dj v s).1.aF (iw {(dj v s).1 with x:=dZ (dj v s).1.x})
def b8.Yt(h:b8 s F ba us)(n:hn s ba us)(aS:s.cc=false)(i:s.x.now<=90000)(b:-1000<=s.cz/\s.cz<=1000)(d:0<=s.aF.cf/\s.aF.cf<=1000000)(a:0<=s.aF.da/\s.aF.da<=1000000):FX s:=by
 have e:=h.jf;have f:=h.my;have c:=h.ad;have g:=h.hN.first h.aN;unfold dc at c;exact⟨b,d,a,h.hd.trans aS,h.aP.2.1,(h.oI n).1,h.po,h.pt,U,U,U,U⟩
def Z1(s:bM)(v:aT)(h:s.x.aN<2):fM (ez s v).x=fM s.x:=by
 unfold fM fv;show ju (eW s.x.f s.x.aN _ (1-s.x.aN)).K (eW s.x.f s.x.aN _ (1-s.x.aN)).cX=_;rw[rA _ _ U]
def Jr(s:bM)(v:aT):((ez s v).x.f s.x.aN).next=(s.x.f s.x.aN).next+1:=by
 show(eW s.x.f s.x.aN _ s.x.aN).next=_;rw[rB]
def Jq(s:bM)(v:aT)(i:J):(s.x.f i).next<=((ez s v).x.f i).next:=by
 by_cases e:i=s.x.aN
 .rw[e,Jr];omega
 show _<=(eW s.x.f s.x.aN _ i).next;rw[rA _ _ e];exact df _
def RM(s:bM)(v:aT)(h:j0 s.x=false):j0 (ez s v).x=false:=by
 have h1:=Jq s v 0;have h2:=Jq s v 1;have a:=Ey h;refine di ?_;unfold iU at a⊢;show ¬ (s.x.dE:aa)<=(s.x.now:aa)-_;omega
def b8.K_(h:b8 s F ba us)(n:hn s ba us)(i:s.x.now<=90000)(b:s.x.now<=F+s.x.dE+1)(v:aT)(aU:v.toNat<=63)(o:ah bI)(an:gm s=true):Can (ez s v).x s.x.now/\fM (ez s v).x=none/\j0 (ez s v).x=false/\s.x.now<((ez s v).x.f s.x.aN).next/\eL s.x.now (hR (ez s v).x s.x.now)/\ki (mc (ez s v,o)).1:=by
 have⟨a,_,_⟩:=xZ an;have⟨cB,d,_,_,e,g⟩:=h.step n a U b v aU o;have c:=h.ad;unfold dc at c;refine⟨g,by rw[Z1 s v h.aN];exact(h.oI n).1,RM s v a,by rw[Jr];omega,?_,d.pt⟩;rw[e];exact oi _ h.aJ _
def P8{b:gj}(h:IsCore w b s.x)(p:b8 s F ba us)(n:hn s ba us)(l:s.x.now<=90001):aA 90 #[b.c,I (c3 s.x)] w λe w'=>(∃ n:aa,e=.returned (I n))/\IsCore w' b (dZ s.x)/\Keeps b.S w w':=by
 have⟨h1,h2⟩:=p.oI n;have i:=p.vA;have a:=p.ad;have j:=p.aN
 have d:∀ k,k<2->(s.x.f k).first=F/\min (bS s) s.x.now<=(s.x.f k).next:=λk hk=>⟨p.hN.first hk,by
  have:k=s.x.aN\/k=1-s.x.aN:=U
  rcases this with rfl|rfl
  .unfold dc at a;omega
  .unfold bS fv;omega⟩
 unfold dZ;by_cases aw:c3 s.x<0
 .rw[aE aw];refine P9 h h1 _ U U (λk hk=>?_);have g:=d k hk
  have:F<=(s.x.f k).next:=by
   have:k=s.x.aN\/k=1-s.x.aN:=U
   rcases this with rfl|rfl
   .unfold dc at a;omega
   have:=p.jf.2.2.1;unfold bS fv at this;omega
  omega
 rw[aB aw];refine P7 h h1 (c3 s.x).toNat _ U U U (λk hk=>?_) ?_ U
 .have g:=d k hk;omega
 rw[p.hN.e4];omega
end
end Go.Proofs.YtalagblioepadaaGreatDoor
