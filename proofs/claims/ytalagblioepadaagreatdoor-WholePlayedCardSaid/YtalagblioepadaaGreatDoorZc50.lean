/- The proof, part 50. -/
import Derived.Test.YtalagblioepadaaGreatDoorZc49
import Derived.Test.YtalagblioepadaaGreatDoorZc09
namespace Go.Proofs.YtalagblioepadaaGreatDoor
set_option linter.all false
open Proofs.Tryz List Go.RowKit Go.Shelf Go.Maps
set_option maxRecDepth 100000
set_option maxHeartbeats 8000000
variable{w w':ai}{B:jE}{M:dX}{mv:aa}{R:ah ay}{k:J}
def O8:Go.Shelf.Ren:=⟨λn=>n,fun|4=>4|22=>32|23=>47|n=>n,fun|n=>n⟩
def O7:SlLaysE0.n41 prog O8:={
 mixed:=aH
 f41:=⟨f41.name,bq,func41.trans (cV some aH)⟩
 t4:=underlying4
 a4:=isAgg4
 z4:=sizeOf4
 v4:=zeroValue4
 t22:=underlying32
 a22:=isAgg32
 z22:=sizeOf32
 v22:=zeroValue32}
def OU(h:cu w B M mv R)(hk:k<2)(l:(M.st k).length<=30000):aA 11 #[B.b,I k] w λe w'=>∃ cC,e=.returned cC/\w'.ownsRow w.heap.size 47 12 cC (M.st k).length (ep (M.st k))/\Below w w w':=by
 obtain⟨V,T,d,an⟩:=h.view hk;have bo:=bb (an.at' 10 rfl) (yh (B:=B) (V:=V) (T:=T) (mv:=mv) hk);obtain⟨i,z,aw,j,h1,h2,g⟩:=BD;have aT:=af (Jy O7 aw j h1 h2 g bq sizeOf47 (an.at' 13 rfl) U λu a=>by
  obtain⟨c,_,a⟩:=uO.1 a;exact fg.1 (qJ c) u a)
 go_in
 go_wp2_with fail;refine bA (tH B.b hk w) ?_;go_wp2_with fail;refine aT.o.mono ?_;rintro e ao ⟨cC,rfl,f,aj⟩;have H:=b6 f aj;clear f aj;go_wp2;go_ret;exact⟨cC,rfl,H.o⟩
def O3{L:ah ca}{i:J}(aw:i<L.length):(ep L)[i*12+11]?=some (.bool L[i].pl):=by
 obtain⟨h1,h2⟩:=vL (enc:=ca.br) (k:=12) (λ_=>rfl) i aw;show(L.flatMap ca.br)[i*12+11]?=_;rw[h1,dD,l3 U,h2,DU];rfl
def tc(bM:J)(ss:a6 ax)(B:jE)(d n:J)(cy:aa)(k:J)(W:ai):ak:=
 ∃ M mv,cu W B M mv [ay.bc bM (ss,26)]/\fm k d n cy (pad d M)/\gY cy (pad d M)/\vj M
def KP{x:aa}(h:0<=x/\x<256):∃ (b:J) (c:aR),x=b/\b<256/\x=c.toNat:=by
 obtain⟨b,rfl⟩:=l2 h.1;exact⟨b,UInt8.ofNat b,rfl,U,by rw[LL,jh U]⟩
def Tm{bM:J}{ss:a6 ax}{d n:J}{cy:aa}(h:tc bM ss B d n cy k w)(hk:k<=300)(m:kO)(hm:m.wf):aA 10 #[B.b,aQ #[I m.bu,I m.bg,I m.i,I m.at',aF m.bH,aF m.bz]] w λe w'=>xu e/\tc bM ss B d n cy (k+1) w':=by
 have⟨M,mv,aj,aw,f,au⟩:=h;have⟨b,_,g,o,_⟩:=KP hm.bH;have⟨_,c,_,_,j⟩:=KP hm.bz;rw[g,j];refine(Rn aj aw f U m.bu m.bg m.i m.at' b c o).mono λe w' ⟨eK,cW,b0,h1,h2,l,a⟩=>?_;exact⟨a.out.1,eK,_,a.out.2,h1,h2,au.move aw f U l⟩
def SI(i:kM w)(aG d n a b pat bZ b':aa)(dB:ax)(aZ:¬ vQ d n pat 256 b'):aA 3 #[aQ #[aP aG,I d,I n,I a,aP b,I pat,I bZ,I b'],dB] w λe w'=>e=.returned (.bool true)/\Below w w w':=by
 have cb:=(b3 w.heap.size w).alloc bs (ae #[aP aG,I d,I n,I a,aP b,I pat,I bZ,I b'] 26);have j:=aX w (ae #[aP aG,I d,I n,I a,aP b,I pat,I bZ,I b'] 26);have h:=af (KL (w:=w.alloc (ae #[aP aG,I d,I n,I a,aP b,I pat,I bZ,I b'] 26)) (i.keep ((ba w).alloc _) id) aK)
 go_in
 go_wp2_with fail;generalize World.alloc w _=bk at *;refine aU h.o λao g=>?_;have l:=cb.trans (g.mono cb.size);have f:=(Keeps.bD (S:=aI) g a7).heap j id;have fF:=aS f;have m:=fx f 6;go_wp2_with fail;have c:=l.setCell (p:=ad w.heap.size 6 ab) bs (I 256);generalize World.setCell ao _ _=aC at *;refine aU ((Yj aG d n pat 256 b' a b aZ) aC) λbm k=>?_;have hfin:=c.trans (k.mono c.size);go_wp2_with fail;go_ret;exact⟨rfl,hfin⟩
theorem tc.below{bM:J}{ss:a6 ax}{d n:J}{cy:aa}(h:tc bM ss B d n cy k w){bl:J}{bk:ai}(a:B.o=⟨bl,bk⟩):Below bl bk w:=by
 have⟨M,mv,aj,_⟩:=h
 have:=aj.below.2
 rwa [a]at this
def SH(G:kM w)(T:0<w.heap.size)(aG:aa)(v':0<=aG/\aG<=4294967295)(d n:J)(a f pat bZ b':aa)(hd:d<=8)(ar:1<=n/\n<=16)(au:1<=pat/\pat<=10000)(aW:1<=b'/\b'<=16)(dB:b5 Addr)(lc:J)(L:ah kO)(z:dR w 6 dB L.length lc (wb L))(Z:∀ c∈L,c.wf):aA 3 #[aQ #[aP aG,I d,I n,I a,aP f,I pat,I bZ,I b'],aq dB L.length lc] w λe w'=>e=.returned (.bool true)/\Below w w w':=by
 have ZM:L.length<=9223372036854775807:=b7 z.2.1 z.2.2.1;have g':=aX w (ae #[aP aG,I d,I n,I a,aP f,I pat,I bZ,I b'] 26);have t:=af (KL (w:=w.alloc (ae #[aP aG,I d,I n,I a,aP f,I pat,I bZ,I b'] 26)) (G.keep ((ba w).alloc _) id) aK);have a':=JX G T;have m:=af ((a'.cons (r:=ay.bc w.heap.size (#[aP aG,I d,I n,I a,aP f,I pat,I bZ,I b'],26)) ((ba w).alloc (ae #[aP aG,I d,I n,I a,aP f,I pat,I bZ,I b'] 26)) (λ_ _ _ _ e=>e) (aX w _) (λj l'=>gD (jT l'))).perm (.swap _ _ _));have u:=b6 (II aG d n pat 256 v' hd ar au (bB U U)) (T3 aG d n pat);have v:=b6 hd (bB ar (bB au aW));have cF:=af z;have zp:=af Z;clear G T v' hd ar au aW z Z a'
 go_in
 go_wp2_with fail;generalize World.alloc w _=bk at *;refine aU t.o λao h2=>?_;have N:=Keeps.bD (S:=aI) h2 a7;have C:=N.heap g' id;have fr:=m.o.keep N;have gf:=fr.set 1 (r':=ay.bc w.heap.size (#[aP aG,I d,I n,I a,aP f,I pat,I 256,I b'],26)) rfl ((Keeps.refl (λj=>j=w.heap.size) ao).setCell (p:=ad w 6 ab) rfl (I 256)) (λ_ _ e=>e) (by have:=bV C 6 (I 256);simp only[c7]at this;exact this) (λ_ e=>.inl e);have fF:=aS C;have f6:=fx C 6;have R:=af (Yi gf aG d n pat 256 b' a f v.o.1 v.o.2.1 v.o.2.2.1 (bB U U) v.o.2.2.2);clear t m g' N h2 fr gf C;go_wp2_with fail;generalize World.setCell ao _ _=ZQ at *;refine R.o.mono ?_;rintro e aC ⟨B,rfl,lb,X⟩;have Q:Hid (tc w.heap.size #[aP aG,I d,I n,I a,aP f,I pat,I 256,I b'] B d n aG 0 aC):=af ⟨_,_,lb,u.out.1.1,u.out.1.2,u.out.2⟩;have O:=af X;clear fF f6 R lb X u;go_wp2_with fail;go_loopg [7] 300 (λg i wr=>∃ k:J,g=300-k/\k<=300/\i=I k/\tc w.heap.size #[aP aG,I d,I n,I a,aP f,I pat,I 256,I b'] B d n aG k wr)
 case atStart=>exact⟨0,rfl,U,rfl,Q.o⟩
 obtain⟨k,aZ,T',rfl,H⟩:=hrel;have l:=H.below O.o;have y:=af H;clear Q H;by_cases m':k<L.length/\k<300
 .obtain⟨b,o,rfl,al⟩:=(cF.out.below l (λar x D=>cF.out.lt U ar D)).at' U;obtain⟨ps,ZK⟩:=m';have h:=TR L k ps;have Aw:wr.cell? (ad b (o+k*6) ab)=some (I L[k].bu):=al _ _ (h 0 U);have CW:wr.cell? (ad b (o+k*6+1) ab)=some (I L[k].bg):=by rw[ih];exact al _ _ (h 1 U)
  have Q':wr.cell? (ad b (o+k*6+2) ab)=some (I L[k].i):=by rw[ih];exact al _ _ (h 2 U)
  have St:wr.cell? (ad b (o+k*6+3) ab)=some (I L[k].at'):=by rw[ih];exact al _ _ (h 3 U)
  have Tq:wr.cell? (ad b (o+k*6+4) ab)=some (aF L[k].bH):=by rw[ih];exact al _ _ (h 4 U)
  have TS:wr.cell? (ad b (o+k*6+5) ab)=some (aF L[k].bz):=by rw[ih];exact al _ _ (h 5 U)
  have P:=af (Tm y.o T' L[k] (zp.out L[k] (nC ps)));clear al h l y;go_wp2_with fail;refine P.o.mono ?_;rintro e ZR ⟨⟨ZH,ZP,ZI,ZG,ZO,fa,m9,ZJ,rfl⟩,Y⟩;have zd:=af Y;clear P Aw CW Q' St Tq TS Y;go_wp2_with fail;go_roundg (300-(k+1))
  case rel=>exact⟨k+1,rfl,U,by go_num,zd.o⟩
  omega
 obtain⟨M,mv,aj,aw,D,s'⟩:=y.out;have s:=af aj;have E:=b6 (λk hk=>D.fQ aw U (k:=k) hk) s'.pl;clear aj aw D s' y l;rcases (show(k<L.length/\k=300)\/¬ k<L.length by omega)with⟨al,rfl⟩|al
 all_goals
  clear m';go_wp2_with fail;go_loopg [8,9,10] 2 (λg i _ _ wr=>∃ j:J,g=2-j/\j<=2/\i=I j/\cu wr B M mv [ay.bc w.heap.size (#[aP aG,I d,I n,I a,aP f,I pat,I 256,I b'],26)])
  case atStart=>exact⟨0,rfl,U,rfl,s.out⟩
  obtain⟨j,aZ,l',rfl,aj⟩:=hrel;have l:=aj.below.2;rw[O.out]at l;clear s;by_cases K:j<2
  .have m:=af (OU aj K (E.out.1 j K));have s:=af aj;have F:=af K;clear aj l;go_wp2_with fail;refine m.o.mono ?_;rintro e W' ⟨cC,rfl,sd,V⟩;have ys:=af (s.out.keep (Keeps.bD V a7));obtain⟨A,cap,rfl,W,_⟩:=cS sd;have t:=af W;clear m s sd V W;go_wp2_with fail;go_loopg [10] (M.st j).length (λg i V'=>∃ q:J,g=(M.st j).length-q/\q<=(M.st j).length/\i=I q/\V'=W')
   case atStart=>exact⟨0,rfl,U,rfl,rfl⟩
   obtain⟨q,aZ,ZN,rfl,rfl⟩:=hrel;have ZL:(M.st j).length<=30000:=E.out.1 j F.out;by_cases vl:q<(M.st j).length
   .obtain⟨b,o,rfl,al⟩:=t.o.at' U;have al:=al _ _ (O3 vl);rw[E.out.2 j F.out _ (nC vl),<-ih]at al;go_wp2_with fail;go_roundg ((M.st j).length-(q+1))
    case rel=>exact⟨q+1,rfl,U,by go_num,rfl⟩
    omega
   go_wp2_with fail;go_roundg (2-(j+1))
   case rel=>exact⟨j+1,rfl,U,by go_num,ys.o⟩
   have:=F.out;omega
  go_wp2_with fail;go_ret;exact⟨rfl,l⟩
def Zx(g:kM w)(h:0<w.heap.size)(aG d n b f pat bZ b':aa)(k:0<=aG/\aG<=4294967295)(dB:b5 Addr)(a:J)(L:ah kO)(i:dR w 6 dB L.length a (wb L))(j:∀ c∈L,c.wf):aA 3 #[aQ #[aP aG,I d,I n,I b,aP f,I pat,I bZ,I b'],aq dB L.length a] w λe w'=>e=.returned (.bool true)/\Below w w w':=by
 by_cases aZ:vQ d n pat 256 b'
 .obtain⟨h1,au,l,aW⟩:=aZ;have h2:=rG h1;obtain⟨d,rfl⟩:=l2 h2.1;obtain⟨n,rfl⟩:=l2 (show 0<=n by omega);exact SH g h aG k d n b f pat bZ b' U U au aW dB a L i j
 exact SI g aG d n b f pat bZ b' _ aZ
end Go.Proofs.YtalagblioepadaaGreatDoor
