/- The proof, part 51. -/
import Derived.Test.YtalagblioepadaaGreatDoorZd50
import Derived.Test.YtalagblioepadaaGreatDoorZd09
namespace Go.Proofs.YtalagblioepadaaGreatDoor
set_option linter.all false
open Proofs.Tryz List Go.RowKit Go.Shelf Go.Maps
set_option maxRecDepth 100000
set_option maxHeartbeats 8000000
def qR{p:al}(h:p:=by simp[tC]):p:=h
variable{w w':aj}{B:jB}{M:dV}{bk:aa}{R:ah az}{k:J}
section
variable(h:cl w B M bk R)(hk:k<2)
include h hk
theorem Pp:aA 21 #[.pointer (some (ae ((B.p k).p) 0 ad))] w λe w'=>e=.returned (.pointer (some (ae ((B.p k).c.c) 0 ad)))/\w=w':=by
 have⟨V,T,d,h⟩:=h.view hk;exact wh h
theorem Gf:aA 16 #[.pointer (some (ae ((B.p k).p) 0 ad))] w λe w'=>e=.returned (.pointer (some (ae ((B.p k).lb) 0 ad)))/\w=w':=by
 have⟨V,T,d,h⟩:=h.view hk;exact Ia h
theorem Gg:IsCore w (B.p k).c (M.p k).x:=by
 have⟨V,T,d,h⟩:=h.view hk;exact hq h
theorem Pq:aA 23 #[.pointer (some (ae ((B.p k).lb) 0 ad))] w λe w'=>∃ v,e=.returned v/\w'.ownsRow w.heap.size 45 9 v (M.p k).ld.bc.length (b4 (M.p k).ld.bc)/\Keeps aG w w':=by
 have⟨V,T,d,h⟩:=h.view hk;exact(IU (ni h)).mono λ_ _ x=>x
theorem Po:aA 17 #[.pointer (some (ae ((B.p k).lb) 0 ad))] w λe w'=>e=.returned (I (M.p k).ld.aP)/\w=w':=by
 have⟨V,T,d,h⟩:=h.view hk;exact(wu (ni h)).mono λ_ _ x=>x
end
def Re{l:ah aC}{i:J}(ax:i<l.length):(b4 l)[i*9]?=some (I l[i].k.fr):=by
 obtain⟨h1,h2⟩:=tS (enc:=aC.bu) (k:=9) (λ_=>rfl) i ax;show(l.flatMap aC.bu)[i*9]?=_;rw[h1,dL,lF U,h2,Al];generalize l[i]=e;generalize flatMap _ _=t;obtain⟨⟨a,b,c,d⟩,f,g,h,i,j⟩:=e;rfl
def tC(ab:J)(v:J->ay)(a:J->ah bI):ah az:=[az.bd ab (#[v 0,v 1],65),az.cF (v 0) (a 0),az.cF (v 1) (a 1)]
def AV{ab:J}{v:J->ay}{a:J->ah bI}(hk:k<2):(#[v 0,v 1]:a7 ay)[k]?=some (v k)/\∀ t,(#[v 0,v 1]:a7 ay).setIfInBounds k t=#[bZ v k t 0,bZ v k t 1]:=by
 have:k=0\/k=1:=U
 rcases this with rfl|rfl<;>exact⟨rfl,λt=>by simp[bZ]⟩
def O8{ab bN:J}{kt:a7 ay}{v:J->ay}{a:J->ah bI}{c:ay}{cs:ah bI}(hk:k<2)(h:cl w B M bk (az.cF c cs :: az.bd bN (kt,26) :: tC ab v a))(t:(a k).length+cs.length<=1000000000):∃ v' ao,(∃ f u c2,v'=aq f u c2)/\(Builtin.append_ #[32,32] 32 #[v k,c]).run prog w=.ok v' ao/\Keeps (λj=>(v k).ownBlock=some j) w ao/\ao.heap[ab]?=some (af #[v 0,v 1] 65 (0,0))/\¬ (v k).ownBlock=some ab/\cl (ao.setCell (ae ab k ad) v') B M bk (az.bd bN (kt,26) :: tC ab (bZ v k v') (bZ a k (a k++cs))):=by
 obtain⟨V,T,d,h⟩:=h;have ak:w.heap[ab]?=some (af #[v 0,v 1] 65 (0,0)):=h.at' 27 rfl;have av:∀ j,(v k).ownBlock=some j->j≠ab:=by
  have:k=0\/k=1:=U
  rcases this with rfl|rfl
  .exact λj e g=>h.p1 (i:=28) (j:=27) rfl rfl U j e g
  exact λj e g=>h.p1 (i:=29) (j:=27) rfl rfl U j e g
 have aU:w.ownsRow 0 47 12 (v k) (a k).length (dC (a k)):=by
  have:k=0\/k=1:=U
  rcases this with rfl|rfl
  .exact h.at' 28 rfl
  exact h.at' 29 rfl
 obtain⟨v',ao,s,n,b,q⟩:=A4 32 aU (h.at' 25 rfl) t;have o:=b.heap ak (λe=>av _ e rfl);refine⟨v',ao,by obtain⟨f,c2,e,_⟩:=cS n;exact⟨f,_,c2,e⟩,s,b,o,λe=>av _ e rfl,?_⟩;have aw:=b3 o k v';rw[(AV (ab:=ab) (a:=a) hk).2 v']at aw;have r:=(Keeps.refl (λj=>j=ab) ao).setCell (p:=ae ab k ad) rfl v'
 have:k=0\/k=1:=U
 rcases this with rfl|rfl
 .have l:=h.set 28 (r':=az.cF v' (a 0++cs)) rfl b (λ_ _ e=>e) n q;have m:=l.set 27 (r':=az.bd ab (#[v',v 1],65)) rfl r (λ_ _ e=>e) aw (λ_ e=>.inl e);exact cl.forget (x:=az.cF c cs) ⟨V,T,d,m⟩
 have l:=h.set 29 (r':=az.cF v' (a 1++cs)) rfl b (λ_ _ e=>e) n q;have m:=l.set 27 (r':=az.bd ab (#[v 0,v'],65)) rfl r (λ_ _ e=>e) aw (λ_ e=>.inl e);exact cl.forget (x:=az.cF c cs) ⟨V,T,d,m⟩
def o4(bN ab:J)(kt:a7 ay)(B:jB)(d n:J)(cm:aa)(K:J)(W:aj):al:=
 ∃ M bk v a,cl W B M bk (az.bd bN (kt,26) :: tC ab v a)/\eX K d n cm (pad d M)/\gV cm (pad d M)/\pT M a/\∀ k,k<2->(a k).length<=60256*K
def Lq{x:aa}(h:0<=x/\x<256):∃ (b:J) (c:aT),x=b/\b<256/\x=c.toNat:=by
 obtain⟨b,rfl⟩:=mj h.1;exact⟨b,UInt8.ofNat b,rfl,U,by rw[Mm,jy U]⟩
def OT(bN ab:J)(kt:a7 ay)(B:jB)(d n:J)(cm:aa)(K:J)(bj:aa)(e:Ending)(W:aj):al:=
 ∃ M bk v a b cs A jH c m b0,e=aY #[aL #[b,aq A jH c,.bool m],I b0]/\cl W B M bk (az.cF b cs :: az.bd bN (kt,26) :: tC ab v a)/\eX K d n cm (pad d M)/\gV cm (pad d M)/\(∀ j,j<2->(a j).length+60256<=60256*K)/\cs.length<=60256/\∃ k:J,k<2/\(b0=0->bj=k)/\(b0≠0->cs=[])/\pT M (bZ a k (a k++cs))
def T4{bN ab:J}{kt:a7 ay}{d n:J}{cm:aa}(h:o4 bN ab kt B d n cm k w)(hk:k<=300)(m:k5)(hm:m.wf):aA 10 #[B.b,aL #[I m.bA,I m.bj,I m.i,I m.at',aH m.bO,aH m.bF]] w (OT bN ab kt B d n cm (k+1) m.bj):=by
 have⟨M,bk,v,a,ak,ax,f,an,D⟩:=h;have⟨b,_,s,z,_⟩:=Lq hm.bO;have⟨_,c,_,_,t⟩:=Lq hm.bF;rw[s,t];refine(R7 ak ax f U m.bA m.bj m.i m.at' b c z).mono λe w' ⟨fp,c0,b0,h1,h2,u,E,A,jH,c,m,x,y⟩=>?_;have⟨g,l,o,p,q,r⟩:=an.move ax U f u;exact⟨fp,_,v,a,E,c0,A,jH,c,m,b0,x,y,h1,h2,λj C=>by have:=D j C;omega,q,g,l,o,p,r⟩
theorem o4.below{bN ab:J}{kt:a7 ay}{d n:J}{cm:aa}(h:o4 bN ab kt B d n cm k w){bo:J}{bn:aj}(b:B.o=⟨bo,bn⟩):Below bo bn w:=by
 have⟨M,bk,v,a,ak,_⟩:=h
 have:=ak.below.2
 rwa [b]at this
theorem o4.keep{bN ab:J}{kt:a7 ay}{d n:J}{cm:aa}(h:o4 bN ab kt B d n cm k w)(hk:Keeps aG w w'):o4 bN ab kt B d n cm k w':=by
 have⟨M,bk,v,a,ak,h⟩:=h;exact⟨M,bk,v,a,ak.keep hk,h⟩
def cl.Vi{a:ah az}(h:cl w B M bk R)(au:R.Perm a):cl w B M bk a:=by
 have⟨V,T,d,h⟩:=h;exact⟨V,T,d,h.perm (Perm.append_left _ (Perm.append_left _ au))⟩
def xU{bN ab:J}{kt:a7 ay}{v:J->ay}{a:J->ah bI}{K:J}(ak:cl w B M bk (az.bd bN (kt,26) :: tC ab v a))(an:pT M a)(c:∀ k,k<2->(a k).length<=60256*K)(d:K<=300){j:J}(b:j<2):aA 25 #[v j] w (λe w'=>e=.returned (.bool true)/\Keeps aG w w')/\aA 26 #[v j] w (λe w'=>e=.returned (.bool true)/\Keeps aG w w'):=by
 have aU:w.ownsRow 0 47 12 (v j) (a j).length (dC (a j)):=by
  have:j=0\/j=1:=U
  rcases this with rfl|rfl
  .exact ak.res (r:=az.cF (v 0) (a 0)) qR
  exact ak.res (r:=az.cF (v 1) (a 1)) qR
 have⟨⟨D,aw,_⟩,_⟩:=an.nI j b;rw[eB]at aw
 have:=c j b
 exact⟨Yb aw (an.ok j b) aU U,Wa aw aU U⟩
def Tp(h:k3 w)(aJ d n a b pat bU cb:aa)(db:ay)(aZ:¬ we d n pat bU cb):aA 6 #[aL #[aR aJ,I d,I n,I a,aR b,I pat,I bU,I cb],db] w λe w'=>e=.returned (.bool true)/\Below w w w':=by
 have b':=(b7 w.heap.size w).alloc bx (af #[aR aJ,I d,I n,I a,aR b,I pat,I bU,I cb] 26);have i:=aX w (af #[aR aJ,I d,I n,I a,aR b,I pat,I bU,I cb] 26);have g:=ag (Lm (w:=w.alloc (af #[aR aJ,I d,I n,I a,aR b,I pat,I bU,I cb] 26)) (h.keep ((bb w).alloc _) id) aM)
 go_in
 go_wp2_with fail;generalize World.alloc w _=bn at *;refine aW g.o λao c=>?_;have f:=b'.trans (c.mono b'.size);have j:=(Keeps.bJ (S:=aG) c a8).heap i id;have fF:=aO j;go_wp2_with fail;refine aW ((Y3 aJ d n pat bU cb a b aZ) ao) λaD k=>?_;have hfin:=f.trans (k.mono f.size);go_wp2_with fail;go_ret;exact⟨rfl,hfin⟩
def To(a':k3 w)(aaH:0<w.heap.size)(aJ:aa)(aa6:0<=aJ/\aJ<=4294967295)(d n:J)(s t pat bU cb:aa)(hd:d<=8)(av:1<=n/\n<=16)(au:1<=pat/\pat<=10000)(he:1<=bU/\bU<=256)(aU:1<=cb/\cb<=16)(db:b_ Addr)(lc:J)(L:ah k5)(v':eb w 6 db L.length lc (wA L))(aaJ:∀ c∈L,c.wf):aA 6 #[aL #[aR aJ,I d,I n,I s,aR t,I pat,I bU,I cb],aq db L.length lc] w λe w'=>e=.returned (.bool true)/\Below w w w':=by
 have abL:L.length<=9223372036854775807:=ca v'.2.1 v'.2.2.1;have aaM:=aX w (af #[aR aJ,I d,I n,I s,aR t,I pat,I bU,I cb] 26);have aaz:=ag (Lm (w:=w.alloc (af #[aR aJ,I d,I n,I s,aR t,I pat,I bU,I cb] 26)) (a'.keep ((bb w).alloc _) id) aM);have aaK:=KA a' aaH;have aaE:=ag ((aaK.cons (r:=az.bd w.heap.size (#[aR aJ,I d,I n,I s,aR t,I pat,I bU,I cb],26)) ((bb w).alloc (af #[aR aJ,I d,I n,I s,aR t,I pat,I bU,I cb] 26)) (λ_ _ _ _ e=>e) (aX w _) (λj H=>gD (jM H))).perm (.swap _ _ _));have l':=bW (Jn aJ d n pat bU aa6 hd av au he) (UG aJ d n pat bU);have Q:=bW hd (bD av (bD au (bD he aU)));have cI:=ag v';have abd:=ag aaJ;clear a' aaH aa6 hd av au he aU v' aaJ aaK
 go_in
 go_wp2_with fail;generalize World.alloc w _=bn at *;refine aW aaz.o λao aaR=>?_;have aav:=Keeps.bJ (S:=aG) aaR a8;have aaN:=aav.heap aaM id;have aaD:=ag (Y2 (aaE.o.keep aav) aJ d n pat bU cb s t Q.o.1 Q.o.2.1 Q.o.2.2.1 Q.o.2.2.2.1 Q.o.2.2.2.2);clear aaz aaE aaM aav aaR;have fF:=aO aaN;go_wp2_with fail;refine aaD.o.mono ?_;rintro e aD ⟨B,rfl,aaU,V⟩;have zp:=ag V;have ew:=ag aaU;clear fF aaN aaD aaU V;have aaB:Hid (o4 w.heap.size aD.heap.size #[aR aJ,I d,I n,I s,aR t,I pat,I bU,I cb] B d n aJ 0 (aD.alloc (af #[aq none 0 0,aq none 0 0] 65))):=by
  have h1:=ew.o.push (r:=az.bd aD.heap.size (#[aq none 0 0,aq none 0 0],65)) ((bb aD).alloc (af #[aq none 0 0,aq none 0 0] 65)) (aX aD _) (λj H=>gD (jM H));have h2:=(h1.push (r:=az.cF (aq none 0 0) []) (bb _) (gx _ _ _ _) (λ_ h=>nomatch h)).push (r:=az.cF (aq none 0 0) []) (bb _) (gx _ _ _ _) (λ_ h=>nomatch h);exact⟨_,_,λ_=>aq none 0 0,λ_=>[],h2.Vi (reverse_perm _).symm.symm.symm,l'.out.1.1,l'.out.1.2,l'.out.2,λ_ _=>de _⟩
 clear l' ew;go_wp2_with fail;generalize World.alloc aD _=bq at *;generalize aD.heap.size=ab at *;go_loopg [8,9,10,11,12,13,14] 300 (λg i _ _ _ _ _ _ wr=>∃ k:J,g=300-k/\k<=300/\i=I k/\o4 w.heap.size ab #[aR aJ,I d,I n,I s,aR t,I pat,I bU,I cb] B d n aJ k wr)
 case atStart=>exact⟨0,rfl,U,rfl,aaB.out⟩
 obtain⟨k,aZ,lb,rfl,TS⟩:=hrel;have G:=TS.below zp.o;have D:=ag TS;clear aaB TS;by_cases aaY:k<L.length/\k<300
 .obtain⟨b,o,rfl,an⟩:=(cI.out.below G (λav x g'=>cI.out.lt U av g')).at' U;obtain⟨gf,abJ⟩:=aaY;have W:=Jj L k gf;have abn:wr.cell? (ae b (o+k*6) ad)=some (I L[k].bA):=an _ _ (W 0 U);have abo:wr.cell? (ae b (o+k*6+1) ad)=some (I L[k].bj):=by rw[hZ];exact an _ _ (W 1 U)
  have abp:wr.cell? (ae b (o+k*6+2) ad)=some (I L[k].i):=by rw[hZ];exact an _ _ (W 2 U)
  have abq:wr.cell? (ae b (o+k*6+3) ad)=some (I L[k].at'):=by rw[hZ];exact an _ _ (W 3 U)
  have abr:wr.cell? (ae b (o+k*6+4) ad)=some (aH L[k].bO):=by rw[hZ];exact an _ _ (W 4 U)
  have abt:wr.cell? (ae b (o+k*6+5) ad)=some (aH L[k].bF):=by rw[hZ];exact an _ _ (W 5 U)
  have aaA:=ag (T4 D.o lb L[k] (abd.out L[k] (mY gf)));clear an W G D;go_wp2_with fail;refine aaA.o.mono ?_;rintro e y ⟨M,bk,v,a,abc,cs,A,jH,T,m,b0,rfl,ak,ax,g',aa1,aaW,f,Y,W',aaq,aaT⟩;obtain⟨O,R,rfl,_⟩:=cS (show y.ownsRow 0 47 12 abc cs.length (dC cs)from ak.res (r:=az.cF abc cs) aM);have G:=ak.below.2;rw[zp.out]at G;have aaP:=aX y (af #[aq O cs.length R,aq A jH T,.bool m] 35);have E:=ak.keep ((bb y).alloc (af #[aq O cs.length R,aq A jH T,.bool m] 35));have aat:∀ j,(v f).ownBlock=some j->j<y.heap.size:=by
   have:f=0\/f=1:=U
   rcases this with rfl|rfl
   .exact λj=>mH (show y.ownsRow 0 47 12 (v 0) (a 0).length (dC (a 0))from ak.res (r:=az.cF (v 0) (a 0)) qR)
   exact λj=>mH (show y.ownsRow 0 47 12 (v 1) (a 1).length (dC (a 1))from ak.res (r:=az.cF (v 1) (a 1)) qR)
  have⟨lN,abD,abl,an⟩:=(cI.out.below (G.alloc G.size (af #[aq O cs.length R,aq A jH T,.bool m] 35)) (λav x g'=>cI.out.lt U av g')).at' U;cases abl;have aau:(y.alloc (af #[aq O cs.length R,aq A jH T,.bool m] 35)).cell? (ae b (o+k*6+1) ad)=some (I L[k].bj):=by rw[hZ];exact an _ _ (Jj L k gf 1 U)
  have l:=bW E (bD aaP (bD ax (bD g' (bD aa1 (bD aaW aaT)))));clear aaA abn abo abp abq abr abt ak ax g' aa1 aaW aaT aaP E an G;by_cases ys:b0=0
  .subst ys;have aa7:=W' rfl;rw[aa7]at aau;clear W' aaq aa7;have abm:bits .and .i64 (f:aa) 1=f:=by
    have:f=0\/f=1:=U
    rcases this with rfl|rfl<;>rfl
   go_upto_region 13 with fail
   clear aau abm;generalize abu:y.alloc (af #[aq O cs.length R,aq A jH T,.bool m] 35)=N at *;generalize y.heap.size=z at *;clear abu;have V':=l.out.1.keep (bb N).drew;obtain⟨_,aax,⟨aay,n7,aaG,rfl⟩,aaQ,aaX,T',aa2,V⟩:=O8 Y V' (by have:=l.out.2.2.2.2.1 f Y;have:=l.out.2.2.2.2.2.1;omega);have aaI:N.drew.heap[ab]?=some (af #[v 0,v 1] 65 (0,0)):=V'.res (r:=az.bd ab (#[v 0,v 1],65)) qR;have aaV:N.drew.cell? (ae ab f ad)=some (v f):=bf aaI (AV (ab:=ab) (a:=a) Y).1;have aaO:N.drew.heap[z]?=some (af #[aq O cs.length R,aq A jH T,.bool m] 35 (0,0)):=l.out.2.1;have aa3:¬ (v f).ownBlock=some z:=λe=>nW _ (aat _ e);have abv:∀ x:gQ (λj=>(v f).ownBlock=some j) N.drew,_:=jE (S:=λj=>(v f).ownBlock=some j) (w:=N.drew) aaV aa2;have aaw:∀ x:gQ (λj=>(v f).ownBlock=some j) N.drew,_:=jE (S:=λj=>(v f).ownBlock=some j) (w:=N.drew) (bf aaO (k:=0) rfl) aa3;have c2:aax.cell? (ae ab f ad)=some (v f):=bf T' (AV (ab:=ab) (a:=a) Y).1;have f7:=fO T' f;have m':Hid (o4 w.heap.size ab #[aR aJ,I d,I n,I s,aR t,I pat,I bU,I cb] B d n aJ (k+1) (aax.setCell (ae ab f ad) (aq aay n7 aaG))):=ag ⟨M,bk,bZ v f (aq aay n7 aaG),bZ a f (a f++cs),V,l.out.2.2.1,l.out.2.2.2.1,l.out.2.2.2.2.2.2,λj H=>by
    have aba:=l.out.2.2.2.2.1;have abN:=l.out.2.2.2.2.2.1;by_cases e:j=f
    .subst e;rw[iB,cx];have:=aba j H;omega
    .rw[hB _ _ e];have:=aba j H;omega⟩
   clear V' aaI aaV aaO aa2 aa3 aat T';go_wp2_with fail;refine cJ 9 ?_;refine ow (λj=>(v f).ownBlock=some j) (.range 6) [6] 2 ?_
   repeat (go_big_quiet_step (fail))
   refine wpQuiet_nil ?_;refine ko λK a'=>?_;refine Lib.wp_append_run _ (.tmp 55) (.tmp 57) 32 32 rfl _ _ rfl rfl _ _ aaQ ?_;refine a' _ _ (c6 aaX) ?_;clear a' K abv aaw aaQ aaX;simp only[Act.put,c8];refine fu (λ_=>False) [7] [] 1 (hQ ?_);refine cK (n3) [8] 0 1 ?_;refine h9 8 (lM _) ?_;clear c2 f7;generalize World.setCell aax _ _=abA at *;have Z:=ag V;have u:=ag Y;have Q':=ag l.out.2.2.1;have abb:(az.bd w.heap.size (#[aR aJ,I d,I n,I s,aR t,I pat,I bU,I cb],26)).P abA:=V.res n2;have abF:=ag abb;clear V l Y abb;go_wp2_with fail;refine bE (BO Z.o u.o) ?_;go_wp2_with fail;refine bE (Gf Z.o u.o) ?_;go_wp2_with fail;refine(Pq Z.o u.o).mono ?_;rintro e abB ⟨vl,rfl,aa4,aar⟩;obtain⟨abE,abH,rfl,aaL,_⟩:=cS aa4;have aaF:=ag aaL;have zd:=ag (Z.out.keep aar);have aaC:=ag aar;have abK:(M.p f).ld.bc.length<=256:=by
    have⟨F,us,A,ax⟩:=Q'.out.ps f u.out;exact yN ax.cC
   have aa0:=ag (pT.bc Q'.out u.out);clear aa4 aaL aar;go_wp2_with fail;go_loopg [14] (M.p f).ld.bc.length (λg i abz=>∃ q:J,g=(M.p f).ld.bc.length-q/\q<=(M.p f).ld.bc.length/\i=I q/\Keeps aG abB abz)
   case atStart=>exact⟨0,rfl,de _,rfl,bb _⟩
   obtain⟨q,aZ,abM,rfl,X⟩:=hrel;by_cases aa5:q<(M.p f).ld.bc.length
   .obtain⟨cZ,ol,rfl,an⟩:=(aaF.o.keeps X λ_ _ _=>id).at' U;have an:=an _ _ (Re aa5);have gf:=aa0.o _ (mY aa5);have hle:decide ((M.p f).ld.bc[q].k.fr<=(M.p f).ld.aP)=false:=di (Int.not_le.2 gf);have Tq:=ag λn=>Gf (zd.o.keep (X.drewN n)) u.out;have aV:=ag λn=>Po (zd.o.keep (X.drewN n)) u.out;have D:=ag X;clear X gf;go_wp2_with fail;go_quiet (first|(go_at_call 16;first|exact Calls.quiet_of (jo (Tq.o _))|exact hv (jo (Tq.o _)))|(go_at_call 17;first|exact Calls.quiet_of (jo (aV.o _))|exact hv (jo (aV.o _))));have D:=ag (D.o.drewN nq);clear Tq aV an;generalize wr.drewN nq=abC at *;go_wp2_with fail;go_roundg ((M.p f).ld.bc.length-(q+1))
    case rel=>exact⟨q+1,rfl,U,by go_num,D.o⟩
    omega
   have aas:=aaC.o.trans X;have E:=Z.out.keep aas;have Aw:=ag (m'.out.keep aas);have fF:=aO (E.res (r:=az.bd w.heap.size (#[aR aJ,I d,I n,I s,aR t,I pat,I bU,I cb],26)) n2);obtain⟨bR,abe,abf,abg,abh,abi,abj,abk⟩:=Q'.out.bounds u.out;have f3:decide ((iU (M.p f).x:aa)+(n:aa)<((M.p f).x.now:aa))=false:=di U;have b':d<=8:=Q.out.1;have abj:(M.p f).x.now<=400:=U;have abk:iU (M.p f).x<=400:=U;have abG:n<=16:=Q.out.2.1.2;have h1:=ag λq=>Pp (E.keep ((bb wr).drewN q)) u.out;have h2:=ag λq=>tK (Gg (E.keep ((bb wr).drewN q)) u.out);have St:=ag λq=>A9 (Gg (E.keep ((bb wr).drewN q)) u.out);clear aas E X b' bR abe abf abg abh abi Z aaF zd aaC aa0 m';go_wp2_with fail;go_quiet (first|(go_at_call 21;first|exact Calls.quiet_of (jo (h1.o _))|exact hv (jo (h1.o _)))|(go_at_call 22;first|exact Calls.quiet_of (jo (h2.o _))|exact hv (jo (h2.o _)))|(go_at_call 24;first|exact Calls.quiet_of (St.o _)|exact hv (St.o _)));clear h1 h2 St fF;have Aw:=ag (Aw.o.keep ((bb wr).drewN nq));generalize wr.drewN nq=abC at *;go_wp2_with fail;go_roundg (300-(k+1))
   case rel=>exact⟨k+1,rfl,U,by go_num,Aw.o⟩
   omega
  have abI:(b0 != 0)=true:=An.2 ys;obtain rfl:=aaq ys
  have m':Hid (o4 w.heap.size ab #[aR aJ,I d,I n,I s,aR t,I pat,I bU,I cb] B d n aJ (k+1) (y.alloc (af #[aq O 0 R,aq A jH T,.bool m] 35))):=ag ⟨M,bk,v,a,cl.forget l.out.1,l.out.2.2.1,l.out.2.2.2.1,by
   have:=l.out.2.2.2.2.2.2
   rw[eB,show bZ a f (a f)=a from by funext j;unfold bZ;split;subst j;rfl;rfl]at this;exact this,λj H=>by have:=l.out.2.2.2.2.1 j H;omega⟩
  clear l W' aaq ys aau aat;go_wp2_with fail;go_roundg (300-(k+1))
  case rel=>exact⟨k+1,rfl,U,by go_num,m'.o⟩
  omega
 obtain⟨M,bk,v,a,ak,_,_,an,aaZ⟩:=D.out;have C:=bW an aaZ;have CW:=ag ak;have aaw:=aO (ak.res (r:=az.bd ab (#[v 0,v 1],65)) qR);clear ak an aaZ D G;rcases (show(k<L.length/\k=300)\/¬ k<L.length by omega)with⟨an,rfl⟩|an
 all_goals
  clear aaY;go_wp2_with fail;refine aW (xU CW.out C.out.1 C.out.2 lb (j:=0) bt).1 λabO aa8=>?_;have r':=ag (CW.out.keep aa8);have abw:=aO (r'.o.res (r:=az.bd ab (#[v 0,v 1],65)) qR);clear CW aaw aa8;go_wp2_with fail;refine aW (xU r'.o C.out.1 C.out.2 lb (j:=0) bt).2 λabP aa9=>?_;have sd:=ag (r'.o.keep aa9);have abx:=aO (sd.o.res (r:=az.bd ab (#[v 0,v 1],65)) qR);clear r' abw aa9;go_wp2_with fail;refine aW (xU sd.o C.out.1 C.out.2 lb (j:=1) bt).1 λabQ aa_=>?_;have s':=ag (sd.o.keep aa_);have aby:=aO (s'.o.res (r:=az.bd ab (#[v 0,v 1],65)) qR);clear sd abx aa_;go_wp2_with fail;refine aW (xU s'.o C.out.1 C.out.2 lb (j:=1) bt).2 λabR aa'=>?_;have aaS:=(s'.o.keep aa').below.2;rw[zp.out]at aaS;clear s' aby aa';go_wp2_with fail;go_ret;exact⟨rfl,aaS⟩
def aah(g:k3 w)(h:0<w.heap.size)(aJ d n b f pat bU cb:aa)(l:0<=aJ/\aJ<=4294967295)(db:b_ Addr)(a:J)(L:ah k5)(i:eb w 6 db L.length a (wA L))(j:∀ c∈L,c.wf):aA 6 #[aL #[aR aJ,I d,I n,I b,aR f,I pat,I bU,I cb],aq db L.length a] w λe w'=>e=.returned (.bool true)/\Below w w w':=by
 by_cases aZ:we d n pat bU cb
 .obtain⟨h1,au,k,aU⟩:=aZ;have h2:=rZ h1;obtain⟨d,rfl⟩:=mj h2.1;obtain⟨n,rfl⟩:=mj (show 0<=n by omega);exact To g h aJ l d n b f pat bU cb U U au k aU db a L i j
 exact Tp g aJ d n b f pat bU cb _ aZ
end Go.Proofs.YtalagblioepadaaGreatDoor
