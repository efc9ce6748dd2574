/- The proof, part 30. -/
import Derived.Test.YtalagblioepadaaGreatDoorZe27
namespace Go.Proofs.YtalagblioepadaaGreatDoor
set_option linter.all false
open Proofs.Tryz List Go.RowKit Go.Shelf Go.Maps
set_option maxRecDepth 100000
set_option maxHeartbeats 1000000
variable{ww:Prop}
variable{n r u x y z:U}{M:ai (U×U)}{cap g:J}{W W':aj}
variable{w w':aj}{b:J}{dQ:ay}{ps:ai ew}
def agL(v:ay)(r:ai ay)(L:ai ay)(o:J)(a:o+(r.length+1)<=L.length):(L.set o v).take (o+1)++r++(L.set o v).drop (o+1+r.length)=L.take o++v :: r++L.drop (o+(r.length+1)):=by
 obtain⟨A,x,B,rfl,rfl⟩:∃ A x B,A.length=o/\L=A++x :: B:=⟨L.take o,L[o]'I,L.drop (o+1),b_,aM⟩;rw[set_append_right _ _ bu,HP,zs,take_append,drop_append,take_append,drop_append];simp[o1,HC,show A.length+1+r.length-A.length=r.length+1 by omega];omega
theorem OW(g:J)(t:TypeId):∀ (vs:ai ay) (o:J) (a:a6 ay) (w:aj),w.heap[g]?=some (ab a t (0,0))->o+vs.length<=a.size->
  (w.setCells g o vs).heap[g]?=some (ab (a.toList.take o++vs++a.toList.drop (o+vs.length)).toArray t (0,0))/\ag (λj=>j=g) w (w.setCells g o vs)
 | [],o,a,w,h,_=>⟨by simp[World.setCells,h],ag.refl _ _⟩
 | v :: r,o,a,w,h,c=>by
  rw[eA]at c;obtain⟨h2,b⟩:=OW g t r (o+1) _ (w.setCell (ah g o) v) (bX h o v) b_;refine⟨?_,((ag.refl (λj=>j=g) w).setCell (p:=ah g o) rfl v).trans b⟩;rw[World.setCells,h2]
  congr 3
  rw[Array.toList_setIfInBounds,eA];exact agL v r a.toList o C7
def sI(ps:ai ew)(i:J):ai ew:=ps.take i++ps.drop (i+1)++ps.drop (ps.length-1)
def YZ(h:w.ownsRow 0 296 10 (au (bT g) ps.length cap) ps.length (eQ ps))(i:J)(av:i<ps.length):(w.setCells g (i*10) (eQ (ps.drop (i+1)))).ownsRow 0 296 10 (au (bT g) ps.length cap) (sI ps i).length (eQ (sI ps i))/\(sI ps i).length=ps.length/\ag (λj=>j=g) w (w.setCells g (i*10) (eQ (ps.drop (i+1))))/\
   (∀ j u,(eQ (ps.drop (i+1)))[j]?=some u->w.cell? (ah g ((i+1)*10+j))=some u)/\(∀ j,j<(eQ (ps.drop (i+1))).length->(w.cell? (ah g (i*10+j))).isSome=true/\w.frozen? (ah g (i*10+j))=false):=by
 have⟨a,rest,a7,an,al,aw,hm,aA⟩:=rI (enc:=ew.bC) h;have an:a.toList=eQ ps++rest:=an;have k:eQ ps=eQ (ps.take (i+1))++eQ (ps.drop (i+1)):=by
  conv=>lhs;rw[<-n_ (i+1) ps]
  unfold eQ;rw[td]
 have f:=uf (ps.take (i+1));have d:=uf (ps.drop (i+1));rw[h3,o3 I]at f;rw[iv]at d;have e:a.toList.length=cap*10:=by rw[r9,aA]
 have⟨h1,h2⟩:=OW g 296 (eQ (ps.drop (i+1))) (i*10) a w a7 I;have c:(sI ps i).length=ps.length:=by unfold sI;simp;omega
 refine⟨⟨by rw[uf],.inr ⟨g,cap,_,by rw[c],al,h1,by rw[c];exact aw,hm,?_,?_⟩⟩,c,h2,λj u l=>?_,λj p=>⟨?_,gY a7 _⟩⟩
 .simp only[iw,cG,h3,iv,e];omega
 .have s:ps.drop (ps.length-1)=[ps[ps.length-1]'I]:=by
   rw[qO I,HC I]
  have m:(a.toList.take (i*10))=eQ (ps.take i):=by
   rw[an,k,eh]
   have:eQ (ps.take (i+1))=eQ (ps.take i)++ew.bC ps[i]:=by
    unfold eQ;rw[l7 av,td,jY,flatMap_nil,gq]
   rw[this,eh];have b:=uf (ps.take i);rw[h3,o3 I]at b;exact ti b
  have n:(a.toList.drop (i*10+(eQ (ps.drop (i+1))).length)).take 10=eQ (ps.drop (ps.length-1)):=by
   rw[d,show i*10+(ps.length-(i+1))*10=(ps.length-1)*10 by omega,an];have r:eQ ps=eQ (ps.take (ps.length-1))++eQ (ps.drop (ps.length-1)):=by
    conv=>lhs;rw[<-n_ (ps.length-1) ps]
    unfold eQ;rw[td]
   have b:=uf (ps.take (ps.length-1));rw[h3,o3 I]at b;rw[r,eh,zk b];have q:=uf (ps.drop (ps.length-1));rw[iv]at q;exact ti I
  have o:eQ (sI ps i)=eQ (ps.take i)++eQ (ps.drop (i+1))++eQ (ps.drop (ps.length-1)):=by unfold sI eQ;simp
  have ak:(a.toList.take (i*10)++eQ (ps.drop (i+1))).length=(ps.length-1)*10:=by
   rw[cG,h3,e,d];omega
  rw[c,take_append,ak,o1 I,show ps.length*10-(ps.length-1)*10=10 by omega,n,m,o]
 .have p:=(ir.1 l).1;refine bb a7 ?_;rw[<-ny,an,k,eh,l6 I,jF I,f,show(i+1)*10+j-(i+1)*10=j by omega];exact l
 obtain⟨v,a_⟩:∃ v,a[i*10+j]?=some v:=⟨_,uQ I⟩;rw[bb a7 a_];rfl
def abz:∃ i,prog.info? 296=some i/\i.size=10:=by
 have⟨i,_,h1,_,h2,_⟩:=Mz;exact⟨i,h1,h2⟩
def aec(h:w.ownsRow 0 296 10 (au (bT g) ps.length cap) ps.length (eQ ps))(i:J)(av:i<ps.length)(j:J)(n:i+1=j):aB 238 #[au (bT g) ps.length cap,aa i,aa j] w λe w'=>∃ v' ys,e=.returned v'/\w'.ownsRow 0 296 10 v' ys.length (eQ ys)/\ys.length<=ps.length/\ag (λj=>j=g) w w'/\v'.ownBlock=some g:=by
 have⟨E,z,C⟩:=abz;have⟨_,_,_,_,_,v,y,_⟩:=rI (enc:=ew.bC) h;have⟨h1,h2,c,d,f⟩:=YZ (b7 h (bd w).drew (λ_ _=>id)) i av;have⟨a,D⟩:=c8 (eQ (ps.drop (i+1)));have p:a.length=(ps.length-(i+1))*10:=by rw[D,uf,iv]
 rw[<-D]at h1 c d f;rw[h2]at h1;obtain⟨aF,m,q,l⟩:=BK (P:=prog) (TS:=289) (enc:=ew.bC) (λ_=>rfl) underlying289 OD rfl bs h1 (ps.length-1) I h2;obtain⟨H,k⟩:=c8 (w.drew.setCells g (i*10) a);rw[<-k]at m c l;have r:∀ u∈a,u.oneCell'=true:=λu N=>by
  refine ed;obtain⟨x,_,ak⟩:=xg.1 N;exact FP x u ak
 obtain⟨A,K,s⟩:∃ A:Addr,(if cap=j then some ((ah g 0):Addr)else some (eo g (j*10) db))=some A/\∀ t u,a[t]?=some u->w.drew.cell? (A.add t)=some u:=by
  by_cases an:cap=j
  .refine⟨(ah g 0),by simp[an],λt u N=>?_⟩
   have:=(ir.1 N).1
   omega
  refine⟨(ah g (j*10)),by simp[an],λt u N=>?_⟩;rw[iB,<-n];exact d t u N
 have B:((sI ps i).take (ps.length-1)).length=ps.length-1:=by rw[h3,h2];omega
 have b:=bN q (bx ((ag.refl (λj=>j=g) w).drew.trans (c.trans l)) B);have s1:Hid (a.length=(ps.length-j)*10):=ad (by rw[p,n]);have s2:=ad s;have fF:=ad r;have F:=ad f;have G:=ad k;have Q:j<=ps.length:=I;have L:i<=cap:=I;have M:j<=cap:=I;have R:i+(ps.length-j)=ps.length-1:=I;clear h h1 h2 c d f l q k D s r p y
 go_in
 go_wp2_with fail
 go_region_law (refine step_append_room rfl (.tmp 22) (.tmp 25) 289 rfl 296 E 10 underlying289 z C g 0 i cap xn A (ps.length-j) (cap-j) a xn s1.o s2.o fF.o I (λt aW=>by rw[gM];exact F.o t aW) ?_;rw[gM,<-G.o])
 have S:ps.length-1<=ps.length:=I;have T:=v;have V:¬ cap=ps.length-1:=I;go_wp2_with refine G4 (m _ _) rfl rfl rfl ?_
 go_ret;exact⟨_,_,rfl,by rw[b.o.2.2];exact b.o.1,by rw[b.o.2.2];omega,b.o.2.1,rfl⟩
def ZH(h:mQ w b dQ ps)(k:dD):aB 163 #[b,aG k] w λe w'=>(∃ c,e=aa c)/\jJ w b dQ w':=by
 refine Up;have y:=h.gR;refine DG;refine(Ly h1 k).mono ?_;rintro e aF ⟨q,x⟩;have h2:=f.o.1.keep q;have hk:=f.o.2.trans q;rcases x with rfl|⟨i,av,rfl⟩
 .have a:=ad (jJ.lY hk (jJ.same h2 (ag.refl _ _)));exact I5
 obtain⟨A,v,rfl,_,_⟩:=dA h2.row;obtain⟨g,rfl⟩:=nR h2.row I;have bw:=aX h2.hd;have f0:=bV h2.hd;have a:=bN h2 hk;refine aK;refine((aec h2.row i av (i+1) rfl)).mono ?_;rintro e br ⟨v',ys,rfl,ar,z,r,m⟩;have n:=a.o.1.ne g rfl;have l:=r.heap a.o.1.hd (λe=>n e.symm);refine o7;have bw:=aX l;have f0:=bV l;have L:=bX l 0 (au A ys.length cap);refine Dr;have s:=(ag.refl (λj=>j=b) br).setCell (p:=ah b 0) rfl (au A ys.length cap);refine fB;exact⟨⟨_,rfl⟩,((jJ.lY a.o.2 ⟨_,ys,⟨L,b7 ar s (λj d e=>by rw[m]at d;cases d;exact n e),I⟩,(r.mono (T:=λj=>j=b\/(au (bT g) ps.length v).ownBlock=some j) λj _ e=>.inr (by rw[e];rfl)).trans (s.mono λj _ e=>.inl e),λj d=>.inl (by rw[m]at d;exact d)⟩))⟩
def ZL(p:ew)(f:U)(b:J)(d:w.cell? (ah b 0)=some (aa f)):aB 154 #[aG p,b] w λr w'=>r=.returned (.bool (ub f p))/\Below w w w':=by
 have f1:=sE d (ab p 296);have V:=fS (P:=prog) 296 10 w 0 (nj p) _ _ isAgg296 sizeOf296 rfl (aP w (ab p 296)) (λj u a=>km);have c:=ad (ZN p f (w.alloc (ab p 296)));have iQ:=ad ((b9 w w).alloc bu (ab p 296));generalize ub f p=r at *;refine IK;refine xG;refine fB;exact⟨rfl,iQ.o.trans (al.mono iQ.o.size)⟩
def ZI(h:mQ w b dQ ps)(f:U):aB 92 #[b,aa f] w λe w'=>(∃ c,e=aa c)/\jJ w b dQ w':=by
 have mv:=(bd w).alloc (ab #[aa f] 3);have fo:=h.keep mv;have u:∀ j,dQ.ownBlock=some j->j<w.heap.size:=λj d=>qA h.row d;have C:=ad (aed fo.row C2 (ub f) 154 #[w.heap.size] (enters_of func154 bc rfl) (λW s x=>ZL x f w (bb (k:=0) (s.heap (aP w (ab #[aa f] 3)) (λe=>p5 _ (u _ e))) rfl)));have bw:=aX fo.hd;have f0:=bV fo.hd;obtain⟨A,r,rfl,_,_⟩:=dA h.row;refine p9;refine Dz;rintro e br ⟨v',rfl,ar,l,i⟩;have g:=l.heap Q.o.1.hd (λe=>Q.o.1.ne _ e rfl);have n:=oZ (λx=>!ub f x) ps;obtain⟨ys,q⟩:=c8 (ps.filter λx=>!ub f x);rw[<-q]at ar n;obtain⟨cV,cap,rfl,_,_⟩:=dA ar;have bw:=aX g;have f0:=bV g;have L:=bX g 0 (au cV ys.length cap);refine Dr;have m:=(ag.refl (λj=>j=b) br).setCell (p:=ah b 0) rfl (au cV ys.length cap);have t:=Q.o.1.gR;have a:=ad (jJ.lY Q.o.2 ⟨_,ys,⟨L,b7 ar m (λj d e=>Q.o.1.ne j (i▸d) e),I⟩,(l.mono (T:=λj=>j=b\/(au A ps.length r).ownBlock=some j) λj _ e=>.inr e).trans (m.mono λj _ e=>.inl e),λj d=>.inl (i▸d)⟩);clear g L m ar l i C Q q n t;exact I5
def tH(w:aj)(b:J):ae:=∃ x y z u:U,(aZ x/\aZ y/\aZ z/\aZ u)/\w.heap[b]?=some (ab #[af x,af y,af z,af u] 278 (0,0))
def Y5(w:aj):aB 133 #[] w λe w'=>e=.returned w.heap.size/\w'=w.alloc (ab fc 278):=by
 exact er
def qu(n:U):U:=if 0<n then n-max (n / 8) 1 else if n<0 then gU (n+max (-n / 8) 1)else 0
def Bl(h:aZ n):aZ (qu n):=by
 unfold qu aZ at *;split
 .omega
 split
 .exact gE _
 omega
def AJ(n:U)(h:aZ n)(w:aj):aB 142 #[af n] w λe w'=>e=af (qu n)/\w=w':=by
 unfold qu;by_cases h1:0<n
 .rw[aD h1];have a:IntKind.i32.wrap (n-max (n / 8) 1)=n-max (n / 8) 1:=by unfold aZ at h;exact IntWalk.i32_in _ I
  exact er
 rw[az h1];by_cases h2:n<0
 .rw[aD h2];have b:=wq h;have a:IntKind.i64.wrap (-n)=-n:=by unfold aZ at h;exact e0 _ I
  have c:IntKind.i64.wrap (n+max (-n / 8) 1)=n+max (-n / 8) 1:=by unfold aZ at h;exact e0 _ I
  refine cg;refine bJ (sN (n+max (-n / 8) 1) w) ?_;exact iZ
 rw[az h2];exact er
def adv(x y z u:U):∃ r,∀ W,(binOp .neq 274 (aG (d' x y z u)) (aG fc)).run prog W=.ok (.bool r) W:=by
 have av:∃ i,prog.info? 91=some i:=HQ.1 bc;have⟨i,av⟩:=av;have an:prog.cellsOf 91=2:=bc;have a:prog.underlying 274=some (.array 2 91):=bc;refine⟨!((decide (x=0)&&decide (y=0))&&(decide (z=0)&&decide (u=0))),λW=>?_⟩;have b:(part 91 (d' x y z u) (0*2)).run prog W=.ok (aG #[af x,af y]) W:=bc;have c:(part 91 (d' x y z u) (1*2)).run prog W=.ok (aG #[af z,af u]) W:=bc;have dq:(part 91 fc (0*2)).run prog W=.ok (aG cH) W:=bc;have gD:(part 91 fc (1*2)).run prog W=.ok (aG cH) W:=bc;have h:(Op.equalIn 10000 274 (aG (d' x y z u)) (aG fc)).run prog W=.ok ((decide (x=0)&&decide (y=0))&&(decide (z=0)&&decide (u=0))) W:=by
  rw[show(10000:J)=9999+1 from rfl,run_equalIn_array W 9999 _ _ a av,an,show range 2=[0,1]from rfl];simp only[Op.eqItems,iO,b,dq,GU,iu];rcases d:(decide (x=0)&&decide (y=0))with _|_
  .rfl
  simp only[Bool.not_true,za,if_false,iO,c,gD,GU,iu];cases (decide (z=0)&&decide (u=0))<;>rfl
 rw[run_neq_struct,h];rfl
structure j2(b:J)(x y z u:U)(w w':aj):ae where
 bh:w'.heap[b]?=some (ab #[af x,af y,af z,af u] 278 (0,0))
 bF:ag (λj=>j=b) w w'
def j2.keep{b:J}{w w' a:aj}(h:j2 b x y z u w w')(hk:ag aH w' a):j2 b x y z u w a:=⟨hk.heap h.bh id,h.bF.trans (hk.mono λ_ _ e=>e.elim)⟩
def j2.hJ{b:J}(h:j2 b x y z u w w')(v:U):j2 b v y z u w (w'.setCell (ah b 0) (af v)):=⟨by simpa using bX h.bh 0 (af v),h.bF.setCell rfl _⟩
def j2.s1{b:J}(h:j2 b x y z u w w')(v:U):j2 b x v z u w (w'.setCell (ah b 1) (af v)):=⟨by simpa using bX h.bh 1 (af v),h.bF.setCell rfl _⟩
def j2.s2{b:J}(h:j2 b x y z u w w')(v:U):j2 b x y v u w (w'.setCell (ah b 2) (af v)):=⟨by simpa using bX h.bh 2 (af v),h.bF.setCell rfl _⟩
def j2.fF{b:J}(h:j2 b x y z u w w')(v:U):j2 b x y z v w (w'.setCell (ah b 3) (af v)):=⟨by simpa using bX h.bh 3 (af v),h.bF.setCell rfl _⟩
def Y6(b:J)(h:tH w b):aB 87 #[b] w λe w'=>(∃ c,e=.returned (.bool c))/\tH w' b/\ag (λj=>j=b) w w':=by
 have⟨x,y,z,u,d,al⟩:=h;have p:=ad d;have B:j2 b x y z u w w:=⟨al,ag.refl _ w⟩;refine cg;go_loopg [7] 2 (λg i wr=>∃ k:J,g=2-k/\k<=2/\i=aa k/\∃ x y z u,(aZ x/\aZ y/\aZ z/\aZ u)/\j2 b x y z u w wr)
 case atStart=>exact⟨0,rfl,I,rfl,x,y,z,u,p.o,B⟩
 obtain⟨k,a7,hk,rfl,x,y,z,u,d,f⟩:=hrel;by_cases M:k<2
 .have H:k=0\/k=1:=I;rcases H with rfl|rfl
  .have q:=ad (λw=>AJ x d.1 w);have s:=ad (λw=>AJ y d.2.1 w);refine tC;refine zZ;have N:=aX l.bh;have g0:=bV l.bh;have g1:=bV f.bh;have P:=aX f.bh;refine aK;have⟨G,m⟩:=gg (F:=λW=>∃ v,j2 b v y z u w W);have bI:∀ t:bA G,t.to.cell? (ah b 1)=some (af y):=λt=>by
    exact V_
   have a:=(m _).2 ⟨_,l⟩;have A:=(m _).2 ⟨_,l.hJ (qu x)⟩;refine cS 18 ?_;refine RX;refine hG 15 trivial ?_;refine hG 16 trivial ?_;refine iV 17 trivial ?_;have C:=(l.hJ (qu x)).s1 (qu y);refine dU;refine aK;go_roundg 1
   case rel=>exact⟨1,rfl,I,cT,_,_,_,_,⟨Bl D.o.1,Bl D.o.2.1,D.o.2.2⟩,m'.o⟩
   omega
  have q:=ad (λw=>AJ z d.2.2.1 w);have s:=ad (λw=>AJ u d.2.2.2 w);refine tC;refine zZ;have g0:=bV l.bh;have g1:=bV f.bh;have P:=aX f.bh;refine aK;have⟨G,m⟩:=gg (F:=λW=>∃ v,j2 b x y v u w W);have bI:∀ t:bA G,t.to.cell? (ah b 3)=some (af u):=λt=>by
   exact V_
  have a:=(m _).2 ⟨_,l⟩;have A:=(m _).2 ⟨_,l.s2 (qu z)⟩;refine cS 18 ?_;refine RX;refine hG 15 trivial ?_;refine hG 16 trivial ?_;refine iV 17 trivial ?_;have C:=(l.s2 (qu z)).fF (qu u);refine dU;refine aK;go_roundg 0
  case rel=>exact⟨2,rfl,I,cT,_,_,_,_,⟨D.o.1,D.o.2.1,Bl D.o.2.2.1,Bl D.o.2.2.2⟩,m'.o⟩
  omega
 obtain rfl:k=2:=I;have hne:=adv x y z u;obtain⟨r,hne⟩:=hne;have L:∀ W,(Instr.build 274 #[]).run prog W=.ok (aG fc) W:=λW=>bc;have bw:=aX f.bh;have n:=bN d f;refine aK;go_ret;exact⟨⟨_,rfl⟩,⟨_,_,_,_,n.o.1,n.o.2.bh⟩,n.o.2.bF⟩
def Wy {p:ae} (h:p:=by
 have h2:=ad (show aZ eZ from a'▸gE _);have lb:=ad (show aZ t from fo▸gE _);rw[<-a',<-fo]at d;have sd:=ad (λW=>GF eZ t h2.o lb.o W);clear f R a' fo L M E H;have TS:=aX d;refine aK;refine bJ (sd.o _) ?_;go_upto_if 28 with fail
 go_cut [5] (λmv bE=>∃ c:U,mv=aa c/\∃ eZ t,(aZ eZ/\aZ t)/\mT b w.heap.size x y z u p q r s w bE/\bE.heap[o]?=ab #[af eZ,af t] 91 (0,0))
 case first=>
  have f0:=bV d;have fr:=((ag.refl (λj=>j=o) wc).setCell (p:=ah o 0) rfl (af 0)).setCell (p:=ah o 1) rfl (af 0);have vs:=jq d (af 0) (af 0);have B:mT b w.heap.size x y z u p q r s w _:=⟨⟨fr.heap m.e6.bh (by have:=T.o;omega),c1 m.e6.bF fr a1⟩,fr.heap m.bD I⟩;have b5:=bN B vs;have se:=bN m d;clear m d fr vs B;go_wp2_with fail
  .go_meet;exact⟨_,rfl,0,0,eN,b5.o.1,b5.o.2⟩
  .go_meet;exact⟨_,rfl,eZ,t,⟨h2.o,lb.o⟩,se.o.1,se.o.2⟩
 case rest=>
 obtain⟨c,rfl,eZ,t,s',B,vl⟩:=hcut;clear sd TS h2 lb m d;have l':=B.e6.keep (bd wc).drew;have bw:=aX B.e6.bh;have f0:=bV B.e6.bh;have bR:=jP (S:=aH) (w:=wc.drew) vl id;generalize ?_=O;exact O
 ):p:=h
def BN(w:aj):(Instr.alloc 91 true (aV #[])).run prog w=.ok w (w.alloc (ab cH 91)):=bc
structure mT(b bD:J)(x y z u p q r s:U)(w W:aj):ae where
 e6:j2 b x y z u w W
 bD:W.heap[bD]?=ab #[af p,af q,af r,af s] 274 (0,0)
theorem mT.keep{b bD:J}{p q s:U}(h:mT b bD x y z u p q r s w W)(hk:ag aH W W'):mT b bD x y z u p q r s w W':=⟨h.e6.keep hk,hk.heap h.bD id⟩
def mT.put{b bD:J}{p q s:U}(h:mT b bD x y z u p q r s w W)(al:b<w)(ak:w.heap.size=bD)(o:J)(ar:W.heap[o]?=ab cH 91 (0,0))(aw:bD<o)(a c:U):∃ W',(Instr.storeAt 91 o (aG #[af a,af c])).run prog W=.ok () W'/\W'.heap[o]?=ab #[af a,af c] 91 (0,0)/\mT b bD x y z u p q r s w W':=by
 obtain⟨h1,_,d⟩:=dT W 91 2 o #[af a,af c] _ sizeOf91 rfl rfl ar rfl;exact⟨_,h1,fb _ _ _ _ _ ar,⟨d.heap h.e6.bh I,c1 h.e6.bF d a1⟩,d.heap h.bD I⟩
def Y4(b:J)(h:tH w b)(p q r s:U)(ao:aZ p/\aZ q/\aZ r/\aZ s):aB 140 #[b,aG (d' p q r s)] w λe w'=>(∃ c,e=aa c)/\tH w' b/\ag (λj=>j=b) w w':=by
 have⟨x,y,z,u,C,al⟩:=h;have T:=ad (bZ al);refine dU;have Q:=ad ao;have Q':=(ag.refl (λj=>j=b) w).alloc (ab (d' p q r s) 274);have v':mT b w x y z u p q r s w (w.alloc (ab (d' p q r s) 274)):=⟨⟨b2 al _,Q'⟩,aP w _⟩;refine cg;go_loopg [5,10] 2 (λg mv i wr=>∃ (k:J) (c:U),g=2-k/\k<=2/\i=aa k/\mv=aa c/\∃ x y z u,(aZ x/\aZ y/\aZ z/\aZ u)/\mT b w x y z u p q r s w wr)
 case atStart=>exact⟨0,0,rfl,I,rfl,rfl,x,y,z,u,m'.o,v'⟩
 obtain⟨k,c,a7,hk,rfl,rfl,x,y,z,u,C,f⟩:=hrel;have D:=ad C;by_cases Y:k<2
 .have ys:k=0\/k=1:=I;rcases ys with rfl|rfl
  .have L:=D.o.1;have M:=D.o.2.1;have E:=Q.o.1;have H:=Q.o.2.1;have R:=ad (λW=>wW x y p q L M E H W);have Y:=bZ f.bD;go_upto_region 7 with fail
   go_cut [7] (λg' bE=>∃ o,g'=(bM o)/\w<o/\mT b w x y z u p q r s w bE/\bE.heap[o]?=ab #[af (cY x p),af (cY y q)] 91 (0,0))
   case first=>
    refine zZ;have⟨G,n⟩:=gg (F:=λW=>mT b w x y z u p q r s w W);refine S2;refine Uf;refine mo 9 10 (λK a=>?_) (λK a=>?_)
    all_goals simp only[cD,gS]
    focus
     go_simp;refine aS (R.o _) λaq P=>?_;have A:=ag.bU (S:=aH) P a1;have V:=l.keep A;have v:=V.keep ((bd aq).alloc (ab cH 91));have zp:wr<=aq.heap.size:=A.size;obtain⟨hd,Z,d,m⟩:=v.put T.o rfl aq (aP aq _) I (cY x p) (cY y q);refine a _ _ ((n _).2 V) ?_;refine jh 10 λK a=>?_;refine ta rfl (BN aq) ?_;refine a _ _ ((n _).2 v) ?_;simp only[Act.put,dV]
    rotate_left
    focus
     refine ta rfl (BN wr.drew) ?_;have X:=l.keep ((bd wr.drew).alloc (ab cH 91));have gf:=aP wr.drew (ab cH 91);refine a _ _ ((n _).2 X) ?_;clear a K;simp only[Act.put,dV];refine jh 9 λK a=>?_;go_simp;refine aS (R.o _) λaq P=>?_;have A:=ag.bU (S:=aH) P a1;have v:=X.keep A;obtain⟨hd,Z,d,m⟩:=v.put T.o rfl wr (A.heap gf id) Y (cY x p) (cY y q);refine a _ _ ((n _).2 v) ?_;clear a K
    rotate_left
    all_goals
     refine cJ (λ_=>True) [11] 0 1 ?_;refine pE 11 trivial (l3 rfl rfl rfl Z) ?_;simp only[Act.put];go_wp2_with fail;go_meet
    .exact⟨_,rfl,I,m,d⟩
    exact⟨_,rfl,Y,m,d⟩
   case rest=>
   obtain⟨o,rfl,zd,m,d⟩:=hcut;obtain⟨eZ,a'⟩:=c8 (cY x p);obtain⟨t,fo⟩:=c8 (cY y q);refine Wy;have ps:=(l'.hJ eZ).s1 t;have fO:=((ag.refl (λj=>j=b) wc.drew).setCell (p:=ah b 0) rfl (af eZ)).setCell (p:=ah b 1) rfl (af t);refine WJ;go_roundg 1
   case rel=>exact⟨1,_,rfl,I,cT,rfl,_,_,_,_,⟨N.o.2.2.1,N.o.2.2.2,D.o.2.2⟩,N.o.1,N.o.2.1⟩
   omega
  refine VO;have R:=ad (λW=>wW z u r s L M E H W);have Y:=bZ f.bD;go_upto_region 7 with fail
  go_cut [7] (λg' bE=>∃ o,g'=(bM o)/\w.heap.size<o/\mT b w x y z u p q r s w bE/\bE.heap[o]?=ab #[af (cY z r),af (cY u s)] 91 (0,0))
  case first=>
   refine zZ;have⟨G,n⟩:=gg (F:=λW=>mT b w x y z u p q r s w W);refine S2;clear f L M E H;refine Uf;refine mo 9 10 (λK a=>?_) (λK a=>?_)
   all_goals simp only[cD,gS]
   focus
    go_simp;refine aS (R.o _) λaq P=>?_;have A:=ag.bU (S:=aH) P a1;have V:=l.keep A;have v:=V.keep ((bd aq).alloc (ab cH 91));have zp:wr.heap.size<=aq.heap.size:=A.size;obtain⟨hd,Z,d,m⟩:=v.put T.o rfl aq (aP aq _) I (cY z r) (cY u s);refine a _ _ ((n _).2 V) ?_;clear a K;refine jh 10 λK a=>?_;refine ta rfl (BN aq) ?_;refine a _ _ ((n _).2 v) ?_;clear a K;simp only[Act.put,dV]
   rotate_left
   focus
    refine ta rfl (BN wr.drew) ?_;have X:=l.keep ((bd wr.drew).alloc (ab cH 91));have gf:=aP wr.drew (ab cH 91);refine a _ _ ((n _).2 X) ?_;clear a K;simp only[Act.put,dV];refine jh 9 λK a=>?_;go_simp;refine aS (R.o _) λaq P=>?_;have A:=ag.bU (S:=aH) P a1;have v:=X.keep A;obtain⟨hd,Z,d,m⟩:=v.put T.o rfl wr (A.heap gf id) Y (cY z r) (cY u s);refine a _ _ ((n _).2 v) ?_;clear a K
   rotate_left
   all_goals
    refine cJ (λ_=>True) [11] 0 1 ?_;refine pE 11 trivial (l3 rfl rfl rfl Z) ?_;simp only[Act.put];go_wp2_with fail;go_meet
   .exact⟨_,rfl,I,m,d⟩
   exact⟨_,rfl,Y,m,d⟩
  case rest=>
  obtain⟨o,rfl,zd,m,d⟩:=hcut;obtain⟨eZ,a'⟩:=c8 (cY z r);obtain⟨t,fo⟩:=c8 (cY u s);refine Wy;have ps:=(l'.s2 eZ).fF t;have fO:=((ag.refl (λj=>j=b) wc.drew).setCell (p:=ah b 2) rfl (af eZ)).setCell (p:=ah b 3) rfl (af t);refine WJ;go_roundg 0
  case rel=>exact⟨2,_,rfl,I,cT,rfl,_,_,_,_,⟨D.o.1,D.o.2.1,N.o.2.2.1,N.o.2.2.2⟩,N.o.1,N.o.2.1⟩
  omega
 obtain rfl:k=2:=I;have r':=ad f;clear f;refine aK;go_ret;exact⟨⟨_,rfl⟩,⟨_,_,_,_,D.o,r'.o.e6.bh⟩,r'.o.e6.bF⟩
section
def aC.ld(B:fX)(s:cR):aC:=⟨B.S,λw=>da w B s,λh al=>h.lt al,λh hk aA=>h.keeps hk aA⟩
def aC.gT(b:J)(n:U)(dC:ay):aC where
 S j:=j=b\/dC.ownBlock=some j
 P w:=∃ vs,ma w b n dC vs
 lt:=λ⟨_,h⟩ a=>a.elim (λe=>e▸bZ h.hd) λe=>qA h.row e
 frame:=λ⟨vs,h⟩ hk aA=>⟨vs,hk.heap h.hd (aA _ (.inl rfl)),b7 h.row hk λj a=>aA j (.inr a),h.gR⟩
def aC.e7(b:J)(dQ:ay):aC where
 S j:=j=b\/dQ.ownBlock=some j
 P w:=∃ ps,mQ w b dQ ps
 lt:=λ⟨_,h⟩ a=>a.elim (λe=>e▸bZ h.hd) λe=>qA h.row e
 frame:=λ⟨vs,h⟩ hk aA=>⟨vs,hk.heap h.hd (aA _ (.inl rfl)),b7 h.row hk λj a=>aA j (.inr a),h.gR⟩
def aC.e6(b:J):aC where
 S j:=j=b
 P w:=tH w b
 lt:=λ⟨_,_,_,_,_,h⟩ c=>by subst c;exact bZ h
 frame:=λ⟨x,y,z,u,a,h⟩ hk aA=>⟨x,y,z,u,a,hk.heap h (aA b rfl)⟩
def nY(M:ai (U×U)):ai (U×ay):=M.map λp=>(p.1,bz p.2)
def mR(w:aj)(b:J)(M:ai (U×U)):ae:=gv w tZ b (nY M)/\∀ p∈M,0<=p.1/\p.1<2147483648
def aC.jA(b:J)(M:ai (U×U)):aC where
 S j:=j=b
 P w:=mR w b M
 lt h e:=by subst e;exact h.1.lt
 frame h hk aA:=⟨h.1.keeps hk (aA b rfl),h.2⟩
def aC.dn(v:ay)(l:ai cq):aC where
 S j:=v.ownBlock=some j
 P w:=w.ownsRow 0 47 12 v l.length (eY l)
 lt h a:=qA h a
 frame h hk aA:=b7 h hk aA
def aC.out(o:J)(v sd:ay)(m:aY)(l:ai cq):aC where
 S j:=j=o\/v.ownBlock=some j
 P w:=w.heap[o]?=some (ab #[v,sd,.bool m] 35 (0,0))/\w.ownsRow 0 47 12 v l.length (eY l)
 lt h a:=a.elim (λe=>e▸bZ h.1) λe=>qA h.2 e
 frame h hk aA:=⟨hk.heap h.1 (aA _ (.inl rfl)),b7 h.2 hk λj a=>aA j (.inr a)⟩
structure Old where
 bt:J
 w:aj
def aC.kinds(fu:Old):aC where
 S j:=j<fu.bt
 P w:=mc w/\Below fu.bt fu.w w/\0<fu.bt/\fu.bt<=fu.w.heap.size
 lt h e:=o2 e (cu h.2.2.2 h.2.1.size)
 frame h hk aA:=⟨h.1.keep hk (aA 0 h.2.2.1),h.2.1.trans (hk.below (cu h.2.2.2 h.2.1.size) λk h1 h2=>aA k h1 h2),h.2.2⟩
structure hg where
 p:J
 c:hs
 L:j3
 lb:J
 dM:J
 iq:J
 gT:J
 e7:J
 e6:J
 dZ:J
 wt:J
structure hQ where
 M:ai (U×ay)
 cM:U
 dC:ay
 dQ:ay
 nU:U
def qo(b:hg)(s:ch)(n:U):a6 ay:=#[b.c.c,b.L.p,b.lb,b.gT,b.e7,b.e6,.map (some b.dZ),.map (some b.wt),aa s.cC,.bool s.cn,aa s.reason,aa n]
def bO(b:hg)(s:ch)(d:hQ):ai aC:=[aC.bh b.p (qo b s d.nU,114),aC.core b.c s.x,aC.link b.L s.aJ,aC.ld ⟨b.lb,b.dM,b.iq,d.M⟩ s.ld,aC.gT b.gT d.cM d.dC,aC.e7 b.e7 d.dQ,aC.e6 b.e6,aC.jA b.dZ s.own,aC.jA b.wt s.wt]
def gr(w:aj)(b:hg)(p:c9)(o:J)(sd:ay)(m:aY)(R:ai aC):ae:=∃ d v,Sep w (bO b p.1 d++aC.out o v sd m p.2 :: R)
namespace Sep
variable{w w':aj}{L Ah:ai aC}
theorem perm(h:Sep w L)(ao:L.Perm Ah):Sep w Ah:=⟨λr a=>h.all r (ao.mem_iff.2 a),h.apart.perm ao λh=>h.symm⟩
def sub(h:Sep w L)(ao:Ah.Sublist L):Sep w Ah:=⟨λr a=>h.all r (ao.subset a),h.apart.sublist ao⟩
def BU{T:J->ae}(h:Sep w L)(i:J){r r' q:aC}(av:L[i]?=some r)(hk:ag T w w')(e:∀ b,b<w.heap.size->T b->r.S b)(d:r'.P w')(ax:∀ b,r'.S b->r.S b\/w.heap.size<=b)(f:q.P w')(aw:∀ b,q.S b->w.heap.size<=b)(bg:tF q r'):Sep w' (q :: L.set i r'):=by
 have h2:=h.set i av hk e d ax;refine⟨λs aA=>?_,k4.2 ⟨λs aA b a c=>?_,h2.apart⟩⟩
 .rcases fW.1 aA with rfl|aA
  .exact f
  exact h2.all s aA
 rcases CE aA with aA|rfl
 .have:=h.lt aA c
  have:=aw b a
  omega
 exact bg b a c
def jS{A B:ai aC}{r:aC}(h:Sep w (r :: (A++B))):Sep w (A++r :: B):=h.perm qR.symm
def sS{A B:ai aC}{r q:aC}(h:Sep w (r :: (A++q :: B))):Sep w (A++q :: r :: B):=h.perm (qR.symm.trans ((Perm.swap q r B).append_left A))
def ain{A B:ai aC}{r:aC}(h:Sep w (A++r :: B)):Sep w (A++B):=h.sub ((sublist_cons_self r B).append_left A)
def rR{A B:ai aC}{r q:aC}(h:Sep w (A++q :: r :: B)):Sep w (A++q :: B):=h.sub (((sublist_cons_self r B).cons_cons q).append_left A)
end Sep
section
variable{w w':aj}{b:hg}{s:ch}{p:c9}{o:J}{sd:ay}{m:aY}{R:ai aC}{d:hQ}{A:ai aC}
def EP(h:Sep w (bO b s d++R)):w.heap[b.p]?=some (ab (qo b s d.nU) 114 (0,0)):=h.at' 0 rfl
def iE(h:Sep w (bO b s d++R)):c5 w b.c s.x:=h.at' 1 rfl
def pv(h:Sep w (bO b s d++R)):cW w b.L s.aJ:=h.at' 2 rfl
def pt(h:Sep w (bO b s d++R)):da w ⟨b.lb,b.dM,b.iq,d.M⟩ s.ld:=h.at' 3 rfl
def EU(h:Sep w (bO b s d++R)):∃ vs,ma w b.gT d.cM d.dC vs:=h.at' 4 rfl
def ET(h:Sep w (bO b s d++R)):∃ ps,mQ w b.e7 d.dQ ps:=h.at' 5 rfl
def L2(h:Sep w (bO b s d++R)):tH w b.e6:=h.at' 6 rfl
def EX(h:Sep w (bO b s d++R)):mR w b.dZ s.own:=h.at' 7 rfl
def yj(h:Sep w (bO b s d++R)):mR w b.wt s.wt:=h.at' 8 rfl
def ox(h:Sep w (bO b s d++R))(k:J){v:ay}(a_:(qo b s d.nU)[k]?=some v):w.cell? (ah b.p k)=some v:=bb (EP h) a_
def nb(h:Sep w (bO b s d++R)):w.cell? (ah b.p 0)=some (bM b.c.c):=ox h 0 rfl
def qp(h:Sep w (bO b s d++R)):w.cell? (ah b.p 1)=some (bM b.L.p):=ox h 1 rfl
def wi(h:Sep w (bO b s d++R)):w.cell? (ah b.p 2)=some (bM b.lb):=ox h 2 rfl
def aal(h:Sep w (bO b s d++R)):w.cell? (ah b.p 3)=some (bM b.gT):=ox h 3 rfl
def LZ(h:Sep w (bO b s d++R)):w.cell? (ah b.p 4)=some (bM b.e7):=ox h 4 rfl
def L0(h:Sep w (bO b s d++R)):w.cell? (ah b.p 5)=some (bM b.e6):=ox h 5 rfl
def ER(h:Sep w (bO b s d++R)):w.cell? (ah b.p 6)=some (.map (some b.dZ)):=ox h 6 rfl
def ES(h:Sep w (bO b s d++R)):w.cell? (ah b.p 7)=some (.map (some b.wt)):=ox h 7 rfl
def L1(h:Sep w (bO b s d++R)):w.cell? (ah b.p 8)=some (aa s.cC):=ox h 8 rfl
def rh(h:Sep w (bO b s d++R)):w.cell? (ah b.p 9)=some (.bool s.cn):=ox h 9 rfl
def LY(h:Sep w (bO b s d++R)):w.cell? (ah b.p 10)=some (aa s.reason):=ox h 10 rfl
def aak(h:Sep w (bO b s d++R)):w.cell? (ah b.p 11)=some (aa d.nU):=ox h 11 rfl
def AY(h:Sep w (bO b s d++R))(k:J):w.frozen? (ah b.p k)=false:=gY (EP h) k
theorem AZ(h:Sep w (bO b s d++R)){x:cO}(ak:c5 w' b.c x)(hk:ag b.c.S w w'):Sep w' (bO b {s with x:=x} d++R):=
 h.set 1 (r':=aC.core b.c x) rfl hk (λ_ _ h=>h) ak (λ_ h=>.inl h)
theorem A0(h:Sep w (bO b s d++R)){l:cj}(ak:cW w' b.L l)(hk:ag b.L.S w w'):Sep w' (bO b {s with aJ:=l} d++R):=
 h.set 2 (r':=aC.link b.L l) rfl hk (λ_ _ h=>h) ak (λ_ h=>.inl h)
def EY(h:Sep w (bO b s d++R)){kH:fX}{s':cR}{v:ay}{l:ai cq}(g:Ai w ⟨b.lb,b.dM,b.iq,d.M⟩ w' kH s')(a_:w'.ownsRow w 47 12 v l.length (eY l))(aw:∀ j,v.ownBlock=some j->¬ kH.S j):Sep w' (aC.dn v l :: (bO b {s with ld:=s'} {d with M:=kH.M}++R)):=by
 obtain⟨h1,a,c,e,h2,f⟩:=g;obtain⟨bS,k,m,M⟩:=kH;subst a c e;exact h.BU 3 (r':=aC.ld ⟨b.lb,b.dM,b.iq,M⟩ s') (q:=aC.dn v l) rfl f (λ_ _ h=>h) h1 h2 (ku a_ (c3 _)) (λj i=>(a_.lt j i).1) aw
def aap(h:Sep w (bO b s d++R))(e:jJ w b.e7 d.dQ w'):∃ dQ,Sep w' (bO b s {d with dQ:=dQ}++R):=by
 obtain⟨dC,vs,h1,h2,c⟩:=e;exact⟨dC,h.set 5 (r':=aC.e7 b.e7 dC) rfl h2 (λ_ _ h=>h) ⟨vs,h1⟩ λj a=>by
  rcases a with a|a
  .exact Ad
  .exact(c j a).imp .inr id⟩
theorem L3(h:Sep w (bO b s d++R))(ak:tH w' b.e6)(hk:ag (λj=>j=b.e6) w w'):Sep w' (bO b s d++R):=
 h.set 6 (r':=aC.e6 b.e6) rfl hk (λ_ _ h=>h) ak (λ_ h=>.inl h)
theorem L5(h:Sep w (bO b s d++R))(ak:mR w' b.dZ M)(hk:ag (λj=>j=b.dZ) w w'):Sep w' (bO b {s with own:=M} d++R):=
 h.set 7 (r':=aC.jA b.dZ M) rfl hk (λ_ _ h=>h) ak (λ_ h=>.inl h)
theorem L6(h:Sep w (bO b s d++R))(ak:mR w' b.wt M)(hk:ag (λj=>j=b.wt) w w'):Sep w' (bO b {s with wt:=M} d++R):=
 h.set 8 (r':=aC.jA b.wt M) rfl hk (λ_ _ h=>h) ak (λ_ h=>.inl h)
def AX(h:Sep w (bO b s d++R)){s':ch}(k:J)(v:ay)(a_:(qo b s d.nU).setIfInBounds k v=qo b s' n)(h1:s'.x=s.x)(h2:s'.aJ=s.aJ)(a:s'.ld=s.ld)(c:s'.own=s.own)(e:s'.wt=s.wt):Sep (w.setCell (ah b.p k) v) (bO b s' {d with nU:=n}++R):=by
 have:=h.set (w':=w.setCell (ah b.p k) v) 0 (r':=aC.bh b.p (qo b s' n,114)) rfl (ag.setCell (S:=λj=>j=b.p) (ag.refl _ w) rfl _) (λ_ _ h=>h) (by have:=bX (EP h) k v;rw[a_]at this;exact this) (λ_ h=>.inl h)
 simpa[bO,h1,h2,a,c,e]using this
end
section
variable{w w':aj}{b:hg}{p:c9}{o:J}{v sd:ay}{m:aY}{R:ai aC}{d:hQ}
def lM(h:Sep w (bO b p.1 d++aC.out o v sd m p.2 :: R)):w.heap[o]?=some (ab #[v,sd,.bool m] 35 (0,0))/\w.ownsRow 0 47 12 v p.2.length (eY p.2):=h.at' 9 rfl
theorem EZ(h:Sep w (bO b p.1 d++aC.out o v sd m p.2 :: R)){v' sd':ay}{m':aY}{l:ai cq}(ak:w'.heap[o]?=some (ab #[v',sd',.bool m'] 35 (0,0))/\w'.ownsRow 0 47 12 v' l.length (eY l))(hk:ag (λj=>j=o\/v.ownBlock=some j) w w')(ax:∀ j,v'.ownBlock=some j->j=o\/v.ownBlock=some j\/w.heap.size<=j):Sep w' (bO b p.1 d++aC.out o v' sd' m' l :: R):=
 h.set 9 (r':=aC.out o v' sd' m' l) rfl hk (λ_ _ h=>h) ak λj a=>by
  rcases a with a|a
  .exact Ad
  rcases ax j a with e|e|e
  .exact .inl (.inl e)
  .exact .inl (.inr e)
  exact .inr e
end
end
variable{b:hg}{s:ch}{R:ai aC}{d:hQ}
def aa0{p:J}{nF:hs}{x:cO}{F:aj->ae}(h:F w)(E:∀ W W',F W->ag (λj=>w<=j) W W'->F W')(T:∀ W,F W->W.cell? (ah p 0)=some (bM nF.c))(C:∀ W,F W->c5 W nF x)(v:J->U)(D:h_ x.L (x.now:U)=some v):aB 137 #[p] w λe w'=>e=.returned (.agg (aQ v))/\ag aH w w':=by
 have R:=aP w (ab (aQ bW) 99);have S:=(bd w).alloc (ab (aQ bW) 99);have H:∀ W W',F W->ag aH W W'->F W':=λW W' a k=>E W W' a (k.mono λ_ _ e=>e.elim);have V:=(C _ h).fq;have t:=ad E;have u:=ad H
 go_in
 refine US;have i:=H _ _ (H _ _ h S) (ag.refl _ bo).drew;have bR:∀ x:bA F,x.to.cell? (ah p 0)=some (bM nF.c):=λx=>T _ x.held;have Q:=ad (λ(W:aj) (z:F W)=>x' (C W z));have N:=ad (λ(W:aj) (z:F W)=>K0 (C W z) (x.now:U) I);refine ed;refine DD;have A:bo.drew.heap[w.heap.size]?=some (ab (aQ bW) 99 (0,0)):=R;have P:=S.drew;have X:w<bo.drew.heap.size:=bZ R;refine xS;refine cS 18 ?_;refine cJ (F) (.range 18) 0 18 ?_;refine dN (i) (.range 10) 8 ?_;generalize bo.drew=bo at *;refine mo 10 15 (λK E=>?_) (λK E=>?_)
 all_goals simp only[cD,gS]
 .go_simp;refine bJ (Q.o _ i) ?_;refine E _ _ (i) ?_;refine mo 11 15 (λK E=>?_) (λK E=>?_)
  all_goals simp only[cD,gS]
  focus
   go_simp;refine aS (N.o _ i) λaq d=>?_;have B:=u.o _ _ i d;refine E _ _ (B) ?_;refine dN (B) [12,13,14] 3 ?_;have b:=u.o _ _ B ((ag.refl _ aq).alloc (ab (aQ bW) 99));refine sT 15 b (ta rfl (kh _)) ?_;simp only[Act.put,dV];obtain⟨q,_,f⟩:=dT (aq.alloc (ab (aQ bW) 99)) 99 60 aq (aQ v) _ sizeOf99 (dX _) (dX _) (aP aq (ab (aQ bW) 99)) (fJ.2 (oD v));have l:=ks (fb (aq.alloc (ab (aQ bW) 99)) aq _ (aQ v) 99 (aP aq (ab (aQ bW) 99)));have aw:w<aq.heap.size:=by first|omega|(have:=d.size;omega)
   have m:=t.o _ _ b (f.mono λ_ _ e=>I);have n:=f.heap (b2 (d.heap A id) (ab (aQ bW) 99)) I;have r:=c1 ((P.trans d).alloc (ab (aQ bW) 99)) f a1;generalize World.setRow (aq.alloc (ab (aQ bW) 99)) aq (aQ v)=s at *
  rotate_left
  focus
   have b:=u.o _ _ i ((ag.refl _ bo).alloc (ab (aQ bW) 99));refine ta rfl (kh _) ?_;refine E _ _ (b) ?_;simp only[Act.put,dV];refine eK 11 λK E=>?_;go_simp;refine aS (N.o _ b) λaq d=>?_;have B:=u.o _ _ b d;refine E _ _ (B) ?_;refine dN (B) [12,13,14] 2 ?_;obtain⟨q,_,f⟩:=dT aq 99 60 bo (aQ v) _ sizeOf99 (dX _) (dX _) (d.heap (aP bo (ab (aQ bW) 99)) id) (fJ.2 (oD v));have l:=ks (fb aq bo _ (aQ v) 99 (d.heap (aP bo (ab (aQ bW) 99)) id));have aw:w.heap.size<bo.heap.size:=by first|omega|(have:=d.size;omega)
   have m:=t.o _ _ B (f.mono λ_ _ e=>I);have n:=f.heap (d.heap (b2 A (ab (aQ bW) 99)) id) I;have r:=c1 ((P.alloc (ab (aQ bW) 99)).trans d) f a1;generalize World.setRow aq bo (aQ v)=s at *
  rotate_left
  all_goals
   obtain⟨g,M,G⟩:=dT s 99 60 w (aQ v) _ sizeOf99 (dX _) (dX _) n (fJ.2 (oD v));have y:=c1 r G a1;refine sT 16 m (l3 rfl rfl rfl q) ?_;simp only[Act.put];refine iV 17 m ?_;go_wp2_with first|refine dg l rfl rfl rfl ?_|refine c' g rfl rfl rfl rfl ?_
   refine dj (v:=.agg (aQ v)) M ?_;exact⟨rfl,y⟩
 have b:=u.o _ _ i ((ag.refl _ bo).alloc (ab (aQ bW) 99));refine ta rfl (kh _) ?_;refine E _ _ (b) ?_;refine xS;refine eK 10 λK E=>?_;go_simp;refine bJ (Q.o _ b) ?_;refine E _ _ (b) ?_;refine eK 11 λK E=>?_;go_simp;refine aS (N.o _ b) λaq d=>?_;refine Du;refine dN (B) [12,13,14] 2 ?_;obtain⟨q,_,f⟩:=dT aq 99 60 bo (aQ v) _ sizeOf99 (dX _) (dX _) (d.heap (aP bo (ab (aQ bW) 99)) id) (fJ.2 (oD v));have l:=ks (fb aq bo _ (aQ v) 99 (d.heap (aP bo (ab (aQ bW) 99)) id));have aw:w.heap.size<bo.heap.size:=by first|omega|(have:=d.size;omega)
 have m:=t.o _ _ B (f.mono λ_ _ e=>I);have n:=f.heap (d.heap (b2 A (ab (aQ bW) 99)) id) I;have r:=c1 ((P.alloc (ab (aQ bW) 99)).trans d) f a1;generalize World.setRow aq bo (aQ v)=s at *;obtain⟨g,M,G⟩:=dT s 99 60 w (aQ v) _ sizeOf99 (dX _) (dX _) n (fJ.2 (oD v));have y:=c1 r G a1;refine sT 16 m (l3 rfl rfl rfl q) ?_;refine p';refine iV 17 m ?_;refine Iw;refine dj (v:=.agg (aQ v)) M ?_;exact o8
def agH{L:ai aC}(h:Sep w L):∀ W W',Sep W L->ag (λj=>w<=j) W W'->Sep W' L:=λ_ _ a k=>a.keeps k λr c j b e=>by have:=h.lt c b;omega
def Mm(h:Sep w (bO b s d++R)):aB 93 #[b.p] w λe w'=>e=aa (jg s)/\∃ q,w'=w.drewN q:=by
 have aw:=(iE h).fq;have aU:=ad (λn=>x' ((iE h).drew n));have a:=ad (λn=>YD ((iE h).drew n));have bw:=nb h;have al:=(iE h).eZ (1-s.x.aL) I;unfold jg b1 gK;generalize (s.x.f (1-s.x.aL)).next=eZ at *;generalize s.x.now=fq at *;refine cg;go_quiet (first|(go_at_call 22;first|exact Calls.quiet_of (oJ (aU.o _))|exact ke (oJ (aU.o _)))|(go_at_call 156;first|exact Calls.quiet_of (a.o _)|exact ke (a.o _)));exact xI
def aa6(h:Sep w (bO b s d++R))(l:-1000<=s.cC/\s.cC<=1000)(aW:0<=s.aJ.cA/\s.aJ.cA<=1000000):aB 143 #[b.p] w λe w'=>e=.returned (.bool (uL s))/\∃ q,w'=w.drewN q:=by
 have aw:=(iE h).fq;have al:=(iE h).eZ (1-s.x.aL) I;have a:=ad (λn=>Mm (h.drew n));have f:=ad (λn=>acw ((pv h).drew n));have bP:=qp h;have gQ:=L1 h;have j:IntKind.i64.wrap (jg s-s.cC)=jg s-s.cC:=e0 _ (by unfold jg b1 gK;omega);have k:IntKind.i64.wrap (Int.tmod s.aJ.cA 2)=s.aJ.cA%2:=by rw[oW aW.1];exact e0 _ I
 unfold uL;generalize jg s=ld at *;generalize s.cC=cC at *;generalize s.aJ.cA=pT at *;by_cases an:4<ld-cC
 focus
  have g:=dh an;have i:decide (pT%2=1)=(pT%2 == 1):=by by_cases c:pT%2=1<;>simp[c]
  rw[i]
 rotate_left
 focus
  have g:=cN an
 rotate_left
 all_goals
  go_in
  go_wp2_with fail;go_quiet (first|(go_at_call 93;first|exact Calls.quiet_of (a.o _)|exact ke (a.o _))|(go_at_call 215;first|exact Calls.quiet_of (oJ (f.o _))|exact ke (oJ (f.o _))));go_wp2;go_ret;exact⟨b_,_,rfl⟩
def lf(s:ch):ae:=∃ v,h_ s.x.L (s.x.now:U)=some v/\∀ k,k<2->aZ (v (4+10*k))/\aZ (v (4+10*k+1))
def afZ(v:J->U)(w:aj):(Instr.field 99 (.agg (aQ v)) 4).run prog w=.ok (.agg (rD v)) w:=bc
def afX(v:J->U)(w:aj):(Instr.field 93 (.agg (wN v 4)) 0).run prog w=.ok (aG #[af (v 4),af (v 5)]) w:=bc
def afY(v:J->U)(w:aj):(Instr.field 93 (.agg (wN v 14)) 0).run prog w=.ok (aG #[af (v 14),af (v 15)]) w:=bc
theorem E_(h:Sep w (bO b s d++R))(v:J->U)(a:h_ s.x.L (s.x.now:U)=some v):aB 137 #[b.p] w λe w'=>e=.returned (.agg (aQ v))/\ag aH w w':=
 aa0 (F:=λW=>Sep W (bO b s d++R)) h (agH h) (λ_ h=>nb h) (λ_ h=>iE h) v a
def aa1(h:Sep w (bO b s d++R))(aw:lf s)(em:U):aB 160 #[b.p,aa em] w λe w'=>(∃ x y,aZ x/\aZ y/\e=aG #[af x,af y])/\ag aH w w':=by
 have⟨v,q,a_⟩:=aw;have i:=aP w (ab cH 91);have m:=(bd w).alloc (ab cH 91);have h1:=h.keep m;have t:=ad (E_ h1 v q);have fin:∀ (W:aj) (x y:U),ag aH w W->ag aH w ((W.setCell (ah w 0) (af x)).setCell (ah w 1) (af y)):=λW x y k=>(k.pL (p:=ah w 0) bu _).pL (p:=ah w 1) bu _;have c:=bN a_ fin;have g:aZ 0:=by unfold aZ;omega
 have f:=bN m i;by_cases h1:em<1
 .have d1:=dh h1;refine UD;exact⟨⟨0,0,g,g,rfl⟩,f.o.1⟩
 by_cases h2:2<em
 .have d1:=cN h1;refine UD;exact⟨⟨0,g,0,g,rfl⟩,f.o.1⟩
 have u:=afZ v;rcases (show em=1\/em=2 by omega)with rfl|rfl
 .have av:=OB v;have bg:=afX v;refine UY;have n:=ad (f.out.1.trans j);have z0:=aX a;have g0:=bV a;have l:=ad a;go_wp2;have a:=l.o;refine dj (v:=aG #[af (v 4),af (v 5)]) (kJ (jq l.o (af (v 4)) (af (v 5)))) ?_;exact⟨⟨_,_,(c.o.1 0 I).1,(c.o.1 0 I).2,rfl⟩,c.o.2 _ _ _ n.o⟩
 have av:=OC v;have bg:=afY v;refine UY;have z0:=aX a;have g0:=bV a;go_wp2;have a:=a;refine dj (v:=aG #[af (v 14),af (v 15)]) (kJ (jq a (af (v 14)) (af (v 15)))) ?_;exact⟨⟨_,_,(c.o.1 1 I).1,(c.o.1 1 I).2,rfl⟩,c.o.2 _ _ _ (f.out.1.trans j)⟩
section
open Go.Maps
variable{w w':aj}{b:hg}{s:ch}{R:ai aC}{d:hQ}{q:c9}{o:J}{sd v vl:ay}{m:aY}{l:ai cq}
def KN{v vl:ay}{cs l:ai cq}(ty:TypeId)(a_:w.ownsRow 0 47 12 v cs.length (eY cs))(b:w.ownsRow 0 47 12 vl l.length (eY l))(aw:cs.length+l.length<=1000000000):∃ v' aq,(Builtin.append_ #[32,32] ty #[v,vl]).run prog w=.ok v' aq/\aq.ownsRow 0 47 12 v' (cs++l).length (eY (cs++l))/\ag (λj=>v.ownBlock=some j) w aq/\∀ j,v'.ownBlock=some j->v.ownBlock=some j\/w.heap.size<=j:=by
 have⟨i,z,av,q,h1,h2,k⟩:=Fl;have m:eY (cs++l)=eY cs++eY l:=by simp[eY]
 rcases b.2 with⟨rfl,B⟩|⟨g,cap,h,rfl,_⟩
 .refine vp;refine⟨v,w,?_,by rw[gq];exact a_,ag.refl _ _,λj a=>.inl a⟩;rcases a_.2 with⟨rfl,x⟩|⟨g,cap,h,rfl,_,_,an,_⟩
  .simp[Builtin.append_,tb underlying32,sizeOf,typeInfo,av,Builtin.lenOf,Builtin.firstCells]
  simp[Builtin.append_,tb underlying32,sizeOf,typeInfo,av,Builtin.lenOf,an,Builtin.firstCells,storeCells]
 have⟨A,s,e,p,_⟩:=dA b;cases e
 have⟨v',aq,o,ar,a7,_,f⟩:=uU (P:=prog) w 0 32 ty 47 i z 12 96 underlying32 av q h1 h2 k bs v cs.length (eY cs) a_ (ah g 0) l.length cap (eY l) b.1
  (λj u d=>by
   have n:0<l.length:=by
    rcases tk l.length with e|e
    .have:=b.1
     rw[e]at this
     have:=(ir.1 d).1
     omega
    .exact e
   obtain⟨r,t,e,an⟩:=p.at' n;cases e;rw[iB];exact an j u d) (λu d=>by
   obtain⟨c,_,an⟩:=xg.1 d;exact fJ.1 (sD c) u an) k6 I (c3 _)
 refine⟨v',aq,o,by rw[m,cG];exact ar,(ag.refl _ w).grown a7 (λj e=>.inl e),λj a=>?_⟩;exact Iy
structure i_(L:ai aC)(bD:J)(c:cq)(W:aj):ae where
 sep:Sep W L
 box:W.heap[bD]?=some (ab (dL c) 47 (0,0))
 off:∀ r∈L,¬ r.S bD
theorem i_.keep{L:ai aC}{bD:J}{c:cq}(h:i_ L bD c w)(hk:ag aH w w'):i_ L bD c w':=⟨h.sep.keep hk,hk.heap h.box id,h.off⟩
theorem acE{bD:J}{c:cq}(h:w.heap[bD]?=some (ab (dL c) 47 (0,0))):(Instr.loadAt 45 (.pointer (dk bD 1))).run prog w=.ok (.agg (cU c.cL)) w:=
 fS (P:=prog) 45 9 bD 1 (cU c.cL) _ _ isAgg45 sizeOf45 rfl h (λj u f=>by
  refine zY
  have:(cU c.cL).size=9:=rfl
  rw[show(dL c)[1+j]?=(cU c.cL)[j]? from by
   match j,(show j<9 by omega)with
   | 0,_=>rfl
   | 1,_=>rfl
   | 2,_=>rfl
   | 3,_=>rfl
   | 4,_=>rfl
   | 5,_=>rfl
   | 6,_=>rfl
   | 7,_=>rfl
   | 8,_=>rfl]
  exact f)
variable{bD:J}{c:cq}{A:ai aC}
def i_.lt(h:i_ A bD c w):bD<w.heap.size:=bZ h.box
theorem i_.gT(h:i_ (bO b s d++A) bD c w)(i:ja w b.gT d.cM d.dC w'):∃ d:hQ,i_ (bO b s d++A) bD c w':=by
 obtain⟨dC,vs,h1,h2,g⟩:=i;have aw:=h.off (aC.gT b.gT d.cM d.dC) (by simp[bO]);refine⟨{d with dC:=dC},h.sep.set 4 (r':=aC.gT b.gT d.cM dC) rfl h2 (λ_ _ h=>h) ⟨vs,h1⟩ (λj a=>?_),h2.heap h.box aw,λr f a=>?_⟩
 .exact Vd
 have f:r∈(bO b s d++A).set 4 (aC.gT b.gT d.cM dC):=f;exact Ro
theorem i_.e7(h:i_ (bO b s d++A) bD c w)(i:jJ w b.e7 d.dQ w'):∃ d:hQ,i_ (bO b s d++A) bD c w':=by
 obtain⟨dC,vs,h1,h2,g⟩:=i;have aw:=h.off (aC.e7 b.e7 d.dQ) (by simp[bO]);refine⟨{d with dQ:=dC},h.sep.set 5 (r':=aC.e7 b.e7 dC) rfl h2 (λ_ _ h=>h) ⟨vs,h1⟩ (λj a=>?_),h2.heap h.box aw,λr f a=>?_⟩
 .exact Vd
 have f:r∈(bO b s d++A).set 5 (aC.e7 b.e7 dC):=f;exact Ro
theorem i_.nU(h:i_ (bO b s d++A) bD c w)(n:U):i_ (bO b s {d with nU:=n}++A) bD c (w.setCell (ah b.p 11) (aa n)):=by
 have aw:=h.off (aC.bh b.p (qo b s d.nU,114)) (by simp[bO]);refine⟨AX h.sep 11 (aa n) rfl rfl rfl rfl rfl rfl,(ag.setCell (S:=λj=>j=b.p) (ag.refl _ w) rfl _).heap h.box aw,λr a e=>?_⟩;have a:r∈(bO b s d++A).set 0 (aC.bh b.p (qo b s n,114)):=a;rcases CE a with a|rfl
 .exact h.off r a e
 exact aw e
end
variable{gx eX:a6 ay}
structure og(w:aj)(gx eX:a6 ay)(p q r s:U)(W:aj):ae where
 a:W.heap[w.heap.size]?=ab gx 264 (0,0)
 b:W.heap[w.heap.size+1]?=ab eX 264 (0,0)
 rs:W.heap[w.heap.size+1+1]?=ab fc 274 (0,0)
 g:W.heap[w.heap.size+1+1+1]?=ab #[af p,af q,af r,af s] 274 (0,0)
 fix:aZ p/\aZ q/\aZ r/\aZ s
 bF:ag aH w W
def og.keep{p q s:U}(h:og w gx eX p q r s W)(hk:ag aH W W'):og w gx eX p q r s W':=⟨hk.heap h.a id,hk.heap h.b id,hk.heap h.rs id,hk.heap h.g id,h.fix,h.bF.trans hk⟩
def og.g0{p q s:U}(h:og w gx eX p q r s W)(x y:U)(ak:aZ x/\aZ y):og w gx eX x y r s ((W.setCell (ah (w+1+1+1) 0) (af x)).setCell (ah (w+1+1+1) 1) (af y)):=by
 have k:=((ag.refl (λj=>j=w.heap.size+1+1+1) W).setCell (p:=ah (w+1+1+1) 0) rfl (af x)).setCell (p:=ah (w+1+1+1) 1) rfl (af y);exact⟨k.heap h.a I,k.heap h.b I,k.heap h.rs I,by simpa using bX (bX h.g 0 (af x)) 1 (af y),⟨ak.1,ak.2,h.fix.2.2⟩,c1 h.bF k a1⟩
def og.g1{p q s:U}(h:og w gx eX p q r s W)(x y:U)(ak:aZ x/\aZ y):og w gx eX p q x y ((W.setCell (ah (w+1+1+1) 2) (af x)).setCell (ah (w+1+1+1) 3) (af y)):=by
 have k:=((ag.refl (λj=>j=w.heap.size+1+1+1) W).setCell (p:=ah (w+1+1+1) 2) rfl (af x)).setCell (p:=ah (w+1+1+1) 3) rfl (af y);exact⟨k.heap h.a I,k.heap h.b I,k.heap h.rs I,by simpa using bX (bX h.g 2 (af x)) 3 (af y),⟨h.fix.1,h.fix.2.1,ak⟩,c1 h.bF k a1⟩
def aik(bg:lH gx)(al:lH eX)(w:aj):aB 141 #[.agg gx,.agg eX] w λe w'=>(∃ p q r s,(aZ p/\aZ q/\aZ r/\aZ s)/\e=aG (d' p q r s))/\Below w w w':=by
 have⟨cx,z,f0,T,cm,C,f1,kk,yO,lb,e6⟩:=bg;have⟨h,u,Y,P,n,y,Z,R,oK,l',lL⟩:=al;have A:=ad (show ∀ j,j<8->gx[j]?=[af cx,af z,aa f0,.bool T,af cm,af C,aa f1,.bool kk][j]? from λj d=>by rw[<-ny,e6,jF xq]);have B:=ad (show ∀ j,j<8->eX[j]?=[af h,af u,aa Y,.bool P,af n,af y,aa Z,.bool R][j]? from λj d=>by rw[<-ny,lL,jF xq]);have D:=ad lb;have Q:=ad l';have h2:og w gx eX 0 0 0 0 ((((w.alloc (ab gx 264)).alloc (ab eX 264)).alloc (ab fc 274)).alloc (ab fc 274)):=by
  have gf:(w.alloc (ab gx 264)).heap.size=w.heap.size+1:=aM;have g':((w.alloc (ab gx 264)).alloc (ab eX 264)).heap.size=w.heap.size+1+1:=aM;have hd:(((w.alloc (ab gx 264)).alloc (ab eX 264)).alloc (ab fc 274)).heap.size=w.heap.size+1+1+1:=aM;refine⟨b2 (b2 (b2 (aP w _) _) _) _,b2 (b2 (gf▸aP _ _) _) _,b2 (g'▸aP _ _) _,hd▸aP _ _,eN,((((ag.refl _ w).alloc _).alloc _).alloc _).alloc _⟩
 refine cg;go_loopg [7] 2 (λg i wr=>∃ k:J,g=2-k/\k<=2/\i=aa k/\∃ p q r s,og w gx eX p q r s wr)
 case atStart=>exact⟨0,rfl,I,rfl,_,_,_,_,h2⟩
 obtain⟨k,a7,hk,rfl,p,q,r,s,f⟩:=hrel;by_cases vs:k<2
 .have mv:k=0\/k=1:=I;obtain⟨G,c⟩:=gg (F:=λW=>og w gx eX p q r s W);refine zZ;have se:=(c _).2 l;rcases mv with rfl|rfl
  .have L:=D.o.1;have M:=D.o.2.1;have E:=Q.o.1;have H:=Q.o.2.1;have V:=ad (λW=>Gq cx z h u L M E H W);have fr:=bb f.a (A.out 3 I);have X:=bb f.b (B.out 3 I);have bR:∀ t:bA G,t.to.cell? (ah w 0)=af cx:=λt=>bb ((c _).1 t.held).a (A.out 0 I);have bI:∀ t:bA G,t.to.cell? (ah w 1)=af z:=λt=>bb ((c _).1 t.held).a (A.out 1 I);have r':∀ t:bA G,t.to.cell? (ah (w+1) 0)=af h:=λt=>bb ((c _).1 t.held).b (B.out 0 I);have sd:∀ t:bA G,t.to.cell? (ah (w+1) 1)=af u:=λt=>bb ((c _).1 t.held).b (B.out 1 I);have N:=ad f;cases T with
   | false=>
    exact U8
   | true=>
   cases P with
   | false=>
    exact U8
   | true=>
   refine Wt;have v':=ad (m.g0 (d_ cx h) (d_ z u) ⟨gE _,gE _⟩);refine Ud;go_roundg 1
   case rel=>exact⟨1,rfl,I,cT,_,_,_,_,v'.o⟩
   omega
  refine VO;have V:=ad (λW=>Gq cm C n y L M E H W);have fr:=bb f.a (A.out 7 I);have X:=bb f.b (B.out 7 I);have bR:∀ t:bA G,t.to.cell? (ah w 4)=af cm:=λt=>bb ((c _).1 t.held).a (A.out 4 I);have bI:∀ t:bA G,t.to.cell? (ah w 5)=af C:=λt=>bb ((c _).1 t.held).a (A.out 5 I);have r':∀ t:bA G,t.to.cell? (ah (w+1) 4)=af n:=λt=>bb ((c _).1 t.held).b (B.out 4 I);have sd:∀ t:bA G,t.to.cell? (ah (w+1) 5)=af y:=λt=>bb ((c _).1 t.held).b (B.out 5 I);have N:=ad f;cases kk with
  | false=>
   exact U9
  | true=>
  cases R with
  | false=>
   exact U9
  | true=>
  refine Wt;have v':=ad (m.g1 (d_ cm n) (d_ C y) ⟨gE _,gE _⟩);refine Ud;go_roundg 0
  case rel=>exact⟨2,rfl,I,cT,_,_,_,_,v'.o⟩
  omega
 obtain rfl:k=2:=I;have a':=ad f;have bw:=aX f.g;obtain⟨S,ps,m'⟩:=dT wr 274 4 (w+1+1) (d' p q r s) _ sizeOf274 rfl rfl f.rs rfl;have fo:=ad ((f.bF.mono λ_ _ x=>x.elim).trans m');refine Dx;refine dj (v:=aG (d' p q r s)) ps ?_;exact⟨⟨_,_,_,_,a'.o.fix,rfl⟩,fo.o.below bu a1⟩
end Go.Proofs.YtalagblioepadaaGreatDoor
