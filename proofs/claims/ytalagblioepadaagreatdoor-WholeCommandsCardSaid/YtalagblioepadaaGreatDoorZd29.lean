/- The proof, part 29. -/
import Derived.Test.YtalagblioepadaaGreatDoorZd28
namespace Go.Proofs.YtalagblioepadaaGreatDoor
set_option linter.all false
open Proofs.Tryz List Go.RowKit
set_option maxRecDepth 100000
set_option maxHeartbeats 1000000
def n0{p:al}(h:p:=by simp only[];omega):p:=h
def Np{p:al}(h:p:=by have:=n x q;rcases an with e|e|e|e|e<;>omega):p:=h
def Ng{p:al}(h:p:=by show(l.out++[_]).length<=8;rw[cx,jd];omega):p:=h
def As{p:al}(h:p:=by simp[aV,results,results102,asAddr,loadVar,loadCells,isAgg199,sizeOf199,O]):p:=h
def N7{p:al}(h:p:=by
 have A:Keeps aG aD (ao.setCell (ae aD k ad) (aH y.toNat)):=(Keeps.bJ u a8).oH (p:=ae aD k ad) bx _;exact⟨t.keeps A (λ_ _=>id),B.trans (lj A)⟩
 ):p:=h
def MS{p:al}(h:p:=by
 simp only[gB,gg,fg]at this;omega
 ):p:=h
def EE{p:al}(h:p:=by
 simp only[];split<;>exact⟨rfl,rfl,rfl,rfl,rfl,rfl,rfl,rfl⟩
 ):p:=h
variable{w:aj}{B:iR}{l:cd}
structure k7(w V:aj)(r:J)(B:iR)(l:cd):al where
 res:V.heap[r]?=some (af (aV bL.zero none 0) 199 (0,0))
 nz:w.heap.size<=r
 aF:IsLink V B l
 cu:Keeps B.S w V
def k7.start(h:IsLink w B l):k7 w (w.alloc (af (aV bL.zero none 0) 199)) w.heap.size B l:=by
 have hk:=(bb w).alloc (af (aV bL.zero none 0) 199);exact⟨aX w _,df _,h.keeps hk (λ_ _=>id),hk.mono λ_ _ h=>h.elim⟩
def k7.next{V V':aj}{r:J}{l' d:cd}(h:k7 w V r B l)(a:IsLink w B d)(c:IsLink V' B l')(hk:Keeps B.S V V'):k7 w V' r B l':=by
 have f:=a.lt;have aw:∀ b,B.S b->b<w.heap.size:=λb ak=>by rcases ak with e|e|e|e|e<;>omega
 exact⟨hk.heap h.res (λx=>by have:=aw _ x;have:=h.nz;omega),h.nz,c,h.cu.trans hk⟩
theorem k7.kP{V V':aj}{r:J}(h:k7 w V r B l)(hk:Keeps aG V V'):k7 w V' r B l:=
 ⟨hk.heap h.res id,h.nz,h.aF.keeps hk λ_ _=>id,h.cu.trans (hk.mono λ_ _ h=>h.elim)⟩
def k7.fin{m:cd}{V:aj}{r:J}(h:k7 w V r B l)(k:IsLink w B m)(a c v2 d f g:ay):let i:=((((((V.setCell (ae r 0 ad) a).setCell (ae r 1 ad) c).setCell (ae r 2 ad) v2).setCell (ae r 3 ad) d).setCell (ae r 4 ad) f).setCell (ae r 5 ad) g)
  i.heap[r]?=some (af #[a,c,v2,d,f,g] 199 (0,0))/\IsLink i B l/\Keeps B.S w i/\(∀ {a':b_ Addr} {j:J} {L:ah aT},c' V a' j L->c' i a' j L):=by
 have n:=k.lt;have hk:=B7 (S:=λb=>b=r) (b:=r) (Keeps.refl _ V) rfl a c v2 d f g;have o:=h.nz;refine⟨gK h.res rfl a c v2 d f g,h.aF.keeps hk (λb ak=>?_),sn h.cu h.nz a c v2 d f g,λak=>ak.keeps hk λhne x e=>Gr ak h.res (by simp[aV,bL.zero]) hne x e⟩;rcases ak with e|e|e|e|e<;>omega
def cD(l:cd)(s:ah aT):bL×aa×cd:=
 if l.state=2 then(bL.zero,12,l)else
 if (fG s).2≠0 then(bL.zero,(fG s).2,{l with bad:=l.bad+1})else
 if (cW {l with heard:=l.cf} (fG s).1).2.1 then((cW {l with heard:=l.cf} (fG s).1).1,0,{(cW {l with heard:=l.cf} (fG s).1).2.2 with e2:=(cW {l with heard:=l.cf} (fG s).1).2.2.e2+1})
 else(bL.zero,0,{(cW {l with heard:=l.cf} (fG s).1).2.2 with fe:=(cW {l with heard:=l.cf} (fG s).1).2.2.fe+1})
def O4(l:cd)(s:aa):(h3 l s).bQ=l.bQ/\(h3 l s).eI=l.eI/\(h3 l s).jW=l.jW/\(h3 l s).cf=l.cf/\(h3 l s).heard=l.heard/\(h3 l s).e2=l.e2/\(h3 l s).bad=l.bad/\(h3 l s).fe=l.fe:=by
 unfold h3;exact EE
def S6(l:cd)(m:a6):(jm l m).2.2.bQ=l.bQ/\(jm l m).2.2.eI=l.eI/\(jm l m).2.2.jW=l.jW/\(jm l m).2.2.cf=l.cf/\(jm l m).2.2.heard=l.heard/\(jm l m).2.2.e2=l.e2/\(jm l m).2.2.bad=l.bad/\(jm l m).2.2.fe=l.fe:=by
 unfold jm;exact EE
def YN(l:cd)(m:a6):(cW l m).2.2.bQ=l.bQ/\(cW l m).2.2.eI=l.eI/\(cW l m).2.2.jW=l.jW/\(cW l m).2.2.cf=l.cf/\(cW l m).2.2.heard=l.heard/\(cW l m).2.2.e2=l.e2/\(cW l m).2.2.bad=l.bad/\(cW l m).2.2.fe=l.fe:=by
 have h1:=O4 l m.cp;have h2:=S6 (h3 l m.cp) m;have a:(h_ l m).2.2.bQ=l.bQ/\(h_ l m).2.2.eI=l.eI/\(h_ l m).2.2.jW=l.jW/\(h_ l m).2.2.cf=l.cf/\(h_ l m).2.2.heard=l.heard/\(h_ l m).2.2.e2=l.e2/\(h_ l m).2.2.bad=l.bad/\(h_ l m).2.2.fe=l.fe:=by
  unfold h_;split
  .exact⟨h2.1.trans h1.1,h2.2.1.trans h1.2.1,h2.2.2.1.trans h1.2.2.1,h2.2.2.2.1.trans h1.2.2.2.1,h2.2.2.2.2.1.trans h1.2.2.2.2.1,h2.2.2.2.2.2.1.trans h1.2.2.2.2.2.1,h2.2.2.2.2.2.2.1.trans h1.2.2.2.2.2.2.1,h2.2.2.2.2.2.2.2.trans h1.2.2.2.2.2.2.2⟩
  split
  .exact⟨rfl,rfl,rfl,rfl,rfl,rfl,rfl,rfl⟩
  split
  .exact h1
  split<;>exact⟨rfl,rfl,rfl,rfl,rfl,rfl,rfl,rfl⟩
 unfold cW;split
 .exact EE
 split
 .split<;>exact⟨rfl,rfl,rfl,rfl,rfl,rfl,rfl,rfl⟩
 split
 .exact⟨rfl,rfl,rfl,rfl,rfl,rfl,rfl,rfl⟩
 split
 .exact a
 exact⟨rfl,rfl,rfl,rfl,rfl,rfl,rfl,rfl⟩
def Zd(l:ah aT)(h:(fG l).2=0):(fG l).1.a_.length<=1000000:=by
 unfold fG at *;split at h
 .rename_i a;rw[aE a];unfold rJ at *;split at h
  .cases h
  rename_i h1;rw[aB h1];have b:=(Mb λan=>h1 (.inr (.inr an))).2.1;unfold fits at b;simp only[ep,gh]at b;exact ca b.2 bt
 rename_i a;exact absurd h a
def I0(h:IsLink w B l)(s:ch)(aw:s.size<=100000)(av:0<=l.next/\l.next<=1073741824)(bh:0<=l.da/\l.da<=1073741824)(aZ:0<=l.e2/\l.e2<=1000000)(ak:0<=l.bad/\l.bad<=1000000)(aK:0<=l.fe/\l.fe<=1000000):aA 102 #[B.p,.string s] w (tq w.heap.size w B (cD l s.data.toList).1 (I (cD l s.data.toList).2.1) (cD l s.data.toList).2.2):=by
 have ar:=k7.start h;simp only[aV,bL.zero,fg]at ar;have aar:=h.lt;have H:=ag h;unfold cD;by_cases N:l.state=2
 .rw[aE N]
  go_in
  go_upto_region 3 with fail
  generalize World.alloc w _=X at *;have C:=(ar).aF.lt;have D:=bT (ar).res;have E:=bP (ar).res;have A:=aO (ar).res;have f2:=ar.aF.free 2;have bw:=ar.aF.bw;rw[N]at bw;have d:=ag ar;go_wp2_with fail;have r:=k7.fin (d.o) H.o (I ((⟨0,0,[],0,0,0⟩:bL)).kind) (I ((⟨0,0,[],0,0,0⟩:bL)).en) (.slice none ((⟨0,0,[],0,0,0⟩:bL)).a_.length 0) (I ((⟨0,0,[],0,0,0⟩:bL)).frame) (aR ((⟨0,0,[],0,0,0⟩:bL)).sum) (I ((⟨0,0,[],0,0,0⟩:bL)).lead);simp only at r;generalize World.setCell _ (ae w 5 ad) _=P at *;obtain⟨F,k,j,i⟩:=r;have O:=dF _ _ _ _ F 6 rfl;refine c1 (v:=aY #[.agg (aV (⟨0,0,[],0,0,0⟩:bL) none 0),I 12]) As rfl ?_;exact qN
 rw[aB N];have d2:(l.state == 2)=false:=by simpa using N
 have vl:=λW=>ZK (w:=W) s aw;have zd:=Zd s.data.toList;generalize fG s.data.toList=u at *;have⟨m,b0⟩:=u;simp only at *;have Q:=ag vl;by_cases fr:b0≠0
 .rw[aE fr];have d3:(b0 != 0)=true:=by simpa using fr
  go_in
  go_upto_region 3 with fail
  generalize World.alloc w _=X at *;have C:=(ar).aF.lt;have D:=bT (ar).res;have E:=bP (ar).res;have A:=aO (ar).res;have f2:=ar.aF.free 2;have bw:=ar.aF.bw;have d:=ag ar;go_wp2_with fail;refine(Q.o _).mono ?_;rintro e f ⟨a,c,rfl,g,M,n⟩;have ar:=d.out.kP (Keeps.bJ M a8);go_upto_region 6 with fail
  have sd:=ar.aF.lt.1;have K:=aX f (af #[I m.kind,aR m.bQ,bC m.cr,bC m.cp,aq a m.a_.length c,aR m.sum,I m.lead] 254);have ar:=ar.kP ((bb f).alloc (af #[I m.kind,aR m.bQ,bC m.cr,bC m.cp,aq a m.a_.length c,aR m.sum,I m.lead] 254));have g:=g.keeps ((bb f).alloc (af #[I m.kind,aR m.bQ,bC m.cr,bC m.cp,aq a m.a_.length c,aR m.sum,I m.lead] 254)) (λ_ _ _=>id);have n:∀ x,a=some x->w.heap.size<=x.block:=λx q=>by have:=n x q;omega
  generalize World.alloc f _=L at *;have C:=(ar).aF.lt;have D:=bT (ar).res;have E:=bP (ar).res;have A:=aO (ar).res;have A1:=ar.aF.A1;have f11:=ar.aF.free 11;have d:=ag ar;go_wp2_with fail;have d:=ag (d.o.next (V':=L.setCell (ae B.p 11 ad) (I (l.bad+1))) (l':={l with bad:=l.bad+1}) H.out (d.o.aF.set 11 (I (l.bad+1)) _ rfl rfl rfl) (Keeps.setCell (Keeps.refl _ _) (.inl rfl) _));have r:=k7.fin (d.o) H.out (I ((⟨0,0,[],0,0,0⟩:bL)).kind) (I ((⟨0,0,[],0,0,0⟩:bL)).en) (.slice none ((⟨0,0,[],0,0,0⟩:bL)).a_.length 0) (I ((⟨0,0,[],0,0,0⟩:bL)).frame) (aR ((⟨0,0,[],0,0,0⟩:bL)).sum) (I ((⟨0,0,[],0,0,0⟩:bL)).lead);simp only at r;generalize World.setCell _ (ae w 5 ad) _=P at *;obtain⟨F,k,j,i⟩:=r;have O:=dF _ _ _ _ F 6 rfl;refine c1 (v:=aY #[.agg (aV (⟨0,0,[],0,0,0⟩:bL) none 0),I b0]) As rfl ?_;exact qN
 rw[aB fr];obtain rfl:b0=0:=U;have hm:=(zd rfl);have s':=λ(W:aj) (a:b_ Addr) (c:J) (h:IsLink W B {l with heard:=l.cf}) (ak:c' W a c m.a_) (v':∀ x,a=some x->¬ B.S x.block) (ys:∀ x,a=some x->w.heap.size<=x.block)=>TZ h m ys ak v' av bh hm;have h2:=YN {l with heard:=l.cf} m;generalize cW {l with heard:=l.cf} m=T at *;obtain⟨R,ok,zp⟩:=T;simp only at *;obtain⟨aat,aau,r',T',aaw,aas,ps,hd,lb,m',aaq,TS,aav⟩:=zp;simp only at h2;obtain⟨rfl,rfl,rfl,rfl,rfl,rfl,rfl,rfl⟩:=h2;have ew:=ag s';cases ok with
 | true=>
  simp only[if_true]
  go_in
  go_upto_region 3 with fail
  generalize World.alloc w _=X at *;have C:=(ar).aF.lt;have D:=bT (ar).res;have E:=bP (ar).res;have A:=aO (ar).res;have f2:=ar.aF.free 2;have bw:=ar.aF.bw;have d:=ag ar;go_wp2_with fail;refine(Q.out _).mono ?_;rintro e f ⟨a,c,rfl,g,M,n⟩;have ar:=d.out.kP (Keeps.bJ M a8);go_upto_region 6 with fail
  have sd:=ar.aF.lt.1;have K:=aX f (af #[I m.kind,aR m.bQ,bC m.cr,bC m.cp,aq a m.a_.length c,aR m.sum,I m.lead] 254);have ar:=ar.kP ((bb f).alloc (af #[I m.kind,aR m.bQ,bC m.cr,bC m.cp,aq a m.a_.length c,aR m.sum,I m.lead] 254));have g:=g.keeps ((bb f).alloc (af #[I m.kind,aR m.bQ,bC m.cr,bC m.cp,aq a m.a_.length c,aR m.sum,I m.lead] 254)) (λ_ _ _=>id);have n:∀ x,a=some x->w.heap.size<=x.block:=λx q=>by have:=n x q;omega
  generalize World.alloc f _=L at *;have C:=(ar).aF.lt;have D:=bT (ar).res;have E:=bP (ar).res;have A:=aO (ar).res;have dY:=ar.aF.dY;have fV:=ar.aF.fV;have f5:=ar.aF.free 5;have Aw:=aO K;have St:=bT K;have d:=ag ar;have V:=ag g;go_wp2_with fail;have ar:=d.o.next (V':=L.setCell (ae B.p 5 ad) (I l.cf)) (l':={l with heard:=l.cf}) H.out (d.o.aF.set 5 (I l.cf) _ rfl rfl rfl) (Keeps.setCell (Keeps.refl _ _) (.inl rfl) _);have g:=V.o.keeps (Keeps.setCell (S:=λb=>b=B.p) (Keeps.refl _ _) (p:=ae B.p 5 ad) rfl (I l.cf)) (λ_ x q e=>by have:=n x q;omega);refine(ew.out _ a c ar.aF g (λx q an=>Np) n).mono ?_;rintro e y ⟨⟨t,bw,rfl,z,a'⟩,ab,Z⟩;have g':=ag a';have ar:=ar.next H.out ab Z;unfold aV;go_upto_region 11 with fail
  have Tq:=ar.aF.lt.1;have G:=aX y (af (aV R t bw) 199);have ar:=ar.kP ((bb y).alloc (af (aV R t bw) 199));have z:=z.keeps ((bb y).alloc (af (aV R t bw) 199)) (λ_ _ _=>id);simp only[aV]at G ar z;generalize World.alloc y _=Y at *;have CW:=aO G;have Q':=bT G;have C:=(ar).aF.lt;have D:=bT (ar).res;have E:=bP (ar).res;have A:=aO (ar).res;have q0:=ar.aF.q0;have W':=ar.aF.free 10;have d:=ag ar;have gf:=ag z;go_wp2_with fail;have w':=gf.o.keeps (Keeps.setCell (S:=λb=>b=B.p) (Keeps.refl _ _) (p:=ae B.p 10 ad) rfl (I (l.e2+1))) (λhne x e=>Gs gf.o d.o.aF.bd hne x e);have d:=ag (d.o.next (V':=Y.setCell (ae B.p 10 ad) (I (l.e2+1))) (l':=⟨l.bQ,l.eI,r',l.jW,l.cf,l.cf,ps,hd,lb,m',l.e2+1,l.bad,l.fe⟩) H.out (d.o.aF.set 10 (I (l.e2+1)) _ rfl rfl rfl) (Keeps.setCell (Keeps.refl _ _) (.inl rfl) _));have r:=k7.fin (d.o) H.out (I (R).kind) (I (R).en) (.slice t (R).a_.length bw) (I (R).frame) (aR (R).sum) (I (R).lead);simp only at r;generalize World.setCell _ (ae w 5 ad) _=P at *;obtain⟨F,k,j,i⟩:=r;have O:=dF _ _ _ _ F 6 rfl;refine c1 (v:=aY #[.agg (aV R t bw),I 0]) As rfl ?_;exact⟨⟨t,bw,rfl,i w',g'.o⟩,k,j⟩
 | false=>
  simp only[w3,if_false]
  go_in
  go_upto_region 3 with fail
  generalize World.alloc w _=X at *;have C:=(ar).aF.lt;have D:=bT (ar).res;have E:=bP (ar).res;have A:=aO (ar).res;have f2:=ar.aF.free 2;have bw:=ar.aF.bw;have d:=ag ar;go_wp2_with fail;refine(Q.out _).mono ?_;rintro e f ⟨a,c,rfl,g,M,n⟩;have ar:=d.out.kP (Keeps.bJ M a8);go_upto_region 6 with fail
  have sd:=ar.aF.lt.1;have K:=aX f (af #[I m.kind,aR m.bQ,bC m.cr,bC m.cp,aq a m.a_.length c,aR m.sum,I m.lead] 254);have ar:=ar.kP ((bb f).alloc (af #[I m.kind,aR m.bQ,bC m.cr,bC m.cp,aq a m.a_.length c,aR m.sum,I m.lead] 254));have g:=g.keeps ((bb f).alloc (af #[I m.kind,aR m.bQ,bC m.cr,bC m.cp,aq a m.a_.length c,aR m.sum,I m.lead] 254)) (λ_ _ _=>id);have n:∀ x,a=some x->w.heap.size<=x.block:=λx q=>by have:=n x q;omega
  generalize World.alloc f _=L at *;have C:=(ar).aF.lt;have D:=bT (ar).res;have E:=bP (ar).res;have A:=aO (ar).res;have dY:=ar.aF.dY;have fV:=ar.aF.fV;have f5:=ar.aF.free 5;have Aw:=aO K;have St:=bT K;have d:=ag ar;have V:=ag g;go_wp2_with fail;have ar:=d.o.next (V':=L.setCell (ae B.p 5 ad) (I l.cf)) (l':={l with heard:=l.cf}) H.out (d.o.aF.set 5 (I l.cf) _ rfl rfl rfl) (Keeps.setCell (Keeps.refl _ _) (.inl rfl) _);have g:=V.o.keeps (Keeps.setCell (S:=λb=>b=B.p) (Keeps.refl _ _) (p:=ae B.p 5 ad) rfl (I l.cf)) (λ_ x q e=>by have:=n x q;omega);refine(ew.out _ a c ar.aF g (λx q an=>Np) n).mono ?_;rintro e y ⟨⟨t,bw,rfl,z,a'⟩,ab,Z⟩;have g':=ag a';have ar:=ar.next H.out ab Z;unfold aV;go_upto_region 11 with fail
  have Tq:=ar.aF.lt.1;have G:=aX y (af (aV R t bw) 199);have ar:=ar.kP ((bb y).alloc (af (aV R t bw) 199));have z:=z.keeps ((bb y).alloc (af (aV R t bw) 199)) (λ_ _ _=>id);simp only[aV]at G ar z;generalize World.alloc y _=Y at *;have CW:=aO G;have Q':=bT G;have C:=(ar).aF.lt;have D:=bT (ar).res;have E:=bP (ar).res;have A:=aO (ar).res;have Gt:=ar.aF.Gt;have f12:=ar.aF.free 12;have d:=ag ar;go_wp2_with fail;have d:=ag (d.o.next (V':=Y.setCell (ae B.p 12 ad) (I (l.fe+1))) (l':=⟨l.bQ,l.eI,r',l.jW,l.cf,l.cf,ps,hd,lb,m',l.e2,l.bad,l.fe+1⟩) H.out (d.o.aF.set 12 (I (l.fe+1)) _ rfl rfl rfl) (Keeps.setCell (Keeps.refl _ _) (.inl rfl) _));have r:=k7.fin (d.o) H.out (I ((⟨0,0,[],0,0,0⟩:bL)).kind) (I ((⟨0,0,[],0,0,0⟩:bL)).en) (.slice none ((⟨0,0,[],0,0,0⟩:bL)).a_.length 0) (I ((⟨0,0,[],0,0,0⟩:bL)).frame) (aR ((⟨0,0,[],0,0,0⟩:bL)).sum) (I ((⟨0,0,[],0,0,0⟩:bL)).lead);simp only at r;generalize World.setCell _ (ae w 5 ad) _=P at *;obtain⟨F,k,j,i⟩:=r;have O:=dF _ _ _ _ F 6 rfl;refine c1 (v:=aY #[.agg (aV (⟨0,0,[],0,0,0⟩:bL) none 0),I 0]) As rfl ?_;exact qN
theorem Pz{w A C:aj}{S:J->al}(h:Below w w A)(hk:Keeps S A C)(aw:∀ k,S k->w.heap.size<=k):Below w w C:=
 h.trans (hk.below h.size λk h1 h2=>by have:=aw k h2;omega)
section
def HJ(a b:J)(bh:a<=1000)(ak:b<=1000):en (a:aa) ((b:aa)%65536)=((b:aa),0):=by
 have aw:rG ((a:aa)%65536) ((b:aa)%65536)=(b:aa)-a:=by
  unfold rG;omega
 unfold en;rw[aB U,aw];simp only[];rw[aB U]
 congr 1
 omega
structure LkI(n k:J)(o:ah aT)(T A:J)(l:cd):al where
 bQ:l.bQ=(k:aa)+1
 pat:1<=l.eI/\l.eI<=10000
 st:l.state=0\/l.state=1\/l.state=2
 oM:0<=l.cf/\l.cf<=n
 hd:0<=l.heard/\l.heard<=n
 e2:0<=l.e2/\l.e2<=n
 bad:0<=l.bad/\l.bad<=n
 fe:0<=l.fe/\l.fe<=n
 ac:l.da=(A:aa)
 dB:l.own=o.drop A
 dp:A<=o.length
 dO:l.next=(T:aa)
 wl:o.length<=A+64
 U0:∀ m∈l.out,m.wf/\ds m/\m.a_=[]/\m.kind≠5
 aak:l.out.length<=8
def jg(c:J)(q:ah aT)(Tq:J)(m:a6):al:=
 m.wf/\ds m/\(m.kind=3->∃ a e t:J,a+e<=q.length/\t<=Tq/\a+e<=t+c/\m.cr=(a:aa)%65536/\m.cp=(t:aa)%65536/\m.a_=(q.drop a).take e/\0<e)/\(m.kind=5->∃ t:J,t<=Tq/\m.cp=(t:aa)%65536)
def jg.mono{c:J}{q b:ah aT}{T T':J}{m:a6}(h:jg c q T m)(d:q <+: b)(v:T<=T'):jg c b T' m:=by
 have⟨h1,h2,l,n⟩:=h;refine⟨h1,h2,λhk=>?_,λhk=>?_⟩
 .have⟨a,e,t,s,u,f,g,i,j,k⟩:=l hk
  have:=d.length_le
  refine⟨a,e,t,U,U,f,g,i,?_,k⟩;have⟨r,o⟩:=d;rw[j,<-o,Ed U,Ae b1]
 have⟨t,w,p⟩:=n hk;exact⟨t,U,p⟩
def z32:(0:aa)<=0/\(0:aa)<4294967296:=U
def qC:(0:aa)<=0/\(0:aa)<65536:=U
def m16(x:aa):0<=x%65536/\x%65536<65536:=U
def sY{m:a6}(h:ds m)(h1:0<=m.bQ/\m.bQ<4294967296)(h2:0<=m.cr/\m.cr<65536)(c:0<=m.cp/\m.cp<65536)(d:0<=m.sum/\m.sum<4294967296):m.wf:=by
 have⟨a,_,b,_⟩:=h;exact⟨U,h1,h2,c,d,U⟩
namespace LkI
variable{n k T A:J}{o:ah aT}{l:cd}
def up(h:LkI n k o T A l):LkI (n+1) k o T A l:=by
 have⟨a,b,c,m,p,q,r,s,d,bR,e,f,g,i,j⟩:=h;exact⟨a,b,c,U,U,U,U,U,d,bR,e,f,g,i,j⟩
theorem own(h:LkI n k o T A l)(v:aT)(aU:v.toNat<=63)(w:o.length<A+64)(aw:l.state=1):LkI n k (o++[v]) T A (kq l o.length v):=by
 have s:=h.dp;have e:wE l o.length v=0:=by
  unfold wE;rw[aB U,aB U,aB (by rw[h.ac,h.dB,gg];omega),aB (by rw[h.dB,gg];omega)]
 unfold kq;rw[aE e];have⟨a,b,c,d,f,g,i,j,m,bR,t,p,u,q,r⟩:=h;exact⟨a,b,c,d,f,g,i,j,m,by show l.own++[v]=_;rw[bR,Ed s],by rw[cx];omega,p,by rw[cx,jd];omega,q,r⟩
def rep(h:LkI n k o T A l)(f:aa)(s:aa)(aw:0<=s/\s<4294967296):LkI n k o T A (l9 l f s):=by
 unfold l9;split
 .rename_i e;have z:l.out.length≠8:=λc=>by
   unfold y_ at e;split at e
   .omega
   split at e
   .omega
   simp_all
  obtain⟨b,d,g,i,j,p,q,r,t,bR,u,v,w,x,y⟩:=h;refine⟨b,d,g,i,j,p,q,r,t,bR,u,v,w,λm hm=>?_,Ng⟩;rcases eJ.1 hm with hm|hm
  .exact x m hm
  have hm:=gC.1 hm;subst hm;have a:ds (uB f s):=by
   unfold ds uB;exact⟨n0,rfl,n0,.inl rfl,.inr (.inr (.inl rfl)),.inl rfl,aM,.inr rfl,.inl rfl⟩
  exact⟨sY a z32 (m16 f) qC aw,a,rfl,by unfold uB;simp⟩
 exact h
def xT{c:J}{q:ah aT}{Tq:J}{m:a6}(h:m.wf/\ds m/\m.a_=[]/\m.kind≠5):jg c q Tq m:=by
 refine⟨h.1,h.2.1,λhk=>?_,λhk=>absurd hk h.2.2.2⟩;have a:=h.2.1.2.2.2.2.2.2.1.2 hk;rw[h.2.2.1]at a;exact absurd a aM
def tick(h:LkI n k o T A l)(hk:k<2)(E:∀ x∈o,x.toNat<=63){c:J}(an:o.length<=T+c)(lead:aa):LkI (n+1) k o T A (c9 l lead).2/\(∀ m∈(c9 l lead).1,jg c o T m)/\(c9 l lead).1.length<=10:=by
 have y:LkI (n+1) k o T A (gI l):=by
  unfold gI qy;have⟨f,g,q,s,t,u,v,w,e,bR,i,d,j,p,r⟩:=h;split
  .exact⟨f,g,.inr (.inr rfl),by show 0<=l.cf+1/\l.cf+1<=_;omega,by show 0<=l.heard/\l.heard<=_;omega,by show 0<=l.e2/\l.e2<=_;omega,by show 0<=l.bad/\l.bad<=_;omega,by show 0<=l.fe/\l.fe<=_;omega,e,bR,i,d,j,p,r⟩
  exact⟨f,g,q,by show 0<=l.cf+1/\l.cf+1<=_;omega,by show 0<=l.heard/\l.heard<=_;omega,by show 0<=l.e2/\l.e2<=_;omega,by show 0<=l.bad/\l.bad<=_;omega,by show 0<=l.fe/\l.fe<=_;omega,e,bR,i,d,j,p,r⟩
 show LkI (n+1) k o T A (mb (gI l) lead).2/\(∀ m∈(mb (gI l) lead).1,jg c o T m)/\(mb (gI l) lead).1.length<=10;generalize gI l=b at y;have D:=y;have⟨f,g,q,s,t,u,v,w,e,bR,i,d,j,p,r⟩:=y;unfold mb;split
 .split
  .refine⟨⟨f,g,q,s,t,u,v,w,e,bR,i,d,j,p,r⟩,λm hm=>?_,aM⟩;have hm:=gC.1 hm;subst hm;have a:ds vP:=bt;exact xT ⟨sY a z32 qC qC z32,a,rfl,bt⟩
  exact⟨D,(λm hm=>nomatch hm),aM⟩
 have kl:∀ m∈b.out,jg c o T m:=λm hm=>xT (p m hm);refine⟨⟨f,g,q,s,t,u,v,w,e,bR,i,d,j,(λ_ hm=>nomatch hm),aM⟩,?_,?_⟩
 .intro m hm;rcases eJ.1 hm with hm|hm
  .exact kl m hm
  split at hm
  .have hm:=gC.1 hm;subst hm;have a:ds (nk b):=by
    unfold ds nk;exact⟨n0,rfl,n0,.inr (.inl rfl),.inl rfl,.inl rfl,aM,.inl rfl,.inl rfl⟩
   exact xT ⟨sY a (by show 0<=b.bQ/\b.bQ<4294967296;omega) qC qC z32,a,rfl,by unfold nk;simp⟩
  have z:jg c o T (nK b):=by
   unfold nK;split
   .have a:ds ⟨5,0,0,b.next%65536,[],0,0⟩:=by
     exact⟨n0,rfl,n0,.inl rfl,.inl rfl,.inr (.inr rfl),aM,.inl rfl,.inl rfl⟩
    exact⟨sY a z32 qC (m16 _) z32,a,λc=>by simp at c,λ_=>⟨T,df _,by rw[<-d]⟩⟩
   rename_i hne;have G:b.own.length=o.length-A:=by rw[bR];simp
   have C:b.own.length<=64:=U;have F:=qH.2 hne;have a:ds ⟨3,0,b.da%65536,b.next%65536,b.own,0,0⟩:=by
    refine⟨n0,?_,n0,.inl rfl,.inr (.inl rfl),.inr (.inl rfl),⟨λ_=>rfl,λ_=>F⟩,.inl rfl,.inl rfl⟩;unfold fits;rw[ep,fw];exact⟨λx B=>ei (E x (by rw[bR]at B;exact Ac B)),ei C⟩
   exact⟨sY a z32 (m16 _) (m16 _) z32,a,λ_=>⟨A,o.length-A,T,U,df _,U,by rw[<-e],by rw[<-d],by show b.own=_;rw[bR,nV aM],U⟩,λc=>by simp at c⟩
  unfold mR at hm;split at hm
  .rcases ff.1 hm with hm|hm
   .rw[hm];exact z
   have hm:=gC.1 hm;subst hm;have a:ds (oC b lead):=by
    unfold ds oC;exact⟨n0,rfl,n0,.inl rfl,.inr (.inr (.inr rfl)),.inl rfl,aM,.inl rfl,.inr rfl⟩
   exact xT ⟨sY a z32 (m16 _) qC z32,a,rfl,by unfold oC;simp⟩
  rw[gC.1 hm];exact z
 rw[cx];split
 .rw[jd];omega
 unfold mR;split
 .show _+2<=10;omega
 show _+1<=10;omega
end LkI
end
section
structure FH(n k c:J)(o q:ah aT)(T A Tq:J)(l:cd)(r:bL)(e:aa)(l':cd):al where
 inv:∃ T' cG,LkI (n+1) k o T' cG l'/\T<=T'/\T'<=q.length/\A<=cG/\(cG=A\/cG<=Tq)/\(T'=T\/T'<=cG+c)/\(e≠0->r.a_=[])/\r.a_=(q.drop T).take (T'-T)/\(r.a_≠[]->r.en=(T:aa))
 sum:0<=r.sum/\r.sum<4294967296
namespace LkI
variable{n k T A:J}{o:ah aT}{l:cd}
def cp(h:LkI n k o T A l)(y:o.length<=1000)(t:J)(aK:t<=1000):∃ cG,LkI n k o T cG (h3 l ((t:aa)%65536))/\A<=cG/\(cG=A\/cG=t)/\(t<=o.length->t<=cG):=by
 have w:=h.dp;have s:min l.da 1073741824=(A:aa):=by rw[h.ac];omega
 have a:l.own.length=o.length-A:=by rw[h.dB];simp
 unfold h3;rw[s,HJ A t U aK];simp only;by_cases x:t<A\/o.length<t
 .rw[aE (by rw[h.ac,a];omega)];exact⟨A,h,df _,.inl rfl,λ_=>U⟩
 rw[aB (by rw[h.ac,a];omega)];obtain⟨b,c,d,e,f,g,i,j,m,bR,u,p,v,q,r⟩:=h;refine⟨t,⟨b,c,d,e,f,g,i,j,rfl,?_,U,p,U,q,r⟩,U,.inr rfl,λ_=>df _⟩;rw[show((t:aa)-l.da).toNat=t-A by rw[m];omega,bR,mV,show A+(t-A)=t by omega]
def bY(h:LkI n k o T A l)(q:ah aT)(B:T<=q.length)(E:q.length<=1000)(a e:J)(C:a+e<=q.length)(D:0<e)(m:a6)(aw:m.cr=(a:aa)%65536)(ax:m.a_=(q.drop a).take e):∃ T' r l',jm l m=(r,(if T'=T then false else true),l')/\LkI n k o T' A l'/\T<=T'/\(T'=T\/T'=a+e)/\r.a_=(q.drop T).take (T'-T)/\(r.a_≠[]->r.en=(T:aa))/\r.sum=0:=by
 have hm:min l.next 1073741824=(T:aa):=by rw[h.dO];omega
 have z:m.a_.length=e:=by rw[ax];simp;omega
 unfold jm;rw[hm,aw,HJ T a U U];simp only[z];by_cases an:T<a\/a+e<=T
 .rw[aE (by rw[h.dO];omega)];exact⟨T,_,_,by rw[aE rfl],h,df _,.inl rfl,by simp[bL.zero],λc=>absurd rfl c,rfl⟩
 rw[aB (by rw[h.dO];omega)];obtain⟨d,f,g,i,j,p,s,t,u,bR,v,b,w,x,y⟩:=h;refine⟨a+e,⟨m.kind,l.next,m.a_.drop (l.next-(a:aa)).toNat,0,0,0⟩,{l with next:=(a:aa)+(e:aa)},by rw[aB U],⟨d,f,g,i,j,p,s,t,u,bR,v,by show(a:aa)+(e:aa)=((a+e:J):aa);omega,w,x,y⟩,U,.inr rfl,?_,λ_=>b,rfl⟩;rw[show(l.next-(a:aa)).toNat=T-a by rw[b];omega,ax,drop_take,mV,show a+(T-a)=T by omega,show e-(T-a)=a+e-T by omega]
def set(h:LkI n k o T A l)(hd g b t:aa)(h1:0<=hd/\hd<=n)(h2:0<=g/\g<=n)(r:0<=b/\b<=n)(s:0<=t/\t<=n):LkI n k o T A {l with heard:=hd,e2:=g,bad:=b,fe:=t}:=by
 have⟨a,c,d,e,u,v,w,x,f,bR,i,j,m,p,q⟩:=h;exact⟨a,c,d,e,h1,h2,r,s,f,bR,i,j,m,p,q⟩
theorem state(h:LkI n k o T A l)(s:aa)(aw:s=0\/s=1\/s=2):LkI n k o T A {l with state:=s}:=by
 have⟨a,b,t,c,d,e,f,g,i,bR,j,m,p,q,r⟩:=h;exact⟨a,b,aw,c,d,e,f,g,i,bR,j,m,p,q,r⟩
def YL(h:LkI n k o T A l)(C:o.length<=1000)(q:ah aT)(w:T<=q.length)(fr:q.length<=1000){Tq c:J}(r':Tq<=o.length){m:a6}(ok:jg c q Tq m):∃ T' cG,LkI n k o T' cG (cW l m).2.2/\T<=T'/\T'<=q.length/\A<=cG/\(cG=A\/cG<=Tq)/\(T'=T\/T'<=cG+c)/\(cW l m).1.a_=(q.drop T).take (T'-T)/\((cW l m).1.a_≠[]->(cW l m).1.en=(T:aa))/\(0<=(cW l m).1.sum/\(cW l m).1.sum<4294967296)/\((cW l m).2.1=false->(cW l m).1.a_=[]):=by
 obtain⟨wf,sd,Z,ab⟩:=ok;have same:∀ {l':cd} {r:bL} {b:a1},cW l m=(r,b,l')->LkI n k o T A l'->r.a_=[]->(0<=r.sum/\r.sum<4294967296)->_:=λ{l' r b} e a' ax aw=>(⟨T,A,by rw[e];exact a',df _,w,df _,.inl rfl,.inl rfl,by rw[e];show r.a_=_;rw[ax];simp,λc=>absurd (by rw[e];exact ax) c,by rw[e];exact aw,λ_=>by rw[e];exact ax⟩:∃ T' cG,LkI n k o T' cG (cW l m).2.2/\T<=T'/\T'<=q.length/\A<=cG/\(cG=A\/cG<=Tq)/\(T'=T\/T'<=cG+c)/\(cW l m).1.a_=(q.drop T).take (T'-T)/\((cW l m).1.a_≠[]->(cW l m).1.en=(T:aa))/\(0<=(cW l m).1.sum/\(cW l m).1.sum<4294967296)/\((cW l m).2.1=false->(cW l m).1.a_=[]));have z:(0:aa)<=0/\(0:aa)<4294967296:=U;by_cases d:m.kind=1
 .refine same (show cW l m=_ by unfold cW;rw[aE d]) ?_ rfl z;split
  .exact h
  rename_i ps;obtain⟨G,H,K,L,M,N,O,P,Q,bR,R,S,V,W,m'⟩:=h;refine⟨G,H,K,L,M,N,O,P,Q,bR,R,S,V,λx i=>?_,Ng⟩;rcases eJ.1 i with i|i
  .exact W x i
  rw[gC.1 i];have D:ds ⟨2,m.bQ,0,0,[],0,0⟩:=by
   exact⟨n0,rfl,n0,.inr (.inr rfl),.inl rfl,.inl rfl,aM,.inl rfl,.inl rfl⟩
  exact⟨sY D wf.bQ qC qC z32,D,rfl,aM⟩
 by_cases j:m.kind=2
 .by_cases av:m.bQ=l.bQ
  .exact same (show cW l m=_ by unfold cW;rw[aB d,aE j,aE av]) (h.state 1 (.inr (.inl rfl))) rfl z
  exact same (show cW l m=_ by unfold cW;rw[aB d,aE j,aB av]) h rfl z
 by_cases y:m.kind=7
 .exact same (show cW l m=_ by unfold cW;rw[aB d,aB j,aE y]) (h.state 2 (.inr (.inr rfl))) rfl z
 by_cases aw:l.state=1
 .have g:cW l m=h_ l m:=by unfold cW;rw[aB d,aB j,aB y,aE aw]
  by_cases f:m.kind=3
  .have⟨a,e,t,gf,s',vl,g',hd,h2,lb⟩:=Z f;have⟨cG,g1,v,Y,B⟩:=h.cp C t U;rw[<-hd]at g1;have⟨T',r,l',i1,i2,i3,p,E,i6,i7⟩:=g1.bY q w fr a e gf lb m g' h2;have u:cW l m=(r,(if T'=T then false else true),l'):=by rw[g];unfold h_;rw[aE f,i1]
   rw[u];refine⟨T',cG,i2,i3,U,v,U,?_,E,i6,by show 0<=r.sum/\r.sum<_;omega,λak=>?_⟩
   .rcases p with p|p
    .exact .inl p
    have:=B U;omega
   show r.a_=[];have ak:=ak;split at ak
   .rename_i X;rw[E,X];simp
   cases ak
  by_cases cP:m.kind=4
  .exact same (show cW l m=_ by rw[g];unfold h_;rw[aB f,aE cP]) h rfl wf.sum
  by_cases s:m.kind=5
  .have⟨t,t1,t2⟩:=ab s;have⟨cG,g1,v,Y,B⟩:=h.cp C t U;rw[<-t2]at g1;have u:cW l m=(⟨5,0,[],0,0,0⟩,true,h3 l m.cp):=by rw[g];unfold h_;rw[aB f,aB cP,aE s]
   rw[u];exact⟨T,cG,g1,df _,w,v,U,.inl rfl,aM,λc=>absurd rfl c,z,λ_=>rfl⟩
  by_cases F:m.kind=6
  .exact same (show cW l m=_ by rw[g];unfold h_;rw[aB f,aB cP,aB s,aE F]) h rfl z
  exact same (show cW l m=_ by rw[g];unfold h_;rw[aB f,aB cP,aB s,aB F]) h rfl z
 exact same (show cW l m=_ by unfold cW;rw[aB d,aB j,aB y,aB aw]) h rfl z
def t_(h:LkI n k o T A l)(E:o.length<=1000)(q:ah aT)(d:T<=q.length)(F:q.length<=1000){Tq c:J}(B:Tq<=o.length){t:ah aT}(aK:(∃ m,t=dv m/\jg c q Tq m)\/(fG t).2≠0):FH n k c o q T A Tq l (cD l t).1 (cD l t).2.1 (cD l t).2.2:=by
 have z:(0:aa)<=0/\(0:aa)<4294967296:=U;have f:∀ {l':cd} {e:aa},cD l t=(bL.zero,e,l')->LkI (n+1) k o T A l'->FH n k c o q T A Tq l (cD l t).1 (cD l t).2.1 (cD l t).2.2:=λ{l' e} C D=>by
  rw[C];exact⟨⟨T,A,D,df _,d,df _,.inl rfl,.inl rfl,λ_=>rfl,by show []=_;simp,λc=>absurd rfl c⟩,z⟩
 by_cases aw:l.state=2
 .exact f (show cD l t=_ by unfold cD;rw[aE aw]) h.up
 have h1:=h.hd;have h2:=h.e2;have v:=h.bad;have w:=h.fe;have x:=h.oM;by_cases b:(fG t).2≠0
 .exact f (show cD l t=_ by unfold cD;rw[aB aw,aE b]) (h.up.set l.heard l.e2 (l.bad+1) l.fe U U U U)
 rcases aK with⟨m,rfl,ok⟩|aK
 .have G:=Ds m ok.2.1 ok.1;have u:cD l (dv m)=if (cW {l with heard:=l.cf} m).2.1 then((cW {l with heard:=l.cf} m).1,0,{(cW {l with heard:=l.cf} m).2.2 with e2:=(cW {l with heard:=l.cf} m).2.2.e2+1})else(bL.zero,0,{(cW {l with heard:=l.cf} m).2.2 with fe:=(cW {l with heard:=l.cf} m).2.2.fe+1}):=by
   unfold cD;rw[aB aw,aB b,G]
  have⟨T',cG,a,g,i,j,p,r,s,K,L,H⟩:=(h.set l.cf l.e2 l.bad l.fe x h2 v w).YL E q d F B ok;rw[u];have g1:=a.hd;have M:=a.e2;have N:=a.bad;have O:=a.fe;split
  .exact⟨⟨T',cG,a.up.set _ _ _ _ U U U U,g,i,j,p,r,λc=>absurd rfl c,s,K⟩,L⟩
  rename_i ak;have ax:=H (by simpa using ak);have y:T'=T:=by
   rw[s]at ax
   have:=c5 length ax
   exact MS
  exact⟨⟨T',cG,a.up.set _ _ _ _ U U U U,g,i,j,p,r,λ_=>rfl,by show []=_;rw[y];simp,λc=>absurd rfl c⟩,z⟩
 exact absurd aK b
end LkI
end
def GU(w:aj)(b cap:J)(l:ah aT)(k:J)(c:aT)(hk:k<l.length)(a:∀ i (h:i<l.length),w.cell? (ae b i ad)=some (aH l[i].toNat)):(convert 51 9 (aq (some (ae b 0 ad)) l.length cap)).run prog (w.setCell (ae b k ad) (aH c.toNat))=.ok (.string ⟨(l.set k c).toArray⟩) (w.setCell (ae b k ad) (aH c.toNat)):=by
 have h:=D4 (P:=prog) (w.setCell (ae b k ad) (aH c.toNat)) 51 9 5 (ae b 0 ad) cap (l.set k c) underlying51 underlying5 underlying9 (by
  intro j f;have d:j<l.length:=by simpa using f
  have ec:((ae b 0 ad):Addr).add j=(ae b j ad):=by rw[ij,gP]
  rw[ec];by_cases e:k=j
  .subst e;rw[w8 _ _ _ (a k hk)];simp
  .rw[D0 _ _ _ _ aM,a j d];simp[xh e])
 simpa using h
def iA(x:aa)(n:J):J:=if x.tmod n<0 then(x.tmod n+n).toNat else(x.tmod n).toNat
def Y0(x:aa)(n:J)(a:0<n):-(n:aa)<x.tmod n/\x.tmod n<n:=by
 have c:=YZ x n;by_cases h:0<=x
 .rw[c.1 h]
  have:=Mg x (show(0:aa)<n by omega)
  have:=D' x (show(n:aa)≠0 by omega)
  omega
 rw[c.2 U]
 have:=Mg (-x) (show(0:aa)<n by omega)
 have:=D' (-x) (show(n:aa)≠0 by omega)
 omega
def Dr(x:aa)(n:J)(a:0<n)(h1:n<=256):∃ r:aa,x.tmod (n:aa)=r/\((r<0/\wrap64 (r+n)=(iA x n:aa)/\iA x n<n)\/(0<=r/\r=(iA x n:aa)/\iA x n<n)):=by
 have h:=Y0 x n a;refine⟨x.tmod n,rfl,?_⟩;unfold iA;split
 .left;unfold wrap64;omega
 right;omega
def me(x:aT)(b:J):aT:=UInt8.ofNat (x.toNat ^^^ b)
def Z2(x:aT)(b:J)(ak:b<256):bits .xor .u8 (x.toNat:aa) (b:aa)=((me x b).toNat:aa):=by
 rw[u8_xor_nat _ b x.toNat_lt ak,me];simp[jy (Ml (n:=8) x.toNat_lt ak),-UInt8.toNat_xor,-UInt8.ofNat_xor]
def sV(l:ah aT)(x:aa)(b:J):ah aT:=l.set (iA x l.length) (me (l.getD (iA x l.length) 0) b)
def pD(t:ch)(x:aa)(b:J):ch:=⟨(sV t.data.toList x b).toArray⟩
section
variable{w w':aj}{c m most:J}{s:cY}
def PN(h:eY w c most s)(toq i x:aa)(b:J)(av:fX s toq i=none):aA 100 #[c,I toq,I i,I x,aH b] w λe w'=>e=aY #[.string ByteArray.empty,false]/\eY w' c most s/\Keeps (ht c) w w':=by
 have a:=tH h toq i;rw[av,Di av]at a
 go_in
 go_wp2_with fail;refine aW a ?_;rintro aD ⟨h2,d⟩;go_wp2;go_ret2;exact⟨rfl,h2,d⟩
def PM(h:eY w c most s)(toq i x:aa)(b:J)(ak:b<256)(v:ch)(av:fX s toq i=some v)(N:0<v.size)(O:v.size<=256):aA 100 #[c,I toq,I i,I x,aH b] w λe w'=>e=aY #[.string (pD v x b),true]/\eY w' c most (fS s toq i)/\Keeps (ht c) w w':=by
 have p:=tH h toq i;rw[av,show Df (some v)=Value.string v from rfl]at p;have ew:=ag p;have l:v.data.toList.length=v.size:=aM;obtain⟨r,F,m⟩:=Dr x v.data.toList.length U U;have j:=ag (show iA x v.data.toList.length<v.data.toList.length by rcases m with⟨_,_,h⟩|⟨_,_,h⟩<;>exact h);have gK:=ag (show sV v.data.toList x b=v.data.toList.set (iA x v.data.toList.length) (me (v.data.toList[iA x v.data.toList.length]'j.out) b)by unfold sV;rw[oV,gA j.o];rfl);generalize iA x v.data.toList.length=k at *;have hk:=j.o;have P:=Z2 (v.data.toList[k]'hk) b ak;unfold pD;rw[gK.o];rw[l]at m F;generalize K:v.data.toList[k]=z at *;generalize H:me z b=y at *;generalize C:v.data.toList.set k y=M at *;have f:=ag K;have n:=ag H;have cI:=ag C;rcases m with⟨h1,h2,_⟩|⟨h1,rfl,_⟩
 .go_in
  go_wp2_with fail;refine aW ew.out ?_;rintro aD ⟨t,B⟩;have⟨cap,ao,E,D,u,G,d,q⟩:=x9 aD v;have an:=d k U;have L:=q k U;have a:=GU ao aD.heap.size cap v.data.toList k (me (v.data.toList[k]'hk) b) hk (λi h=>d i U);rw[f.out,n.out,cI.out]at a;rw[f.out]at an;have g:eY (ao.setCell (ae aD k ad) (aH y.toNat)) c most (fS s toq i)/\Keeps (ht c) w (ao.setCell (ae aD k ad) (aH y.toNat)):=by
   exact N7
  rw[l]at a;go_wp2;go_ret2;exact⟨rfl,g⟩
 go_in
 go_wp2_with fail;refine aW ew.out ?_;rintro aD ⟨t,B⟩;have⟨cap,ao,E,D,u,G,d,q⟩:=x9 aD v;have an:=d k U;have a:=GU ao aD.heap.size cap v.data.toList k (me (v.data.toList[k]'hk) b) hk (λi h=>d i U);rw[f.out,n.out,cI.out]at a;rw[f.out]at an;have g:eY (ao.setCell (ae aD k ad) (aH y.toNat)) c most (fS s toq i)/\Keeps (ht c) w (ao.setCell (ae aD k ad) (aH y.toNat)):=by
  exact N7
 rw[l]at a;go_wp2;go_ret2;exact⟨rfl,g⟩
end
end Go.Proofs.YtalagblioepadaaGreatDoor
