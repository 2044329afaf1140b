import Derived.Test.YtcmepkhjggpmeaaGreatZuG46
import Derived.Test.YtcmepkhjggpmeaaGreatZuG42
set_option linter.all false
set_option maxRecDepth 100000
set_option maxHeartbeats 8000000
namespace Go.Proofs.YtcmepkhjggpmeaaGreat
open Go.RowKit aP Go.Proofs.aF.R Go.Proofs.aD.aY
abbrev PT:=aZ
abbrev RT:=aH
def pX (p:PT):RG:=(p.f0.f0.f0,p.f0.f0.f1,p.f0.f1)
def pY (p:PT):RG:=(p.f1.f0.f0,p.f1.f0.f1,p.f1.f1)
structure dS (n:Nat) (a:RG):Prop where
 o:gZ a
 s1:a.2.1.size<=n
 s2:a.2.2.size<=n
structure ko (p:PT):Prop where
 x:dS 40 (pX p)
 y:dS 40 (pY p)
theorem dS.mono {n m:Nat} {a:RG} (h:dS n a) (hm:n<=m):dS m a:=⟨h.o,Nat.le_trans h.s1 hm,Nat.le_trans h.s2 hm⟩
theorem lF {n:Nat} {a b:RG} (ha:dS n a) (hb:dS n b) (hn:n<=400):dS (n+n+1) (pq (rq a-rq b)):=by
 have h:=apA ha.o hb.o ha.s1 ha.s2 hb.s1 hb.s2;exact⟨SY qo qo,h.1,by omega⟩
theorem xw {n:Nat} {a b:RG} (ha:dS n a) (hb:dS n b) (hn:n<=400):dS (n+n) (pq (rq a*rq b)):=by
 have h:=apB ha.o hb.o ha.s1 ha.s2 hb.s1 hb.s2;exact⟨SY qo qo,h.1,h.2⟩
def KH (a b c:PT):Int:=El ((rq (pX b)-rq (pX a))*(rq (pY c)-rq (pY a))-(rq (pY b)-rq (pY a))*(rq (pX c)-rq (pX a))) 0
theorem NK (k:Nat) {a b c d:RG} (ha:dS 400 a) (hb:dS 400 b) (hc:dS 400 c) (hd:dS 400 d) :
  kr.f (k+1) a.1 a.2.1 a.2.2 b.1 b.2.1 b.2.2 c.1 c.2.1 c.2.2 d.1 d.2.1 d.2.2=some ((pq (rq a-rq c)).1,(pq (rq a-rq c)).2.1,(pq (rq a-rq c)).2.2,(pq (rq b-rq d)).1,(pq (rq b-rq d)).2.1,(pq (rq b-rq d)).2.2):=by
 unfold kr.f;rw[SE k a c ha.o hc.o ha.s1 ha.s2 hc.s1 hc.s2,Option.bind_some,SE k b d hb.o hd.o hb.s1 hb.s2 hd.s1 hd.s2,Option.bind_some]
theorem aap (k:Nat) {a b c d:RG} (ha:dS 200 a) (hb:dS 200 b) (hc:dS 200 c) (hd:dS 200 d) :
  oQ.f (k+1) a.1 a.2.1 a.2.2 b.1 b.2.1 b.2.2 c.1 c.2.1 c.2.2 d.1 d.2.1 d.2.2=some (pq (rq a*rq d-rq b*rq c)):=by
 unfold oQ.f;have m1:=xw ha hd qo;have m2:=xw hb hc qo
 rw[Yu k a d ha.o hd.o (by have:=ha.s1;omega) (by have:=ha.s2;omega) (by have:=hd.s1;omega) (by have:=hd.s2;omega),Option.bind_some,Yu k b c hb.o hc.o (by have:=hb.s1;omega) (by have:=hb.s2;omega) (by have:=hc.s1;omega) (by have:=hc.s2;omega),Option.bind_some,
  SE k _ _ m1.o m2.o m1.s1 m1.s2 m2.s1 m2.s2,Option.bind_some,rj,rj]
theorem alz (k:Nat) {a b c:PT} (ha:ko a) (hb:ko b) (hc:ko c) :
  pV.f (k+1) a.f0.f0.f0 a.f0.f0.f1 a.f0.f1 a.f1.f0.f0 a.f1.f0.f1 a.f1.f1 b.f0.f0.f0 b.f0.f0.f1 b.f0.f1 b.f1.f0.f0 b.f1.f0.f1 b.f1.f1 c.f0.f0.f0 c.f0.f0.f1 c.f0.f1 c.f1.f0.f0 c.f1.f0.f1 c.f1.f1=some (KH a b c):=by
 have xb:=lF hb.x ha.x qo;have yb:=lF hb.y ha.y qo;have xc:=lF hc.x ha.x qo;have yc:=lF hc.y ha.y qo;have m1:=NK k (hb.x.mono (m:=400) qo) (hb.y.mono qo) (ha.x.mono qo) (ha.y.mono qo);have m2:=NK k (hc.x.mono (m:=400) qo) (hc.y.mono qo) (ha.x.mono qo) (ha.y.mono qo);have cr:=aap k (xb.mono (m:=200) qo) (yb.mono qo) (xc.mono qo) (yc.mono qo);have m3:=xw xb yc qo;have m4:=xw yb xc qo;have s:=lF (m3.mono (m:=200) qo) (m4.mono qo) qo;simp only[rj]at cr s;unfold pV.f
 rw[show kr.f (k+1) b.f0.f0.f0 b.f0.f0.f1 b.f0.f1 b.f1.f0.f0 b.f1.f0.f1 b.f1.f1 a.f0.f0.f0 a.f0.f0.f1 a.f0.f1 a.f1.f0.f0 a.f1.f0.f1 a.f1.f1=_ from m1,Option.bind_some,
  show kr.f (k+1) c.f0.f0.f0 c.f0.f0.f1 c.f0.f1 c.f1.f0.f0 c.f1.f0.f1 c.f1.f1 a.f0.f0.f0 a.f0.f0.f1 a.f0.f1 a.f1.f0.f0 a.f1.f0.f1 a.f1.f1=_ from m2,Option.bind_some]
 dsimp only;rw[cr,Option.bind_some,alw s.o,Option.bind_some,rj];rfl
theorem XW:∀ (n i K:Nat) (l:List RT),l.length=i+n->n+3<=K->i+n<=1000->(∀ j,j<l.length->dS 400 ((fP l (j:Int)).f0.f0,(fP l (j:Int)).f0.f1,(fP l (j:Int)).f1))->mJ.l0 K l (l.length:Int) (i:Int)=some 0:=by
 intro n;induction n with
 | zero =>
  intro i K l hl hK hb ho;obtain⟨k,rfl⟩:∃ k,K=k+1:=⟨K-1,by omega⟩
  rw[mJ.l0,if_neg qo]
 | succ n ih =>
  intro i K l hl hK hb ho;obtain⟨k,rfl⟩:∃ k,K=k+2+1:=⟨K-3,by omega⟩
  have h:=ho i qo;have hc:=Nb k _ (show((fP l (i:Int)).f0.f0,(fP l (i:Int)).f0.f1,(fP l (i:Int)).f1).2.1.size<=15000 by have:=h.s1;omega) (by have:=h.s2;omega);rw[mJ.l0,if_pos qo,if_pos qo,if_pos qo];dsimp only at hc;rw[hc,Bf.2 h.o,Option.bind_some,if_pos rfl,kB qo];exact ih (i+1) (k+2) l qo qo qo ho
theorem arP (k:Nat) {a b:RG} (ha:dS 400 a) (hb:dS 400 b):mJ.f (k+5) [⟨⟨a.1,a.2.1⟩,a.2.2⟩,⟨⟨b.1,b.2.1⟩,b.2.2⟩]=some 0 :=
 XW 2 0 (k+5) _ rfl qo qo (fun j hj=>by
  have:j=0\/j=1:=by simp at hj;omega
  rcases this with rfl|rfl
  ·exact ha
  ·exact hb)
theorem arQ (k:Nat) {a b c d:RG} (ha:dS 400 a) (hb:dS 400 b) (hc:dS 400 c) (hd:dS 400 d):mJ.f (k+7) [⟨⟨a.1,a.2.1⟩,a.2.2⟩,⟨⟨b.1,b.2.1⟩,b.2.2⟩,⟨⟨c.1,c.2.1⟩,c.2.2⟩,⟨⟨d.1,d.2.1⟩,d.2.2⟩]=some 0 :=
 XW 4 0 (k+7) _ rfl qo qo (fun j hj=>by
  have:j=0\/j=1\/j=2\/j=3:=by simp at hj;omega
  rcases this with rfl|rfl|rfl|rfl
  ·exact ha
  ·exact hb
  ·exact hc
  ·exact hd)
theorem aaq (k:Nat) {a b:RG} (ha:dS 400 a) (hb:dS 400 b):vG.f (k+5) a.1 a.2.1 a.2.2 b.1 b.2.1 b.2.2=some 0:=by
 unfold vG.f;rw[arP k ha hb];rfl
theorem ahP:∀ (n i K:Nat) (l:List PT),l.length=i+n->n+6<=K->i+n<=1000->(∀ j,j<l.length->dS 400 (pX (aB l (j:Int)))/\dS 400 (pY (aB l (j:Int))))->mK.l0 K l (l.length:Int) (i:Int)=some 0:=by
 intro n;induction n with
 | zero =>
  intro i K l hl hK hb ho;obtain⟨k,rfl⟩:∃ k,K=k+1:=⟨K-1,by omega⟩
  rw[mK.l0,if_neg qo]
 | succ n ih =>
  intro i K l hl hK hb ho;obtain⟨k,rfl⟩:∃ k,K=k+5+1:=⟨K-6,by omega⟩
  have h:=ho i qo;have hc:=aaq k h.1 h.2;unfold pX pY at hc;rw[mK.l0,if_pos qo,if_pos qo,if_pos qo];dsimp only at hc;rw[hc,Option.bind_some,if_pos rfl,kB qo];exact ih (i+1) (k+5) l qo qo qo ho
theorem aep (k:Nat) {a b c d:RG} (ha:dS 400 a) (hb:dS 400 b) (hc:dS 400 c) (hd:dS 400 d):mK.f (k+8) [⟨⟨⟨a.1,a.2.1⟩,a.2.2⟩,⟨⟨b.1,b.2.1⟩,b.2.2⟩⟩,⟨⟨⟨c.1,c.2.1⟩,c.2.2⟩,⟨⟨d.1,d.2.1⟩,d.2.2⟩⟩]=some 0 :=
 ahP 2 0 (k+8) _ rfl qo qo (fun j hj=>by
  have:j=0\/j=1:=by simp at hj;omega
  rcases this with rfl|rfl
  ·exact⟨ha,hb⟩
  ·exact⟨hc,hd⟩)
theorem Uv (k:Nat) {a b:RG} (ha:dS 400 a) (hb:dS 400 b):sy.f (k+2) a.1 a.2.1 a.2.2 b.1 b.2.1 b.2.2=some (pq (rq a-rq b)):=by
 obtain⟨r,hr,h1,-⟩:=alu k a b (by have:=ha.s1;omega) (by have:=ha.s2;omega) (by have:=hb.s1;omega) (by have:=hb.s2;omega);unfold sy.f;rw[hr,<- h1 (DG.2 ⟨ha.o,hb.o⟩)];rfl
theorem abZ (k:Nat) {a b:RG} (ha:dS 400 a) (hb:dS 400 b):vB.f (k+2) a.1 a.2.1 a.2.2 b.1 b.2.1 b.2.2=some (pq (rq a*rq b)):=by
 obtain⟨r,hr,h1,-⟩:=alv k a b (by have:=ha.s1;omega) (by have:=ha.s2;omega) (by have:=hb.s1;omega) (by have:=hb.s2;omega);unfold vB.f;rw[hr,<- h1 (DG.2 ⟨ha.o,hb.o⟩)];rfl
theorem NL (k:Nat) {a b c d:RG} (ha:dS 400 a) (hb:dS 400 b) (hc:dS 400 c) (hd:dS 400 d) :
  sB.f (k+8) a.1 a.2.1 a.2.2 b.1 b.2.1 b.2.2 c.1 c.2.1 c.2.2 d.1 d.2.1 d.2.2=some ((pq (rq a-rq c)).1,(pq (rq a-rq c)).2.1,(pq (rq a-rq c)).2.2,(pq (rq b-rq d)).1,(pq (rq b-rq d)).2.1,(pq (rq b-rq d)).2.2):=by
 unfold sB.f A_.f qN.f;rw[aep k ha hb hc hd,Option.bind_some,if_pos rfl,Uv (k+6) ha hc,Option.bind_some,Uv (k+6) hb hd,Option.bind_some];rfl
theorem aar (k:Nat) {a b c d:RG} (ha:dS 200 a) (hb:dS 200 b) (hc:dS 200 c) (hd:dS 200 d) :
  AX.f (k+8) a.1 a.2.1 a.2.2 b.1 b.2.1 b.2.2 c.1 c.2.1 c.2.2 d.1 d.2.1 d.2.2=some (pq (rq a*rq d-rq b*rq c)):=by
 have a4:=ha.mono (m:=400) qo;have b4:=hb.mono (m:=400) qo;have c4:=hc.mono (m:=400) qo;have d4:=hd.mono (m:=400) qo;have m1:=xw ha hd qo;have m2:=xw hb hc qo;unfold AX.f AZ.f pU.f;rw[aep k a4 b4 c4 d4,Option.bind_some,if_pos rfl,arQ (k+1) a4 b4 d4 c4,Option.bind_some,if_pos rfl,abZ (k+6) a4 d4,Option.bind_some,abZ (k+6) b4 c4,Option.bind_some,Uv (k+6) m1 m2,Option.bind_some,rj,rj];rfl
theorem apE (k:Nat) {a:RG} (ha:dS 1000 a):C8.f (k+2) a.1 a.2.1 a.2.2=some (El (rq a) 0):=by
 obtain⟨s,hs,he⟩:=ahO k a (by have:=ha.s1;omega) (by have:=ha.s2;omega);unfold C8.f;rw[hs,<- he (Bf.2 ha.o)];rfl
theorem apF (k:Nat) {a b c:PT} (ha:ko a) (hb:ko b) (hc:ko c) :
  pL.f (k+8) a.f0.f0.f0 a.f0.f0.f1 a.f0.f1 a.f1.f0.f0 a.f1.f0.f1 a.f1.f1 b.f0.f0.f0 b.f0.f0.f1 b.f0.f1 b.f1.f0.f0 b.f1.f0.f1 b.f1.f1 c.f0.f0.f0 c.f0.f0.f1 c.f0.f1 c.f1.f0.f0 c.f1.f0.f1 c.f1.f1=some (KH a b c):=by
 have xb:=lF hb.x ha.x qo;have yb:=lF hb.y ha.y qo;have xc:=lF hc.x ha.x qo;have yc:=lF hc.y ha.y qo;have m1:=NL k (hb.x.mono (m:=400) qo) (hb.y.mono qo) (ha.x.mono qo) (ha.y.mono qo);have m2:=NL k (hc.x.mono (m:=400) qo) (hc.y.mono qo) (ha.x.mono qo) (ha.y.mono qo);have cr:=aar k (xb.mono (m:=200) qo) (yb.mono qo) (xc.mono qo) (yc.mono qo);have m3:=xw xb yc qo;have m4:=xw yb xc qo;have s:=lF (m3.mono (m:=200) qo) (m4.mono qo) qo;simp only[rj]at cr s;unfold pL.f
 rw[show sB.f (k+8) b.f0.f0.f0 b.f0.f0.f1 b.f0.f1 b.f1.f0.f0 b.f1.f0.f1 b.f1.f1 a.f0.f0.f0 a.f0.f0.f1 a.f0.f1 a.f1.f0.f0 a.f1.f0.f1 a.f1.f1=_ from m1,Option.bind_some,
  show sB.f (k+8) c.f0.f0.f0 c.f0.f0.f1 c.f0.f1 c.f1.f0.f0 c.f1.f0.f1 c.f1.f1 a.f0.f0.f0 a.f0.f0.f1 a.f0.f1 a.f1.f0.f0 a.f1.f0.f1 a.f1.f1=_ from m2,Option.bind_some]
 dsimp only;rw[cr,Option.bind_some,apE (k+6) (s.mono qo),Option.bind_some,rj];rfl
theorem alA:∀ (n i K:Nat) (l:List PT),l.length=i+n->6*n+8<=K->i+n<=1000->(∀ j,j<l.length->ko (aB l (j:Int)))->ia.l0 K l (l.length:Int) (i:Int)=some 0:=by
 intro n;induction n with
 | zero =>
  intro i K l hl hK hb ho;obtain⟨k,rfl⟩:∃ k,K=k+1:=⟨K-1,by omega⟩
  rw[ia.l0,if_neg qo]
 | succ n ih =>
  intro i K l hl hK hb ho;obtain⟨k,rfl⟩:∃ k,K=k+5+1+1+1+1+1+1:=⟨K-11,by omega⟩
  have h:=ho i qo;have hc:=aaq k (h.x.mono (m:=400) qo) (h.y.mono qo);have x1:=h.x.s1;have x2:=h.x.s2;have y1:=h.y.s1;have y2:=h.y.s2;unfold pX at x1 x2 hc;unfold pY at y1 y2 hc;dsimp only at x1 x2 y1 y2 hc;have nx1:¬ (((aB l (i:Int)).f0.f0.f1.size:Int) > 100):=by omega
  have nx2:¬ (((aB l (i:Int)).f0.f1.size:Int) > 100):=by omega
  have ny1:¬ (((aB l (i:Int)).f1.f0.f1.size:Int) > 100):=by omega
  have ny2:¬ (((aB l (i:Int)).f1.f1.size:Int) > 100):=by omega
  generalize hp:aB l (i:Int)=p at *;rw[ia.l0,if_pos qo,if_pos qo,if_pos qo,Option.bind_some];rw[hp];obtain⟨Y,hY⟩:∃ Y:List RT,[⟨⟨p.f0.f0.f0,p.f0.f0.f1⟩,p.f0.f1⟩,⟨⟨p.f1.f0.f0,p.f1.f0.f1⟩,p.f1.f1⟩]=Y:=⟨_,rfl⟩
  have hlen:(Y.length:Int)=2:=by rw[<- hY];rfl
  have h0:fP Y 0=⟨⟨p.f0.f0.f0,p.f0.f0.f1⟩,p.f0.f1⟩:=by rw[<- hY];rfl
  have h1:fP Y 1=⟨⟨p.f1.f0.f0,p.f1.f0.f1⟩,p.f1.f1⟩:=by rw[<- hY];rfl
  rw[hY,hlen];rw[ia.l1,hlen,if_pos qd,if_pos qd,if_pos qd,h0,if_neg nx1,decide_eq_false nx2,ia.j2,if_neg qd,arM];rw[ia.l1,hlen,if_pos qd,if_pos qd,if_pos qd,h1,if_neg ny1,decide_eq_false ny2,ia.j2,if_neg qd,arN];rw[ia.l1,if_neg qd,hc,Option.bind_some,if_pos rfl,kB qo];exact ih (i+1) (k+5) l qo qo qo ho
theorem SF (k:Nat) {a b c:PT} (ha:ko a) (hb:ko b) (hc:ko c) :
  th.f (k+26) a.f0.f0.f0 a.f0.f0.f1 a.f0.f1 a.f1.f0.f0 a.f1.f0.f1 a.f1.f1 b.f0.f0.f0 b.f0.f0.f1 b.f0.f1 b.f1.f0.f0 b.f1.f0.f1 b.f1.f1 c.f0.f0.f0 c.f0.f0.f1 c.f0.f1 c.f1.f0.f0 c.f1.f0.f1 c.f1.f1=some (KH a b c,0):=by
 have h:ia.f (k+26) [a,b,c]=some 0:=alA 3 0 (k+26) _ rfl qo qo (fun j hj=>by
  have:j=0\/j=1\/j=2:=by simp at hj;omega
  rcases this with rfl|rfl|rfl
  ·exact ha
  ·exact hb
  ·exact hc)
 unfold th.f;rw[show([⟨⟨⟨a.f0.f0.f0,a.f0.f0.f1⟩,a.f0.f1⟩,⟨⟨a.f1.f0.f0,a.f1.f0.f1⟩,a.f1.f1⟩⟩,⟨⟨⟨b.f0.f0.f0,b.f0.f0.f1⟩,b.f0.f1⟩,⟨⟨b.f1.f0.f0,b.f1.f0.f1⟩,b.f1.f1⟩⟩,⟨⟨⟨c.f0.f0.f0,c.f0.f0.f1⟩,c.f0.f1⟩,⟨⟨c.f1.f0.f0,c.f1.f0.f1⟩,c.f1.f1⟩⟩]:List PT)=[a,b,c] from rfl,h,Option.bind_some,if_pos rfl,apF (k+18) ha hb hc,Option.bind_some]
theorem ahQ:∀ (n i K:Nat) (l:List PT),l.length=i+n->n+27<=K->i+n<=1000->(∀ j,j<l.length->ko (aB l (j:Int)))->nB.l0 K l (l.length:Int) (i:Int)=some 0:=by
 intro n;induction n with
 | zero =>
  intro i K l hl hK hb ho;obtain⟨k,rfl⟩:∃ k,K=k+1:=⟨K-1,by omega⟩
  rw[nB.l0,if_neg qo]
 | succ n ih =>
  intro i K l hl hK hb ho;obtain⟨k,rfl⟩:∃ k,K=k+26+1:=⟨K-27,by omega⟩
  have h:=ho i qo;rw[nB.l0,if_pos qo,if_pos qo,if_pos qo,SF k h h h,Option.bind_some,if_pos rfl,kB qo];exact ih (i+1) (k+26) l qo qo qo ho
def mE (ps:PS) (i j k:Nat):Int:=KH (au ps i) (au ps j) (au ps k)
def z_ (ps:PS):Prop:=∀ j,j<ps.length->ko (au ps j)
theorem Mr {ps:PS} (h:z_ ps) (hl:ps.length<=1000) (K:Nat) (hK:ps.length+27<=K):nB.f K ps=some 0:=ahQ ps.length 0 K ps qo hK qo h
theorem Iu {ps:PS} (h:z_ ps) (K:Nat) (hK:26<=K):CP K ps (mE ps):=by
 obtain⟨k,rfl⟩:∃ k,K=k+26:=⟨K-26,by omega⟩
 exact fun i j l hi hj hl=>SF k (h i hi) (h j hj) (h l hl)
theorem orO {ps:PS} (h:z_ ps) (K:Nat) (hK:1<=K):Wi K ps (mE ps):=by
 obtain⟨k,rfl⟩:∃ k,K=k+1:=⟨K-1,by omega⟩
 exact fun i j l hi hj hl=>alz k (h i hi) (h j hj) (h l hl)
theorem NM (ps:PS) (i j k:Nat) (h:0<mE ps i j k):i≠j/\j≠k/\k≠i:=by
 unfold mE KH El at h;refine⟨?_,?_,?_⟩
 all_goals
  rintro rfl;split at h
  ·omega
  ·split at h
   ·rename_i h1 h2
    revert h2
    intro h2;refine absurd h2 (Rat.not_lt.2 ?_);grind
   ·omega
theorem ahR {ps:PS} {j:Nat} (h:CT ps j=true):(pX (au ps j)).2.1.size<=40/\(pX (au ps j)).2.2.size<=40/\(pY (au ps j)).2.1.size<=40/\(pY (au ps j)).2.2.size<=40:=by
 unfold CT LS at h;simp only[Bool.and_eq_true,decide_eq_true_eq]at h;unfold pX pY;dsimp only;omega
theorem aas (b:Bool) (x y:ByteArray) (hx:x.size<=40) (hy:y.size<=40):um.f b x y=some false:=by
 unfold um.f;rw[if_neg qo,decide_eq_false qo]
theorem ahS:∀ (n i K:Nat) (ps:PS),ps.length=i+n->2*n+4<=K->i+n<=1000->(∀ j,j<ps.length->CT ps j=true)->∃ r,l6.l0 K ps (i:Int)=some r/\(r=0->∀ j,i<=j->j<ps.length->ko (au ps j)):=by
 intro n;induction n with
 | zero =>
  intro i K ps hl hK hb hs;obtain⟨k,rfl⟩:∃ k,K=k+1:=⟨K-1,by omega⟩
  exact⟨0,by rw[l6.l0,if_neg qo],fun _ j h1 h2=>by omega⟩
 | succ n ih =>
  intro i K ps hl hK hb hs;obtain⟨k,rfl⟩:∃ k,K=k+2+1+1:=⟨K-4,by omega⟩
  obtain⟨s1,s2,s3,s4⟩:=ahR (hs i qo);have f_:=aas (au ps i).f0.f0.f0 _ _ s1 s2;have hl2:=aas (au ps i).f1.f0.f0 _ _ s3 s4;have WH:=alr k (pX (au ps i)) (pY (au ps i)) qo qo qo qo;have EN:yl.f (k+2) (au ps i).f0.f0.f0 (au ps i).f0.f0.f1 (au ps i).f0.f1 (au ps i).f1.f0.f0 (au ps i).f1.f0.f1 (au ps i).f1.f1=some (lQ (pX (au ps i)) (pY (au ps i))):=by
   unfold yl.f;rw[show AV.f (k+2) (au ps i).f0.f0.f0 (au ps i).f0.f0.f1 (au ps i).f0.f1 (au ps i).f1.f0.f0 (au ps i).f1.f0.f1 (au ps i).f1.f1=_ from WH];rfl
  unfold pX at f_;unfold pY at hl2;dsimp only at f_ hl2;rw[l6.l0,if_pos qo,if_pos qo]
  rw[show um.f (aB ps (i:Int)).f0.f0.f0 (aB ps (i:Int)).f0.f0.f1 (aB ps (i:Int)).f0.f1=some false from f_,Option.bind_some,if_neg qd,
   show um.f (aB ps (i:Int)).f1.f0.f0 (aB ps (i:Int)).f1.f0.f1 (aB ps (i:Int)).f1.f1=some false from hl2,Option.bind_some,
   l6.j1,if_neg qd,if_pos qo,if_pos qo]
  rw[show yl.f (k+2) (aB ps (i:Int)).f0.f0.f0 (aB ps (i:Int)).f0.f0.f1 (aB ps (i:Int)).f0.f1 (aB ps (i:Int)).f1.f0.f0 (aB ps (i:Int)).f1.f0.f1 (aB ps (i:Int)).f1.f1=_ from EN,Option.bind_some];by_cases h0:lQ (pX (au ps i)) (pY (au ps i))=0
  ·rw[if_pos h0,kB qo]
   obtain⟨r,hr,hok⟩:=ih (i+1) (k+2) ps qo qo qo hs;refine⟨r,hr,fun e j h1 h2=>?_⟩;rcases Nat.eq_or_lt_of_le h1 with h|h
   ·subst h
    obtain⟨ox,oy⟩:=DG.1 h0;exact⟨⟨ox,s1,s2⟩,⟨oy,s3,s4⟩⟩
   ·exact hok e j h h2
  ·rw[if_neg h0]
   exact⟨_,rfl,fun e=>absurd e h0⟩
theorem ahT {ps:PS} (hs:∀ j,j<ps.length->CT ps j=true) (hl:ps.length<=1000) (K:Nat) (hK:2*ps.length+4<=K):∃ r,l6.f K ps=some r/\(r=0->z_ ps):=by
 obtain⟨r,hr,h⟩:=ahS ps.length 0 K ps qo hK qo hs;exact⟨r,hr,fun e j hj=>h e j (Nat.zero_le _) hj⟩
def tO (f:Nat->Int):Nat->Int
 | 0=>1
 | m+1=>tO f m*f m
theorem Rv {f:Nat->Int} (h:∀ j,0<f j):∀ n,0<tO f n
 | 0=>Int.one_pos
 | n+1=>Int.mul_pos (Rv h n) (h n)
theorem SH {f:Nat->Int} {i:Nat}:∀ {n:Nat},i<n->f i∣tO f n
 | n+1,h=>by
  rcases Nat.lt_succ_iff_lt_or_eq.1 h with h|rfl
  ·exact Int.dvd_trans (SH h) (Int.dvd_mul_right _ _)
  ·exact Int.dvd_mul_left _ _
theorem Nf {f:Nat->Int} {i j:Nat} (hij:i≠j):∀ {n:Nat},i<n->j<n->f i*f j∣tO f n
 | n+1,hi,hj=>by
  rcases Nat.lt_succ_iff_lt_or_eq.1 hi with hi|rfl
  ·rcases Nat.lt_succ_iff_lt_or_eq.1 hj with hj|rfl
   ·exact Int.dvd_trans (Nf hij hi hj) (Int.dvd_mul_right _ _)
   ·exact Int.mul_dvd_mul (SH hi) (Int.dvd_refl _)
  ·rw[Int.mul_comm (f i)]
   exact Int.mul_dvd_mul (SH qo) (Int.dvd_refl _)
theorem ZY {f:Nat->Int} {i j k:Nat} (hij:i≠j) (hjk:j≠k) (hki:k≠i):∀ {n:Nat},i<n->j<n->k<n->f i*f j*f k∣tO f n
 | n+1,hi,hj,hk=>by
  rcases Nat.lt_succ_iff_lt_or_eq.1 hk with hk|rfl
  ·rcases Nat.lt_succ_iff_lt_or_eq.1 hj with hj|rfl
   ·rcases Nat.lt_succ_iff_lt_or_eq.1 hi with hi|rfl
    ·exact Int.dvd_trans (ZY hij hjk hki hi hj hk) (Int.dvd_mul_right _ _)
    ·rw[Int.mul_comm (f i),Int.mul_right_comm]
     exact Int.mul_dvd_mul (Nf hjk hj hk) (Int.dvd_refl _)
   ·rw[Int.mul_right_comm]
    exact Int.mul_dvd_mul (Nf (fun e=>hki e.symm) qo hk) (Int.dvd_refl _)
  ·exact Int.mul_dvd_mul (Nf hij qo qo) (Int.dvd_refl _)
theorem Yw {f:Nat->Int} {k:Nat} (h0:∀ j,0<f j) (h:∀ j,f j<256^k):∀ n,tO f n<=256^(k*n)
 | 0=>by simp[tO]
 | n+1=>by
  have:=Yw h0 h n
  show tO f n*f n<=_
  rw[Nat.mul_add,Nat.mul_one,Int.pow_add]
  exact Int.mul_le_mul this (Int.le_of_lt (h n)) (Int.le_of_lt (h0 n)) (Int.pow_nonneg qd)
theorem ahY {xa ya xb yb xc yc:Rat} {p q r s t u a b c d e f:Int} (h1:xa*p=a) (h2:ya*q=b) (h3:xb*r=c) (h4:yb*s=d) (h5:xc*t=e) (h6:yc*u=f) :
  ∃ z:Int,((xb-xa)*(yc-ya)-(yb-ya)*(xc-xa))*((p*q*(r*s)*(t*u):Int):Rat)=z:=by
 refine⟨(c*p-a*r)*(f*q-b*u)*(s*t)-(d*q-b*s)*(e*p-a*t)*(r*u),?_⟩;simp only[Rat.intCast_mul,Rat.intCast_sub,<- h1,<- h2,<- h3,<- h4,<- h5,<- h6];grind
theorem alJ {x:Rat} {d D:Int} (h:∃ z:Int,x*(d:Rat)=z) (hd:d∣D):∃ z:Int,x*(D:Rat)=z:=by
 obtain⟨z,hz⟩:=h;obtain⟨k,rfl⟩:=hd;exact⟨z*k,by rw[Rat.intCast_mul,Rat.intCast_mul,<- hz,Rat.mul_assoc]⟩
theorem ZZ {D:Int} (hD:0<D):(D:Rat)≠0:=by
 intro e;have:=Rat.intCast_eq_zero_iff.1 e;omega
theorem of_int {x:Rat} {D z:Int} (hD:0<D) (h:x*(D:Rat)=z):x=Rat.divInt z D:=by
 rw[Rat.divInt_eq_div,<- h,Rat.mul_div_cancel (ZZ hD)]
theorem Z0 (x:Rat):x*((x.den:Int):Rat)=x.num:=by
 have h1:=Rat.num_divInt_den x;rw[Rat.divInt_eq_div]at h1
 have h2:=Rat.div_mul_cancel (a:=(x.num:Rat)) (ZZ (D:=(x.den:Int)) (by have:=x.den_pos;omega));rw[h1]at h2
 exact h2
theorem alK {x:Rat} {D z:Int} (hD:0<D) (h:x*(D:Rat)=z):(z.natAbs:Int)<=x.num.natAbs*D:=by
 have e:=Z0 x;have h1:((z*x.den:Int):Rat)=((x.num*D:Int):Rat):=by
  rw[Rat.intCast_mul,Rat.intCast_mul,<- h,<- e];grind
 have h2:z*x.den=x.num*D:=Rat.intCast_inj.1 h1;have h3:=congrArg Int.natAbs h2;rw[Int.natAbs_mul,Int.natAbs_mul,Int.natAbs_natCast]at h3
 have h4:z.natAbs<=z.natAbs*x.den:=Nat.le_mul_of_pos_right _ x.den_pos;have h5:z.natAbs<=x.num.natAbs*D.natAbs:=by omega
 have h6:(D.natAbs:Int)=D:=Int.natAbs_of_nonneg (Int.le_of_lt hD);rw[<- h6,<- Int.natCast_mul];exact Int.ofNat_le.2 h5
def uK (a b c:PT):Rat:=(rq (pX b)-rq (pX a))*(rq (pY c)-rq (pY a))-(rq (pY b)-rq (pY a))*(rq (pX c)-rq (pX a))
theorem Gs {a:RG} (h:gZ a):rq a*((eV a:Int):Rat)=k9 a:=by
 rw[<- h.q.1,<- h.q.2];exact Z0 _
def CV (p:PT):Int:=eV (pX p)*eV (pY p)
theorem alL {a b c:PT} (ha:ko a) (hb:ko b) (hc:ko c):∃ z:Int,uK a b c*((CV a*CV b*CV c:Int):Rat)=z :=
 ahY (Gs ha.x.o) (Gs ha.y.o) (Gs hb.x.o) (Gs hb.y.o) (Gs hc.x.o) (Gs hc.y.o)
theorem RQ {a b c:PT} (ha:ko a) (hb:ko b) (hc:ko c):dS 325 (pq (uK a b c)):=by
 have xb:=lF hb.x ha.x qo;have yb:=lF hb.y ha.y qo;have xc:=lF hc.x ha.x qo;have yc:=lF hc.y ha.y qo;have m3:=xw xb yc qo;have m4:=xw yb xc qo;have s:=lF m3 m4 qo;simp only[rj]at s;exact s
def uk (ps:PS) (j:Nat):Int:=if j<ps.length then CV (au ps j) else 1
theorem SI {ps:PS} (h:z_ ps) (j:Nat):0<uk ps j:=by
 unfold uk;split
 ·rename_i hj
  exact Int.mul_pos (h j hj).x.o.dp (h j hj).y.o.dp
 ·decide
theorem amB {ps:PS} (h:z_ ps) (j:Nat):uk ps j<256^80:=by
 unfold uk;split
 ·rename_i hj
  have h1:=fM (n:=false) (h j hj).x.s2;have h2:=fM (n:=false) (h j hj).y.s2;have p1:=(h j hj).x.o.dp;have p2:=(h j hj).y.o.dp;have e1:ival false (pX (au ps j)).2.2=eV (pX (au ps j)):=rfl;have e2:ival false (pY (au ps j)).2.2=eV (pY (au ps j)):=rfl;have h3:=uB (k:=40) (l:=40) (m:=80) h1 h2 qd;have p3:=Int.mul_pos p1 p2;rw[e1,e2]at h3
  unfold CV;omega
 ·decide +kernel
def Cl (ps:PS) (zs:List Int):Nat->Rat
 | 0=>0
 | t+1=>Cl ps zs t+uK (au ps (zs.getD (3*t) 0).toNat) (au ps (zs.getD (3*t+1) 0).toNat) (au ps (zs.getD (3*t+2) 0).toNat)
theorem Tn {ps:PS} {zs:List Int} {n1:Nat} {ss:SS} (hM:n9 ps.length zs n1 ss (mE ps)) {t:Nat} (ht:t<n1) :
  ((zs.getD (3*t) 0).toNat<ps.length/\(zs.getD (3*t+1) 0).toNat<ps.length/\(zs.getD (3*t+2) 0).toNat<ps.length) /\
  (zs.getD (3*t) 0).toNat≠(zs.getD (3*t+1) 0).toNat/\(zs.getD (3*t+1) 0).toNat≠(zs.getD (3*t+2) 0).toNat/\(zs.getD (3*t+2) 0).toNat≠(zs.getD (3*t) 0).toNat:=by
 have hc:=hM.c t ht;have h0:=hM.inr (j:=3*t) qo;have h1:=hM.inr (j:=3*t+1) qo;have h2:=hM.inr (j:=3*t+2) qo;unfold uF at hc;rw[Bool.and_eq_true]at hc
 exact⟨by omega,NM ps _ _ _ (of_decide_eq_true hc.2)⟩
theorem Z1 {ps:PS} {zs:List Int} {n1:Nat} {ss:SS} (h:z_ ps) (hM:n9 ps.length zs n1 ss (mE ps)) {E:Nat} (hE:325<=E):∀ m,m<=n1->∃ z:Int,Cl ps zs m*((tO (uk ps) ps.length:Int):Rat)=z/\(z.natAbs:Int)<=m*(256^E*tO (uk ps) ps.length)
 | 0,_=>⟨0,by unfold Cl;rw[Rat.zero_mul];rfl,by simp⟩
 | m+1,hm=>by
  obtain⟨z1,e1,b1⟩:=Z1 h hM hE m qo
  obtain⟨⟨i0,i1,i2⟩,d0,d1,d2⟩:=Tn hM (t:=m) qo
  have hd:∃ z:Int,_:=alL (h _ i0) (h _ i1) (h _ i2)
  have hp:=ZY (f:=uk ps) d0 d1 d2 i0 i1 i2
  have f0:uk ps (zs.getD (3*m) 0).toNat=CV (au ps (zs.getD (3*m) 0).toNat):=if_pos i0
  have f1:uk ps (zs.getD (3*m+1) 0).toNat=CV (au ps (zs.getD (3*m+1) 0).toNat):=if_pos i1
  have f2:uk ps (zs.getD (3*m+2) 0).toNat=CV (au ps (zs.getD (3*m+2) 0).toNat):=if_pos i2
  rw[f0,f1,f2]at hp
  obtain⟨z2,e2⟩:=alJ hd hp
  have hD:=Rv (SI h) ps.length
  have b2:=alK hD e2
  have b3:=fM (n:=(pq (uK (au ps (zs.getD (3*m) 0).toNat) (au ps (zs.getD (3*m+1) 0).toNat) (au ps (zs.getD (3*m+2) 0).toNat))).1) (Nat.le_trans (RQ (h _ i0) (h _ i1) (h _ i2)).s1 hE)
  have b4:=R9 (uK (au ps (zs.getD (3*m) 0).toNat) (au ps (zs.getD (3*m+1) 0).toNat) (au ps (zs.getD (3*m+2) 0).toNat))
  unfold k9 at b4
  rw[b4]at b3
  refine⟨z1+z2,by unfold Cl;rw[Rat.add_mul,e1,e2,Rat.intCast_add],?_⟩
  generalize uK (au ps (zs.getD (3*m) 0).toNat) (au ps (zs.getD (3*m+1) 0).toNat) (au ps (zs.getD (3*m+2) 0).toNat)=A at b2 b3
  generalize tO (uk ps) ps.length=D at hD b1 b2 ⊢
  have b5:(A.num.natAbs:Int)*D<=256^E*D:=Int.mul_le_mul_of_nonneg_right (Int.le_of_lt b3) (Int.le_of_lt hD)
  obtain⟨X,hX⟩:∃ X:Int,256^E*D=X:=⟨_,rfl⟩
  obtain⟨Y,hY⟩:∃ Y:Int,(A.num.natAbs:Int)*D=Y:=⟨_,rfl⟩
  rw[hX]at b1 b5 ⊢
  rw[hY]at b2 b5
  obtain⟨U,hU⟩:∃ U:Int,(m:Int)*X=U:=⟨_,rfl⟩
  have e9:((m+1:Nat):Int)*X=U+X:=by rw[<- hU,Int.natCast_add,Int.add_mul];simp
  rw[hU]at b1
  rw[e9]
  clear hX hY hU e9 b3 hp hd e1 e2
  omega
theorem Ylt {k m:Nat} (h:k<m):(256:Int)^k<256^m:=by
 have h1:=qz (show k+1<=m from h);rw[Ys]at h1
 have h2:(0:Int)<256^k:=Int.pow_pos qd;omega
theorem ahZ {ps:PS} {zs:List Int} {n1:Nat} {ss:SS} (h:z_ ps) (hM:n9 ps.length zs n1 ss (mE ps)) (h0:ps.length<=30) (h1:n1<=45) (m:Nat) (hm:m<=n1):dS 2800 (pq (Cl ps zs m)):=by
 obtain⟨E,hE⟩:∃ E:Nat,E=325:=⟨_,rfl⟩
 obtain⟨F,hF⟩:∃ F:Nat,F=2400:=⟨_,rfl⟩
 obtain⟨G,hG⟩:∃ G:Nat,G=2800:=⟨_,rfl⟩
 obtain⟨H,hH⟩:∃ H:Nat,H=80:=⟨_,rfl⟩
 obtain⟨z,e,b⟩:=Z1 h hM (E:=E) qo m hm;have hD:=Rv (SI h) ps.length;have hl:tO (uk ps) ps.length<=256^F:=Int.le_trans (Yw (k:=H) (SI h) (fun j=>by rw[hH];exact amB h j) ps.length) (qz (by have:=Nat.mul_le_mul_left H h0;omega));rw[of_int hD e];generalize tO (uk ps) ps.length=D at hD hl b e ⊢;have hb:(m:Int)*(256^E*D)<=256^1*(256^E*256^F):=Int.mul_le_mul (by rw[Int.pow_one];omega) (Int.mul_le_mul_of_nonneg_left hl (Int.pow_nonneg qd)) (Int.mul_nonneg (Int.pow_nonneg qd) (Int.le_of_lt hD)) qd;rw[<- Int.pow_add,<- Int.pow_add]at hb
 have hp:(256:Int)^(1+(E+F))<256^G:=Ylt qo;have hq:(256:Int)^F<256^G:=Ylt qo;have:=RD (n:=z) (d:=D) (k:=G) (m:=G) hD (Int.lt_of_le_of_lt (Int.le_trans b hb) hp) (Int.lt_of_le_of_lt hl hq);clear hp hq hb hl b;exact⟨SY qo qo,by omega,by omega⟩
theorem ah0:∀ (n i K:Nat) (l:List PT),l.length=i+n->n+27<=K->i+n<=1000->(∀ j,j<l.length->ko (aB l (j:Int)))->pJ.l0 K l (l.length:Int) (i:Int)=some 0:=by
 intro n;induction n with
 | zero =>
  intro i K l hl hK hb ho;obtain⟨k,rfl⟩:∃ k,K=k+1:=⟨K-1,by omega⟩
  rw[pJ.l0,if_neg qo]
 | succ n ih =>
  intro i K l hl hK hb ho;obtain⟨k,rfl⟩:∃ k,K=k+26+1:=⟨K-27,by omega⟩
  have h:=ho i qo;rw[pJ.l0,if_pos qo,if_pos qo,if_pos qo,SF k h h h,Option.bind_some,if_pos rfl,kB qo];exact ih (i+1) (k+26) l qo qo qo ho
theorem alM:xg.f=sB.f:=rfl
theorem amC:C7.f=AX.f:=rfl
theorem ap2 (k:Nat) {a b c:PT} (ha:ko a) (hb:ko b) (hc:ko c) :
  p_.f (k+30) a.f0.f0.f0 a.f0.f0.f1 a.f0.f1 a.f1.f0.f0 a.f1.f0.f1 a.f1.f1 b.f0.f0.f0 b.f0.f0.f1 b.f0.f1 b.f1.f0.f0 b.f1.f0.f1 b.f1.f1 c.f0.f0.f0 c.f0.f0.f1 c.f0.f1 c.f1.f0.f0 c.f1.f0.f1 c.f1.f1=some ((pq (uK a b c)).1,(pq (uK a b c)).2.1,(pq (uK a b c)).2.2,0):=by
 have h:pJ.f (k+30) [a,b,c]=some 0:=ah0 3 0 (k+30) _ rfl qo qo (fun j hj=>by
  have:j=0\/j=1\/j=2:=by simp at hj;omega
  rcases this with rfl|rfl|rfl
  ·exact ha
  ·exact hb
  ·exact hc)
 have xb:=lF hb.x ha.x qo;have yb:=lF hb.y ha.y qo;have xc:=lF hc.x ha.x qo;have yc:=lF hc.y ha.y qo;have m1:=NL (k+22) (hb.x.mono (m:=400) qo) (hb.y.mono qo) (ha.x.mono qo) (ha.y.mono qo);have m2:=NL (k+22) (hc.x.mono (m:=400) qo) (hc.y.mono qo) (ha.x.mono qo) (ha.y.mono qo);have cr:=aar (k+22) (xb.mono (m:=200) qo) (yb.mono qo) (xc.mono qo) (yc.mono qo);simp only[rj]at cr;unfold p_.f;rw[alM,amC]
 rw[show([⟨⟨⟨a.f0.f0.f0,a.f0.f0.f1⟩,a.f0.f1⟩,⟨⟨a.f1.f0.f0,a.f1.f0.f1⟩,a.f1.f1⟩⟩,⟨⟨⟨b.f0.f0.f0,b.f0.f0.f1⟩,b.f0.f1⟩,⟨⟨b.f1.f0.f0,b.f1.f0.f1⟩,b.f1.f1⟩⟩,⟨⟨⟨c.f0.f0.f0,c.f0.f0.f1⟩,c.f0.f1⟩,⟨⟨c.f1.f0.f0,c.f1.f0.f1⟩,c.f1.f1⟩⟩]:List PT)=[a,b,c] from rfl,h,Option.bind_some,if_pos rfl,
  show sB.f (k+30) b.f0.f0.f0 b.f0.f0.f1 b.f0.f1 b.f1.f0.f0 b.f1.f0.f1 b.f1.f1 a.f0.f0.f0 a.f0.f0.f1 a.f0.f1 a.f1.f0.f0 a.f1.f0.f1 a.f1.f1=_ from m1,Option.bind_some,
  show sB.f (k+30) c.f0.f0.f0 c.f0.f0.f1 c.f0.f1 c.f1.f0.f0 c.f1.f0.f1 c.f1.f1 a.f0.f0.f0 a.f0.f0.f1 a.f0.f1 a.f1.f0.f0 a.f1.f0.f1 a.f1.f1=_ from m2,Option.bind_some]
 dsimp only;rw[show k+30=k+22+8 by omega,cr,Option.bind_some];rfl
theorem ap3 (k:Nat) {a b c:PT} (ha:ko a) (hb:ko b) (hc:ko c) :
  pW.f (k+1) a.f0.f0.f0 a.f0.f0.f1 a.f0.f1 a.f1.f0.f0 a.f1.f0.f1 a.f1.f1 b.f0.f0.f0 b.f0.f0.f1 b.f0.f1 b.f1.f0.f0 b.f1.f0.f1 b.f1.f1 c.f0.f0.f0 c.f0.f0.f1 c.f0.f1 c.f1.f0.f0 c.f1.f0.f1 c.f1.f1=some (pq (uK a b c)):=by
 have xb:=lF hb.x ha.x qo;have yb:=lF hb.y ha.y qo;have xc:=lF hc.x ha.x qo;have yc:=lF hc.y ha.y qo;have m1:=NK k (hb.x.mono (m:=400) qo) (hb.y.mono qo) (ha.x.mono qo) (ha.y.mono qo);have m2:=NK k (hc.x.mono (m:=400) qo) (hc.y.mono qo) (ha.x.mono qo) (ha.y.mono qo);have cr:=aap k (xb.mono (m:=200) qo) (yb.mono qo) (xc.mono qo) (yc.mono qo);simp only[rj]at cr;unfold pW.f
 rw[show kr.f (k+1) b.f0.f0.f0 b.f0.f0.f1 b.f0.f1 b.f1.f0.f0 b.f1.f0.f1 b.f1.f1 a.f0.f0.f0 a.f0.f0.f1 a.f0.f1 a.f1.f0.f0 a.f1.f0.f1 a.f1.f1=_ from m1,Option.bind_some,
  show kr.f (k+1) c.f0.f0.f0 c.f0.f0.f1 c.f0.f1 c.f1.f0.f0 c.f1.f0.f1 c.f1.f1 a.f0.f0.f0 a.f0.f0.f1 a.f0.f1 a.f1.f0.f0 a.f1.f0.f1 a.f1.f1=_ from m2,Option.bind_some]
 dsimp only;rw[cr,Option.bind_some];rfl
theorem ar9 (k:Nat) {s a:Rat} (hs:dS 2800 (pq s)) (ha:dS 325 (pq a)) :
  BC.f (k+2) (pq s).1 (pq s).2.1 (pq s).2.2 (pq a).1 (pq a).2.1 (pq a).2.2=some ((pq (s+a)).1,(pq (s+a)).2.1,(pq (s+a)).2.2,0):=by
 obtain⟨r,hr,h1,-⟩:=als k (pq s) (pq a) (by have:=hs.s1;omega) (by have:=hs.s2;omega) (by have:=ha.s1;omega) (by have:=ha.s2;omega);have h0:lQ (pq s) (pq a)=0:=DG.2 ⟨hs.o,ha.o⟩;rw[hr,h0,h1 h0,rj,rj]
theorem ap4 (k:Nat) {s a:Rat} (hs:dS 2800 (pq s)) (ha:dS 325 (pq a)) :
  gG.f (k+1) (pq s).1 (pq s).2.1 (pq s).2.2 (pq a).1 (pq a).2.1 (pq a).2.2=some (pq (s+a)):=by
 rw[Yv k 2800 325 qd (pq s) (pq a) hs.o ha.o hs.s1 hs.s2 ha.s1 ha.s2,rj,rj]
theorem ae':pq 0=(false,⟨#[]⟩,⟨#[1]⟩):=by decide +kernel
end Go.Proofs.YtcmepkhjggpmeaaGreat
