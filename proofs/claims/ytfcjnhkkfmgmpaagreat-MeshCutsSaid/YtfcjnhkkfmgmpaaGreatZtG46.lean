import Derived.Test.YtfcjnhkkfmgmpaaGreatZtG44
import Derived.Test.YtfcjnhkkfmgmpaaGreatZtG45
set_option linter.all false
set_option maxRecDepth 100000
set_option maxHeartbeats 8000000
namespace Go.Proofs.YtfcjnhkkfmgmpaaGreat
open Go.RowKit aS Go.Proofs.aA.R Go.Proofs.aB.aZ
abbrev PT:=bg
abbrev RT:=aF
def pX (p:PT):RG:=(p.f0.f0.f0,p.f0.f0.f1,p.f0.f1)
def pY (p:PT):RG:=(p.f1.f0.f0,p.f1.f0.f1,p.f1.f1)
structure dJ (n:Nat) (a:RG):Prop where
 o:i_ a
 s1:a.2.1.size<=n
 s2:a.2.2.size<=n
structure kK (p:PT):Prop where
 x:dJ 40 (pX p)
 y:dJ 40 (pY p)
theorem dJ.mono {n m:Nat} {a:RG} (h:dJ n a) (hm:n<=m):dJ m a:=⟨h.o,Nat.le_trans h.s1 hm,Nat.le_trans h.s2 hm⟩
theorem pT {n:Nat} {a b:RG} (ha:dJ n a) (hb:dJ n b) (hn:n<=400):dJ (n+n+1) (pq (rq a-rq b)):=by
 have h:=asD ha.o hb.o ha.s1 ha.s2 hb.s1 hb.s2;exact⟨V5 qo qo,h.1,by omega⟩
theorem qV {n:Nat} {a b:RG} (ha:dJ n a) (hb:dJ n b) (hn:n<=400):dJ (n+n) (pq (rq a*rq b)):=by
 have h:=asE ha.o hb.o ha.s1 ha.s2 hb.s1 hb.s2;exact⟨V5 qo qo,h.1,h.2⟩
def uA (a b c:PT):Int:=De ((rq (pX b)-rq (pX a))*(rq (pY c)-rq (pY a))-(rq (pY b)-rq (pY a))*(rq (pX c)-rq (pX a))) 0
theorem Qq (k:Nat) {a b c d:RG} (ha:dJ 400 a) (hb:dJ 400 b) (hc:dJ 400 c) (hd:dJ 400 d) :
  lC.f (k+1) a.1 a.2.1 a.2.2 b.1 b.2.1 b.2.2 c.1 c.2.1 c.2.2 d.1 d.2.1 d.2.2=some ((pq (rq a-rq c)).1,(pq (rq a-rq c)).2.1,(pq (rq a-rq c)).2.2,(pq (rq b-rq d)).1,(pq (rq b-rq d)).2.1,(pq (rq b-rq d)).2.2):=by
 unfold lC.f;rw[VV k a c ha.o hc.o ha.s1 ha.s2 hc.s1 hc.s2,Option.bind_some,VV k b d hb.o hd.o hb.s1 hb.s2 hd.s1 hd.s2,Option.bind_some]
theorem apI (k:Nat) {a b c d:RG} (ha:dJ 200 a) (hb:dJ 200 b) (hc:dJ 200 c) (hd:dJ 200 d) :
  qO.f (k+1) a.1 a.2.1 a.2.2 b.1 b.2.1 b.2.2 c.1 c.2.1 c.2.2 d.1 d.2.1 d.2.2=some (pq (rq a*rq d-rq b*rq c)):=by
 unfold qO.f;have m1:=qV ha hd qo;have m2:=qV hb hc qo
 rw[OH k a d ha.o hd.o (by have:=ha.s1;omega) (by have:=ha.s2;omega) (by have:=hd.s1;omega) (by have:=hd.s2;omega),Option.bind_some,OH k b c hb.o hc.o (by have:=hb.s1;omega) (by have:=hb.s2;omega) (by have:=hc.s1;omega) (by have:=hc.s2;omega),Option.bind_some,
  VV k _ _ m1.o m2.o m1.s1 m1.s2 m2.s1 m2.s2,Option.bind_some,qX,qX]
theorem ac6 (k:Nat) {a b c:PT} (ha:kK a) (hb:kK b) (hc:kK c) :
  mE.f (k+1) a.f0.f0.f0 a.f0.f0.f1 a.f0.f1 a.f1.f0.f0 a.f1.f0.f1 a.f1.f1 b.f0.f0.f0 b.f0.f0.f1 b.f0.f1 b.f1.f0.f0 b.f1.f0.f1 b.f1.f1 c.f0.f0.f0 c.f0.f0.f1 c.f0.f1 c.f1.f0.f0 c.f1.f0.f1 c.f1.f1=some (uA a b c):=by
 have xb:=pT hb.x ha.x qo;have yb:=pT hb.y ha.y qo;have xc:=pT hc.x ha.x qo;have yc:=pT hc.y ha.y qo;have m1:=Qq k (hb.x.mono (m:=400) qo) (hb.y.mono qo) (ha.x.mono qo) (ha.y.mono qo);have m2:=Qq k (hc.x.mono (m:=400) qo) (hc.y.mono qo) (ha.x.mono qo) (ha.y.mono qo);have cr:=apI k (xb.mono (m:=200) qo) (yb.mono qo) (xc.mono qo) (yc.mono qo);have m3:=qV xb yc qo;have m4:=qV yb xc qo;have s:=pT (m3.mono (m:=200) qo) (m4.mono qo) qo;simp only[qX]at cr s;unfold mE.f
 rw[show lC.f (k+1) b.f0.f0.f0 b.f0.f0.f1 b.f0.f1 b.f1.f0.f0 b.f1.f0.f1 b.f1.f1 a.f0.f0.f0 a.f0.f0.f1 a.f0.f1 a.f1.f0.f0 a.f1.f0.f1 a.f1.f1=_ from m1,Option.bind_some,
  show lC.f (k+1) c.f0.f0.f0 c.f0.f0.f1 c.f0.f1 c.f1.f0.f0 c.f1.f0.f1 c.f1.f1 a.f0.f0.f0 a.f0.f0.f1 a.f0.f1 a.f1.f0.f0 a.f1.f0.f1 a.f1.f1=_ from m2,Option.bind_some]
 dsimp only;rw[cr,Option.bind_some,ac4 s.o,Option.bind_some,qX];rfl
theorem aaP:∀ (n i K:Nat) (l:List RT),l.length=i+n->n+3<=K->i+n<=1000->(∀ j,j<l.length->dJ 400 ((fE l (j:Int)).f0.f0,(fE l (j:Int)).f0.f1,(fE l (j:Int)).f1))->j_.l0 K l (l.length:Int) (i:Int)=some 0:=by
 intro n;induction n with
 | zero =>
  intro i K l hl hK hb ho;obtain⟨k,rfl⟩:∃ k,K=k+1:=⟨K-1,by omega⟩
  rw[j_.l0,if_neg qo]
 | succ n ih =>
  intro i K l hl hK hb ho;obtain⟨k,rfl⟩:∃ k,K=k+2+1:=⟨K-3,by omega⟩
  have h:=ho i qo;have hc:=IY k _ (show((fE l (i:Int)).f0.f0,(fE l (i:Int)).f0.f1,(fE l (i:Int)).f1).2.1.size<=15000 by have:=h.s1;omega) (by have:=h.s2;omega);rw[j_.l0,if_pos qo,if_pos qo,if_pos qo];dsimp only at hc;rw[hc,Cs.2 h.o,Option.bind_some,if_pos rfl,mK qo];exact ih (i+1) (k+2) l qo qo qo ho
theorem auY (k:Nat) {a b:RG} (ha:dJ 400 a) (hb:dJ 400 b):j_.f (k+5) [⟨⟨a.1,a.2.1⟩,a.2.2⟩,⟨⟨b.1,b.2.1⟩,b.2.2⟩]=some 0 :=
 aaP 2 0 (k+5) _ rfl qo qo (fun j hj=>by
  have:j=0\/j=1:=by simp at hj;omega
  rcases this with rfl|rfl
  ·exact ha
  ·exact hb)
theorem ah2 (k:Nat) {a b c d:RG} (ha:dJ 400 a) (hb:dJ 400 b) (hc:dJ 400 c) (hd:dJ 400 d):j_.f (k+7) [⟨⟨a.1,a.2.1⟩,a.2.2⟩,⟨⟨b.1,b.2.1⟩,b.2.2⟩,⟨⟨c.1,c.2.1⟩,c.2.2⟩,⟨⟨d.1,d.2.1⟩,d.2.2⟩]=some 0 :=
 aaP 4 0 (k+7) _ rfl qo qo (fun j hj=>by
  have:j=0\/j=1\/j=2\/j=3:=by simp at hj;omega
  rcases this with rfl|rfl|rfl|rfl
  ·exact ha
  ·exact hb
  ·exact hc
  ·exact hd)
theorem adN (k:Nat) {a b:RG} (ha:dJ 400 a) (hb:dJ 400 b):uJ.f (k+5) a.1 a.2.1 a.2.2 b.1 b.2.1 b.2.2=some 0:=by
 unfold uJ.f;rw[auY k ha hb];rfl
theorem ak':∀ (n i K:Nat) (l:List PT),l.length=i+n->n+6<=K->i+n<=1000->(∀ j,j<l.length->dJ 400 (pX (aC l (j:Int)))/\dJ 400 (pY (aC l (j:Int))))->nO.l0 K l (l.length:Int) (i:Int)=some 0:=by
 intro n;induction n with
 | zero =>
  intro i K l hl hK hb ho;obtain⟨k,rfl⟩:∃ k,K=k+1:=⟨K-1,by omega⟩
  rw[nO.l0,if_neg qo]
 | succ n ih =>
  intro i K l hl hK hb ho;obtain⟨k,rfl⟩:∃ k,K=k+5+1:=⟨K-6,by omega⟩
  have h:=ho i qo;have hc:=adN k h.1 h.2;unfold pX pY at hc;rw[nO.l0,if_pos qo,if_pos qo,if_pos qo];dsimp only at hc;rw[hc,Option.bind_some,if_pos rfl,mK qo];exact ih (i+1) (k+5) l qo qo qo ho
theorem ah3 (k:Nat) {a b c d:RG} (ha:dJ 400 a) (hb:dJ 400 b) (hc:dJ 400 c) (hd:dJ 400 d):nO.f (k+8) [⟨⟨⟨a.1,a.2.1⟩,a.2.2⟩,⟨⟨b.1,b.2.1⟩,b.2.2⟩⟩,⟨⟨⟨c.1,c.2.1⟩,c.2.2⟩,⟨⟨d.1,d.2.1⟩,d.2.2⟩⟩]=some 0 :=
 ak' 2 0 (k+8) _ rfl qo qo (fun j hj=>by
  have:j=0\/j=1:=by simp at hj;omega
  rcases this with rfl|rfl
  ·exact⟨ha,hb⟩
  ·exact⟨hc,hd⟩)
theorem Xn (k:Nat) {a b:RG} (ha:dJ 400 a) (hb:dJ 400 b):tO.f (k+2) a.1 a.2.1 a.2.2 b.1 b.2.1 b.2.2=some (pq (rq a-rq b)):=by
 obtain⟨r,hr,h1,-⟩:=aoJ k a b (by have:=ha.s1;omega) (by have:=ha.s2;omega) (by have:=hb.s1;omega) (by have:=hb.s2;omega);unfold tO.f;rw[hr,<- h1 (yQ.2 ⟨ha.o,hb.o⟩)];rfl
theorem Rk (k:Nat) {a b:RG} (ha:dJ 400 a) (hb:dJ 400 b):qu.f (k+2) a.1 a.2.1 a.2.2 b.1 b.2.1 b.2.2=some (pq (rq a*rq b)):=by
 obtain⟨r,hr,h1,-⟩:=aoK k a b (by have:=ha.s1;omega) (by have:=ha.s2;omega) (by have:=hb.s1;omega) (by have:=hb.s2;omega);unfold qu.f;rw[hr,<- h1 (yQ.2 ⟨ha.o,hb.o⟩)];rfl
theorem Qr (k:Nat) {a b c d:RG} (ha:dJ 400 a) (hb:dJ 400 b) (hc:dJ 400 c) (hd:dJ 400 d) :
  oo.f (k+8) a.1 a.2.1 a.2.2 b.1 b.2.1 b.2.2 c.1 c.2.1 c.2.2 d.1 d.2.1 d.2.2=some ((pq (rq a-rq c)).1,(pq (rq a-rq c)).2.1,(pq (rq a-rq c)).2.2,(pq (rq b-rq d)).1,(pq (rq b-rq d)).2.1,(pq (rq b-rq d)).2.2):=by
 unfold oo.f Io.f rM.f;rw[ah3 k ha hb hc hd,Option.bind_some,if_pos rfl,Xn (k+6) ha hc,Option.bind_some,Xn (k+6) hb hd,Option.bind_some];rfl
theorem apJ (k:Nat) {a b c d:RG} (ha:dJ 200 a) (hb:dJ 200 b) (hc:dJ 200 c) (hd:dJ 200 d) :
  Eu.f (k+8) a.1 a.2.1 a.2.2 b.1 b.2.1 b.2.2 c.1 c.2.1 c.2.2 d.1 d.2.1 d.2.2=some (pq (rq a*rq d-rq b*rq c)):=by
 have a4:=ha.mono (m:=400) qo;have b4:=hb.mono (m:=400) qo;have c4:=hc.mono (m:=400) qo;have d4:=hd.mono (m:=400) qo;have m1:=qV ha hd qo;have m2:=qV hb hc qo;unfold Eu.f Im.f qN.f;rw[ah3 k a4 b4 c4 d4,Option.bind_some,if_pos rfl,ah2 (k+1) a4 b4 d4 c4,Option.bind_some,if_pos rfl,Rk (k+6) a4 d4,Option.bind_some,Rk (k+6) b4 c4,Option.bind_some,Xn (k+6) m1 m2,Option.bind_some,qX,qX];rfl
theorem afQ (k:Nat) {a:RG} (ha:dJ 1000 a):Ap.f (k+2) a.1 a.2.1 a.2.2=some (De (rq a) 0):=by
 obtain⟨s,hs,he⟩:=ak_ k a (by have:=ha.s1;omega) (by have:=ha.s2;omega);unfold Ap.f;rw[hs,<- he (Cs.2 ha.o)];rfl
theorem afR (k:Nat) {a b c:PT} (ha:kK a) (hb:kK b) (hc:kK c) :
  l_.f (k+8) a.f0.f0.f0 a.f0.f0.f1 a.f0.f1 a.f1.f0.f0 a.f1.f0.f1 a.f1.f1 b.f0.f0.f0 b.f0.f0.f1 b.f0.f1 b.f1.f0.f0 b.f1.f0.f1 b.f1.f1 c.f0.f0.f0 c.f0.f0.f1 c.f0.f1 c.f1.f0.f0 c.f1.f0.f1 c.f1.f1=some (uA a b c):=by
 have xb:=pT hb.x ha.x qo;have yb:=pT hb.y ha.y qo;have xc:=pT hc.x ha.x qo;have yc:=pT hc.y ha.y qo;have m1:=Qr k (hb.x.mono (m:=400) qo) (hb.y.mono qo) (ha.x.mono qo) (ha.y.mono qo);have m2:=Qr k (hc.x.mono (m:=400) qo) (hc.y.mono qo) (ha.x.mono qo) (ha.y.mono qo);have cr:=apJ k (xb.mono (m:=200) qo) (yb.mono qo) (xc.mono qo) (yc.mono qo);have m3:=qV xb yc qo;have m4:=qV yb xc qo;have s:=pT (m3.mono (m:=200) qo) (m4.mono qo) qo;simp only[qX]at cr s;unfold l_.f
 rw[show oo.f (k+8) b.f0.f0.f0 b.f0.f0.f1 b.f0.f1 b.f1.f0.f0 b.f1.f0.f1 b.f1.f1 a.f0.f0.f0 a.f0.f0.f1 a.f0.f1 a.f1.f0.f0 a.f1.f0.f1 a.f1.f1=_ from m1,Option.bind_some,
  show oo.f (k+8) c.f0.f0.f0 c.f0.f0.f1 c.f0.f1 c.f1.f0.f0 c.f1.f0.f1 c.f1.f1 a.f0.f0.f0 a.f0.f0.f1 a.f0.f1 a.f1.f0.f0 a.f1.f0.f1 a.f1.f1=_ from m2,Option.bind_some]
 dsimp only;rw[cr,Option.bind_some,afQ (k+6) (s.mono qo),Option.bind_some,qX];rfl
theorem aoM:∀ (n i K:Nat) (l:List PT),l.length=i+n->6*n+8<=K->i+n<=1000->(∀ j,j<l.length->kK (aC l (j:Int)))->ez.l0 K l (l.length:Int) (i:Int)=some 0:=by
 intro n;induction n with
 | zero =>
  intro i K l hl hK hb ho;obtain⟨k,rfl⟩:∃ k,K=k+1:=⟨K-1,by omega⟩
  rw[ez.l0,if_neg qo]
 | succ n ih =>
  intro i K l hl hK hb ho;obtain⟨k,rfl⟩:∃ k,K=k+5+1+1+1+1+1+1:=⟨K-11,by omega⟩
  have h:=ho i qo;have hc:=adN k (h.x.mono (m:=400) qo) (h.y.mono qo);have x1:=h.x.s1;have x2:=h.x.s2;have y1:=h.y.s1;have y2:=h.y.s2;unfold pX at x1 x2 hc;unfold pY at y1 y2 hc;dsimp only at x1 x2 y1 y2 hc;have Z4:¬ (((aC l (i:Int)).f0.f0.f1.size:Int) > 100):=by omega
  have Z5:¬ (((aC l (i:Int)).f0.f1.size:Int) > 100):=by omega
  have Z6:¬ (((aC l (i:Int)).f1.f0.f1.size:Int) > 100):=by omega
  have Z7:¬ (((aC l (i:Int)).f1.f1.size:Int) > 100):=by omega
  generalize hp:aC l (i:Int)=p at *;rw[ez.l0,if_pos qo,if_pos qo,if_pos qo,Option.bind_some];rw[hp];obtain⟨Y,hY⟩:∃ Y:List RT,[⟨⟨p.f0.f0.f0,p.f0.f0.f1⟩,p.f0.f1⟩,⟨⟨p.f1.f0.f0,p.f1.f0.f1⟩,p.f1.f1⟩]=Y:=⟨_,rfl⟩
  have hlen:(Y.length:Int)=2:=by rw[<- hY];rfl
  have h0:fE Y 0=⟨⟨p.f0.f0.f0,p.f0.f0.f1⟩,p.f0.f1⟩:=by rw[<- hY];rfl
  have h1:fE Y 1=⟨⟨p.f1.f0.f0,p.f1.f0.f1⟩,p.f1.f1⟩:=by rw[<- hY];rfl
  rw[hY,hlen];rw[ez.l1,hlen,if_pos qd,if_pos qd,if_pos qd,h0,if_neg Z4,decide_eq_false Z5,ez.j2,if_neg qd,RR];rw[ez.l1,hlen,if_pos qd,if_pos qd,if_pos qd,h1,if_neg Z6,decide_eq_false Z7,ez.j2,if_neg qd,YJ];rw[ez.l1,if_neg qd,hc,Option.bind_some,if_pos rfl,mK qo];exact ih (i+1) (k+5) l qo qo qo ho
theorem ac7 (k:Nat) {a b c:PT} (ha:kK a) (hb:kK b) (hc:kK c) :
  yG.f (k+26) a.f0.f0.f0 a.f0.f0.f1 a.f0.f1 a.f1.f0.f0 a.f1.f0.f1 a.f1.f1 b.f0.f0.f0 b.f0.f0.f1 b.f0.f1 b.f1.f0.f0 b.f1.f0.f1 b.f1.f1 c.f0.f0.f0 c.f0.f0.f1 c.f0.f1 c.f1.f0.f0 c.f1.f0.f1 c.f1.f1=some (uA a b c,0):=by
 have h:ez.f (k+26) [a,b,c]=some 0:=aoM 3 0 (k+26) _ rfl qo qo (fun j hj=>by
  have:j=0\/j=1\/j=2:=by simp at hj;omega
  rcases this with rfl|rfl|rfl
  ·exact ha
  ·exact hb
  ·exact hc)
 unfold yG.f;rw[show([⟨⟨⟨a.f0.f0.f0,a.f0.f0.f1⟩,a.f0.f1⟩,⟨⟨a.f1.f0.f0,a.f1.f0.f1⟩,a.f1.f1⟩⟩,⟨⟨⟨b.f0.f0.f0,b.f0.f0.f1⟩,b.f0.f1⟩,⟨⟨b.f1.f0.f0,b.f1.f0.f1⟩,b.f1.f1⟩⟩,⟨⟨⟨c.f0.f0.f0,c.f0.f0.f1⟩,c.f0.f1⟩,⟨⟨c.f1.f0.f0,c.f1.f0.f1⟩,c.f1.f1⟩⟩]:List PT)=[a,b,c] from rfl,h,Option.bind_some,if_pos rfl,afR (k+18) ha hb hc,Option.bind_some]
theorem ala:∀ (n i K:Nat) (l:List PT),l.length=i+n->n+27<=K->i+n<=1000->(∀ j,j<l.length->kK (aC l (j:Int)))->pQ.l0 K l (l.length:Int) (i:Int)=some 0:=by
 intro n;induction n with
 | zero =>
  intro i K l hl hK hb ho;obtain⟨k,rfl⟩:∃ k,K=k+1:=⟨K-1,by omega⟩
  rw[pQ.l0,if_neg qo]
 | succ n ih =>
  intro i K l hl hK hb ho;obtain⟨k,rfl⟩:∃ k,K=k+26+1:=⟨K-27,by omega⟩
  have h:=ho i qo;rw[pQ.l0,if_pos qo,if_pos qo,if_pos qo,ac7 k h h h,Option.bind_some,if_pos rfl,mK qo];exact ih (i+1) (k+26) l qo qo qo ho
def qD (ps:PS) (i j k:Nat):Int:=uA (ay ps i) (ay ps j) (ay ps k)
def Gu (ps:PS):Prop:=∀ j,j<ps.length->kK (ay ps j)
theorem OJ {ps:PS} (h:Gu ps) (hl:ps.length<=1000) (K:Nat) (hK:ps.length+27<=K):pQ.f K ps=some 0:=ala ps.length 0 K ps qo hK qo h
theorem SR {ps:PS} (h:Gu ps) (K:Nat) (hK:26<=K):Kn K ps (qD ps):=by
 obtain⟨k,rfl⟩:∃ k,K=k+26:=⟨K-26,by omega⟩
 exact fun i j l hi hj hl=>ac7 k (h i hi) (h j hj) (h l hl)
theorem orO {ps:PS} (h:Gu ps) (K:Nat) (hK:1<=K):Zv K ps (qD ps):=by
 obtain⟨k,rfl⟩:∃ k,K=k+1:=⟨K-1,by omega⟩
 exact fun i j l hi hj hl=>ac6 k (h i hi) (h j hj) (h l hl)
theorem adO (ps:PS) (i j k:Nat) (h:0<qD ps i j k):i≠j/\j≠k/\k≠i:=by
 unfold qD uA De at h;refine⟨?_,?_,?_⟩
 all_goals
  rintro rfl;split at h
  ·omega
  ·split at h
   ·rename_i h1 h2
    revert h2
    intro h2;refine absurd h2 (Rat.not_lt.2 ?_);grind
   ·omega
theorem alb {ps:PS} {j:Nat} (h:El ps j=true):(pX (ay ps j)).2.1.size<=40/\(pX (ay ps j)).2.2.size<=40/\(pY (ay ps j)).2.1.size<=40/\(pY (ay ps j)).2.2.size<=40:=by
 unfold El Ek at h;simp only[Bool.and_eq_true,decide_eq_true_eq]at h;unfold pX pY;dsimp only;omega
theorem Qs (b:Bool) (x y:ByteArray) (hx:x.size<=40) (hy:y.size<=40):vQ.f b x y=some false:=by
 unfold vQ.f;rw[if_neg qo,decide_eq_false qo]
theorem alc:∀ (n i K:Nat) (ps:PS),ps.length=i+n->2*n+4<=K->i+n<=1000->(∀ j,j<ps.length->El ps j=true)->∃ r,j9.l0 K ps (i:Int)=some r/\(r=0->∀ j,i<=j->j<ps.length->kK (ay ps j)):=by
 intro n;induction n with
 | zero =>
  intro i K ps hl hK hb hs;obtain⟨k,rfl⟩:∃ k,K=k+1:=⟨K-1,by omega⟩
  exact⟨0,by rw[j9.l0,if_neg qo],fun _ j h1 h2=>by omega⟩
 | succ n ih =>
  intro i K ps hl hK hb hs;obtain⟨k,rfl⟩:∃ k,K=k+2+1+1:=⟨K-4,by omega⟩
  obtain⟨s1,s2,s3,s4⟩:=alb (hs i qo);have fJ:=Qs (ay ps i).f0.f0.f0 _ _ s1 s2;have hl2:=Qs (ay ps i).f1.f0.f0 _ _ s3 s4;have N6:=ac2 k (pX (ay ps i)) (pY (ay ps i)) qo qo qo qo;have BH:wV.f (k+2) (ay ps i).f0.f0.f0 (ay ps i).f0.f0.f1 (ay ps i).f0.f1 (ay ps i).f1.f0.f0 (ay ps i).f1.f0.f1 (ay ps i).f1.f1=some (iE (pX (ay ps i)) (pY (ay ps i))):=by
   unfold wV.f;rw[show Ak.f (k+2) (ay ps i).f0.f0.f0 (ay ps i).f0.f0.f1 (ay ps i).f0.f1 (ay ps i).f1.f0.f0 (ay ps i).f1.f0.f1 (ay ps i).f1.f1=_ from N6];rfl
  unfold pX at fJ;unfold pY at hl2;dsimp only at fJ hl2;rw[j9.l0,if_pos qo,if_pos qo]
  rw[show vQ.f (aC ps (i:Int)).f0.f0.f0 (aC ps (i:Int)).f0.f0.f1 (aC ps (i:Int)).f0.f1=some false from fJ,Option.bind_some,if_neg qd,
   show vQ.f (aC ps (i:Int)).f1.f0.f0 (aC ps (i:Int)).f1.f0.f1 (aC ps (i:Int)).f1.f1=some false from hl2,Option.bind_some,
   j9.j1,if_neg qd,if_pos qo,if_pos qo]
  rw[show wV.f (k+2) (aC ps (i:Int)).f0.f0.f0 (aC ps (i:Int)).f0.f0.f1 (aC ps (i:Int)).f0.f1 (aC ps (i:Int)).f1.f0.f0 (aC ps (i:Int)).f1.f0.f1 (aC ps (i:Int)).f1.f1=_ from BH,Option.bind_some];by_cases h0:iE (pX (ay ps i)) (pY (ay ps i))=0
  ·rw[if_pos h0,mK qo]
   obtain⟨r,hr,hok⟩:=ih (i+1) (k+2) ps qo qo qo hs;refine⟨r,hr,fun e j h1 h2=>?_⟩;rcases Nat.eq_or_lt_of_le h1 with h|h
   ·subst h
    obtain⟨ox,oy⟩:=yQ.1 h0;exact⟨⟨ox,s1,s2⟩,⟨oy,s3,s4⟩⟩
   ·exact hok e j h h2
  ·rw[if_neg h0]
   exact⟨_,rfl,fun e=>absurd e h0⟩
theorem ald {ps:PS} (hs:∀ j,j<ps.length->El ps j=true) (hl:ps.length<=1000) (K:Nat) (hK:2*ps.length+4<=K):∃ r,j9.f K ps=some r/\(r=0->Gu ps):=by
 obtain⟨r,hr,h⟩:=alc ps.length 0 K ps qo hK qo hs;exact⟨r,hr,fun e j hj=>h e j (Nat.zero_le _) hj⟩
structure Bo (p:PT):Prop where
 x1:(pX p).2.1.size<=40
 x2:(pX p).2.2.size<=40
 y1:(pY p).2.1.size<=40
 y2:(pY p).2.2.size<=40
theorem kK.sh {p:PT} (h:kK p):Bo p:=⟨h.x.s1,h.x.s2,h.y.s1,h.y.s2⟩
theorem ac8 {p:PT} (h:kK p):iE (pX p) (pY p)=0:=yQ.2 ⟨h.x.o,h.y.o⟩
theorem aaw {p:PT} (h:iE (pX p) (pY p)=0) (hs:Bo p):kK p:=⟨⟨(yQ.1 h).1,hs.x1,hs.x2⟩,⟨(yQ.1 h).2,hs.y1,hs.y2⟩⟩
theorem ajr (k:Nat) {p:PT} (h:Bo p):uJ.f (k+5) p.f0.f0.f0 p.f0.f0.f1 p.f0.f1 p.f1.f0.f0 p.f1.f0.f1 p.f1.f1=some (iE (pX p) (pY p)):=by
 have c1:=IY (k+2) (pX p) (by have:=h.x1;omega) (by have:=h.x2;omega);have c2:=IY (k+1) (pY p) (by have:=h.y1;omega) (by have:=h.y2;omega);unfold uJ.f j_.f;obtain⟨Y,hY⟩:∃ Y:List RT,[⟨⟨p.f0.f0.f0,p.f0.f0.f1⟩,p.f0.f1⟩,⟨⟨p.f1.f0.f0,p.f1.f0.f1⟩,p.f1.f1⟩]=Y:=⟨_,rfl⟩
 have hlen:(Y.length:Int)=2:=by rw[<- hY];rfl
 have h0:fE Y 0=⟨⟨p.f0.f0.f0,p.f0.f0.f1⟩,p.f0.f1⟩:=by rw[<- hY];rfl
 have h1:fE Y 1=⟨⟨p.f1.f0.f0,p.f1.f0.f1⟩,p.f1.f1⟩:=by rw[<- hY];rfl
 rw[hY,hlen,j_.l0,hlen,if_pos qd,if_pos qd,if_pos qd,h0];unfold pX at c1;unfold pY at c2;dsimp only at c1 c2 ⊢;rw[c1,Option.bind_some];unfold iE pX pY;by_cases e:rA (p.f0.f0.f0,p.f0.f0.f1,p.f0.f1)=0
 ·rw[if_pos e,if_pos e,RR,j_.l0,hlen,if_pos qd,if_pos qd,if_pos qd,h1]
  dsimp only;rw[c2,Option.bind_some];by_cases e2:rA (p.f1.f0.f0,p.f1.f0.f1,p.f1.f1)=0
  ·rw[if_pos e2,YJ,j_.l0,if_neg qd,e2]
   rfl
  ·rw[if_neg e2]
   rfl
 ·rw[if_neg e,if_neg e]
  rfl
theorem Ti (k i:Nat) (l:List PT) (p:PT) (hp:aC l (i:Int)=p) (hi:i<l.length) (hb:i<=1000) (h:Bo p) :
  ez.l0 (k+11) l (l.length:Int) (i:Int)=if iE (pX p) (pY p)=0 then ez.l0 (k+5) l (l.length:Int) ((i+1:Nat):Int) else some (iE (pX p) (pY p)):=by
 have hc:=ajr k h;have x1:=h.x1;have x2:=h.x2;have y1:=h.y1;have y2:=h.y2;unfold pX at x1 x2;unfold pY at y1 y2;dsimp only at x1 x2 y1 y2;have Z4:¬ ((p.f0.f0.f1.size:Int) > 100):=by omega
 have Z5:¬ ((p.f0.f1.size:Int) > 100):=by omega
 have Z6:¬ ((p.f1.f0.f1.size:Int) > 100):=by omega
 have Z7:¬ ((p.f1.f1.size:Int) > 100):=by omega
 rw[ez.l0,if_pos qo,if_pos qo,if_pos qo,Option.bind_some,hp];obtain⟨Y,hY⟩:∃ Y:List RT,[⟨⟨p.f0.f0.f0,p.f0.f0.f1⟩,p.f0.f1⟩,⟨⟨p.f1.f0.f0,p.f1.f0.f1⟩,p.f1.f1⟩]=Y:=⟨_,rfl⟩
 have hlen:(Y.length:Int)=2:=by rw[<- hY];rfl
 have h0:fE Y 0=⟨⟨p.f0.f0.f0,p.f0.f0.f1⟩,p.f0.f1⟩:=by rw[<- hY];rfl
 have h1:fE Y 1=⟨⟨p.f1.f0.f0,p.f1.f0.f1⟩,p.f1.f1⟩:=by rw[<- hY];rfl
 rw[hY,hlen];rw[ez.l1,hlen,if_pos qd,if_pos qd,if_pos qd,h0,if_neg Z4,decide_eq_false Z5,ez.j2,if_neg qd,RR];rw[ez.l1,hlen,if_pos qd,if_pos qd,if_pos qd,h1,if_neg Z6,decide_eq_false Z7,ez.j2,if_neg qd,YJ];rw[ez.l1,if_neg qd,hc,Option.bind_some,mK qo]
theorem aoO (k:Nat) {p:PT} (h:Bo p):j9.f (k+6) [p]=some (iE (pX p) (pY p)):=by
 have fJ:=Qs p.f0.f0.f0 _ _ h.x1 h.x2;have hl2:=Qs p.f1.f0.f0 _ _ h.y1 h.y2;have N6:=ac2 (k+2) (pX p) (pY p) (by have:=h.x1;omega) (by have:=h.x2;omega) (by have:=h.y1;omega) (by have:=h.y2;omega);have BH:wV.f (k+4) p.f0.f0.f0 p.f0.f0.f1 p.f0.f1 p.f1.f0.f0 p.f1.f0.f1 p.f1.f1=some (iE (pX p) (pY p)):=by
  unfold wV.f;rw[show Ak.f (k+4) p.f0.f0.f0 p.f0.f0.f1 p.f0.f1 p.f1.f0.f0 p.f1.f0.f1 p.f1.f1=_ from N6];rfl
 unfold pX at fJ;unfold pY at hl2;dsimp only at fJ hl2;obtain⟨Y,hY⟩:∃ Y:List PT,[p]=Y:=⟨_,rfl⟩
 have hlen:(Y.length:Int)=1:=by rw[<- hY];rfl
 have h0:aC Y 0=p:=by rw[<- hY];rfl
 unfold j9.f;rw[hY,j9.l0,hlen,if_pos qd,if_pos qd,h0,fJ,Option.bind_some,if_neg qd,hl2,Option.bind_some,j9.j1,if_neg qd,hlen,if_pos qd,if_pos qd,h0,BH,Option.bind_some];by_cases e:iE (pX p) (pY p)=0
 ·rw[if_pos e,e,RR,j9.l0,hlen,if_neg qd]
 ·rw[if_neg e]
def inQ (a b c p:PT):Int:=mn (mn (wrap64 (uA a b c*uA a b p)) (wrap64 (uA a b c*uA b c p))) (wrap64 (uA a b c*uA c a p))
theorem ac9 {n:Nat} {a b:RG} (ha:dJ n a) (hb:dJ n b) (hn:n<=400):dJ (n+n+1) (pq (rq a+rq b)):=by
 have h:=asC ha.o hb.o ha.s1 ha.s2 hb.s1 hb.s2;exact⟨V5 qo qo,h.1,by omega⟩
def YQ (a b p:PT):Int:=De ((rq (pX a)-rq (pX p))*(rq (pX b)-rq (pX p))+(rq (pY a)-rq (pY p))*(rq (pY b)-rq (pY p))) 0
def Ob (a b p:PT):Bool:=if uA a b p=0 then decide (wrap64 (-YQ a b p)≥0) else false
theorem au' (k:Nat) {a b c d:RG} (ha:dJ 200 a) (hb:dJ 200 b) (hc:dJ 200 c) (hd:dJ 200 d) :
  qQ.f (k+1) a.1 a.2.1 a.2.2 b.1 b.2.1 b.2.2 c.1 c.2.1 c.2.2 d.1 d.2.1 d.2.2=some (pq (rq a*rq c+rq b*rq d)):=by
 unfold qQ.f;have m1:=qV ha hc qo;have m2:=qV hb hd qo
 rw[OH k a c ha.o hc.o (by have:=ha.s1;omega) (by have:=ha.s2;omega) (by have:=hc.s1;omega) (by have:=hc.s2;omega),Option.bind_some,OH k b d hb.o hd.o (by have:=hb.s1;omega) (by have:=hb.s2;omega) (by have:=hd.s1;omega) (by have:=hd.s2;omega),Option.bind_some,
  adM k _ _ m1.o m2.o m1.s1 m1.s2 m2.s1 m2.s2,Option.bind_some,qX,qX]
theorem atm (k:Nat) {a b p:PT} (ha:kK a) (hb:kK b) (hp:kK p) :
  qP.f (k+1) a.f0.f0.f0 a.f0.f0.f1 a.f0.f1 a.f1.f0.f0 a.f1.f0.f1 a.f1.f1 b.f0.f0.f0 b.f0.f0.f1 b.f0.f1 b.f1.f0.f0 b.f1.f0.f1 b.f1.f1 p.f0.f0.f0 p.f0.f0.f1 p.f0.f1 p.f1.f0.f0 p.f1.f0.f1 p.f1.f1=some (wrap64 (-YQ a b p)):=by
 have xa:=pT ha.x hp.x qo;have ya:=pT ha.y hp.y qo;have xb:=pT hb.x hp.x qo;have yb:=pT hb.y hp.y qo;have m1:=Qq k (ha.x.mono (m:=400) qo) (ha.y.mono qo) (hp.x.mono qo) (hp.y.mono qo);have m2:=Qq k (hb.x.mono (m:=400) qo) (hb.y.mono qo) (hp.x.mono qo) (hp.y.mono qo);have cr:=au' k (xa.mono (m:=200) qo) (ya.mono qo) (xb.mono qo) (yb.mono qo);have m3:=qV xa xb qo;have m4:=qV ya yb qo;have s:=ac9 (m3.mono (m:=200) qo) (m4.mono qo) qo;simp only[qX]at cr s;unfold qP.f
 rw[show lC.f (k+1) a.f0.f0.f0 a.f0.f0.f1 a.f0.f1 a.f1.f0.f0 a.f1.f0.f1 a.f1.f1 p.f0.f0.f0 p.f0.f0.f1 p.f0.f1 p.f1.f0.f0 p.f1.f0.f1 p.f1.f1=_ from m1,Option.bind_some,
  show lC.f (k+1) b.f0.f0.f0 b.f0.f0.f1 b.f0.f1 b.f1.f0.f0 b.f1.f0.f1 b.f1.f1 p.f0.f0.f0 p.f0.f0.f1 p.f0.f1 p.f1.f0.f0 p.f1.f0.f1 p.f1.f1=_ from m2,Option.bind_some]
 dsimp only;rw[cr,Option.bind_some,ac4 s.o,Option.bind_some,qX];rfl
theorem ava (k:Nat) {a b p:PT} (ha:kK a) (hb:kK b) (hp:kK p) :
  Er.f (k+1) a.f0.f0.f0 a.f0.f0.f1 a.f0.f1 a.f1.f0.f0 a.f1.f0.f1 a.f1.f1 b.f0.f0.f0 b.f0.f0.f1 b.f0.f1 b.f1.f0.f0 b.f1.f0.f1 b.f1.f1 p.f0.f0.f0 p.f0.f0.f1 p.f0.f1 p.f1.f0.f0 p.f1.f0.f1 p.f1.f1=some (Ob a b p):=by
 unfold Er.f Ob;rw[ac6 k ha hb hp,Option.bind_some];by_cases h:uA a b p=0
 ·rw[if_pos h,if_pos h,atm k ha hb hp,Option.bind_some]
 ·rw[if_neg h,if_neg h]
theorem atn (k:Nat) {a b:RG} (ha:dJ 400 a) (hb:dJ 400 b):Cj.f (k+2) a.1 a.2.1 a.2.2 b.1 b.2.1 b.2.2=some (pq (rq a+rq b)):=by
 obtain⟨r,hr,h1,-⟩:=aoI k a b (by have:=ha.s1;omega) (by have:=ha.s2;omega) (by have:=hb.s1;omega) (by have:=hb.s2;omega);unfold Cj.f;rw[hr,<- h1 (yQ.2 ⟨ha.o,hb.o⟩)];rfl
theorem avb (k:Nat) {a b c d:RG} (ha:dJ 200 a) (hb:dJ 200 b) (hc:dJ 200 c) (hd:dJ 200 d) :
  yR.f (k+8) a.1 a.2.1 a.2.2 b.1 b.2.1 b.2.2 c.1 c.2.1 c.2.2 d.1 d.2.1 d.2.2=some ((pq (rq a*rq c+rq b*rq d)).1,(pq (rq a*rq c+rq b*rq d)).2.1,(pq (rq a*rq c+rq b*rq d)).2.2,0):=by
 have a4:=ha.mono (m:=400) qo;have b4:=hb.mono (m:=400) qo;have c4:=hc.mono (m:=400) qo;have d4:=hd.mono (m:=400) qo;have m1:=qV ha hc qo;have m2:=qV hb hd qo;unfold yR.f rN.f;rw[ah2 (k+1) a4 b4 c4 d4,Option.bind_some,if_pos rfl,Rk (k+6) a4 c4,Option.bind_some,Rk (k+6) b4 d4,Option.bind_some,atn (k+6) m1 m2,Option.bind_some,qX,qX];rfl
theorem ato (k:Nat) {a b p:PT} (ha:kK a) (hb:kK b) (hp:kK p) :
  qT.f (k+8) a.f0.f0.f0 a.f0.f0.f1 a.f0.f1 a.f1.f0.f0 a.f1.f0.f1 a.f1.f1 b.f0.f0.f0 b.f0.f0.f1 b.f0.f1 b.f1.f0.f0 b.f1.f0.f1 b.f1.f1 p.f0.f0.f0 p.f0.f0.f1 p.f0.f1 p.f1.f0.f0 p.f1.f0.f1 p.f1.f1=some (wrap64 (-YQ a b p)):=by
 have xa:=pT ha.x hp.x qo;have ya:=pT ha.y hp.y qo;have xb:=pT hb.x hp.x qo;have yb:=pT hb.y hp.y qo;have m1:=Qr k (ha.x.mono (m:=400) qo) (ha.y.mono qo) (hp.x.mono qo) (hp.y.mono qo);have m2:=Qr k (hb.x.mono (m:=400) qo) (hb.y.mono qo) (hp.x.mono qo) (hp.y.mono qo);have cr:=avb k (xa.mono (m:=200) qo) (ya.mono qo) (xb.mono qo) (yb.mono qo);have m3:=qV xa xb qo;have m4:=qV ya yb qo;have s:=ac9 (m3.mono (m:=200) qo) (m4.mono qo) qo;simp only[qX]at cr s;unfold qT.f
 rw[show oo.f (k+8) a.f0.f0.f0 a.f0.f0.f1 a.f0.f1 a.f1.f0.f0 a.f1.f0.f1 a.f1.f1 p.f0.f0.f0 p.f0.f0.f1 p.f0.f1 p.f1.f0.f0 p.f1.f0.f1 p.f1.f1=_ from m1,Option.bind_some,
  show oo.f (k+8) b.f0.f0.f0 b.f0.f0.f1 b.f0.f1 b.f1.f0.f0 b.f1.f0.f1 b.f1.f1 p.f0.f0.f0 p.f0.f0.f1 p.f0.f1 p.f1.f0.f0 p.f1.f0.f1 p.f1.f1=_ from m2,Option.bind_some]
 dsimp only;rw[cr,Option.bind_some];dsimp only;rw[afQ (k+6) (s.mono qo),Option.bind_some,qX];rfl
theorem avc (k:Nat) {a b p:PT} (ha:kK a) (hb:kK b) (hp:Bo p) :
  Fq.f (k+35) a.f0.f0.f0 a.f0.f0.f1 a.f0.f1 a.f1.f0.f0 a.f1.f0.f1 a.f1.f1 b.f0.f0.f0 b.f0.f0.f1 b.f0.f1 b.f1.f0.f0 b.f1.f0.f1 b.f1.f1 p.f0.f0.f0 p.f0.f0.f1 p.f0.f1 p.f1.f0.f0 p.f1.f0.f1 p.f1.f1=some (if iE (pX p) (pY p)=0 then (Ob a b p,0) else (false,iE (pX p) (pY p))):=by
 have h:ez.f (k+35) [a,b,p]=some (iE (pX p) (pY p)):=by
  unfold ez.f;have e0:=Ti (k+24) 0 [a,b,p] a rfl (by simp) qo ha.sh;have e1:=Ti (k+18) 1 [a,b,p] b rfl (by simp) qo hb.sh;have e2:=Ti (k+12) 2 [a,b,p] p rfl (by simp) qo hp;rw[if_pos (ac8 ha)]at e0
  rw[if_pos (ac8 hb)]at e1
  refine e0.trans (e1.trans (e2.trans ?_));split
  ·rename_i e
   rw[e,ez.l0];exact if_neg (show ¬ (((2+1:Nat):Int)<((3:Nat):Int)) by decide)
  ·rfl
 unfold Fq.f;rw[show([⟨⟨⟨a.f0.f0.f0,a.f0.f0.f1⟩,a.f0.f1⟩,⟨⟨a.f1.f0.f0,a.f1.f0.f1⟩,a.f1.f1⟩⟩,⟨⟨⟨b.f0.f0.f0,b.f0.f0.f1⟩,b.f0.f1⟩,⟨⟨b.f1.f0.f0,b.f1.f0.f1⟩,b.f1.f1⟩⟩,⟨⟨⟨p.f0.f0.f0,p.f0.f0.f1⟩,p.f0.f1⟩,⟨⟨p.f1.f0.f0,p.f1.f0.f1⟩,p.f1.f1⟩⟩]:List PT)=[a,b,p] from rfl,h,Option.bind_some];by_cases e:iE (pX p) (pY p)=0
 ·have ok:=aaw e hp
  rw[if_pos e,if_pos e];unfold Fp.f Ob;rw[afR (k+27) ha hb ok,Option.bind_some];by_cases h0:uA a b p=0
  ·rw[if_pos h0,if_pos h0,ato (k+27) ha hb ok,Option.bind_some,Option.bind_some]
  ·rw[if_neg h0,if_neg h0,Option.bind_some]
 ·rw[if_neg e,if_neg e]
end Go.Proofs.YtfcjnhkkfmgmpaaGreat
