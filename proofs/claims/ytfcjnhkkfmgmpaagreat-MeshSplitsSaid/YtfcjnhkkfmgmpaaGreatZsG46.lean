import Derived.Test.YtfcjnhkkfmgmpaaGreatZsG45
import Derived.Test.YtfcjnhkkfmgmpaaGreatZsG51
import Derived.Test.YtfcjnhkkfmgmpaaGreatZsG49
set_option linter.all false
set_option maxRecDepth 100000
set_option maxHeartbeats 8000000
namespace Go.Proofs.YtfcjnhkkfmgmpaaGreat
open Go.RowKit aR Go.Proofs.aC.R Go.Proofs.aD.bf
abbrev PT:=aX
abbrev RT:=aB
def pX (p:PT):RG:=(p.f0.f0.f0,p.f0.f0.f1,p.f0.f1)
def pY (p:PT):RG:=(p.f1.f0.f0,p.f1.f0.f1,p.f1.f1)
structure eV (n:Nat) (a:RG):Prop where
 o:jc a
 s1:a.2.1.size≤n
 s2:a.2.2.size≤n
structure k9 (p:PT):Prop where
 x:eV 40 (pX p)
 y:eV 40 (pY p)
theorem eV.mono {n m:Nat} {a:RG} (h:eV n a) (hm:n≤m):eV m a:=⟨h.o,Nat.le_trans h.s1 hm,Nat.le_trans h.s2 hm⟩
theorem wK {n:Nat} {a b:RG} (ha:eV n a) (hb:eV n b) (hn:n≤400):eV (n+n+1) (pq (rq a-rq b)):=by
 have h:=aon ha.o hb.o ha.s1 ha.s2 hb.s1 hb.s2;exact⟨Z8 (by omega) (by omega),h.1,by omega⟩
theorem Al {n:Nat} {a b:RG} (ha:eV n a) (hb:eV n b) (hn:n≤400):eV (n+n) (pq (rq a*rq b)):=by
 have h:=aoo ha.o hb.o ha.s1 ha.s2 hb.s1 hb.s2;exact⟨Z8 (by omega) (by omega),h.1,h.2⟩
def ue (a b c:PT):Int:=Dx ((rq (pX b)-rq (pX a))*(rq (pY c)-rq (pY a))-(rq (pY b)-rq (pY a))*(rq (pX c)-rq (pX a))) 0
theorem aaD (k:Nat) {a b c d:RG} (ha:eV 400 a) (hb:eV 400 b) (hc:eV 400 c) (hd:eV 400 d) :
  nA.f (k+1) a.1 a.2.1 a.2.2 b.1 b.2.1 b.2.2 c.1 c.2.1 c.2.2 d.1 d.2.1 d.2.2=some ((pq (rq a-rq c)).1,(pq (rq a-rq c)).2.1,(pq (rq a-rq c)).2.2,(pq (rq b-rq d)).1,(pq (rq b-rq d)).2.1,(pq (rq b-rq d)).2.2):=by
 unfold nA.f;rw[Sq k a c ha.o hc.o ha.s1 ha.s2 hc.s1 hc.s2,Option.bind_some,Sq k b d hb.o hd.o hb.s1 hb.s2 hd.s1 hd.s2,Option.bind_some]
theorem alc (k:Nat) {a b c d:RG} (ha:eV 200 a) (hb:eV 200 b) (hc:eV 200 c) (hd:eV 200 d) :
  pE.f (k+1) a.1 a.2.1 a.2.2 b.1 b.2.1 b.2.2 c.1 c.2.1 c.2.2 d.1 d.2.1 d.2.2=some (pq (rq a*rq d-rq b*rq c)):=by
 unfold pE.f;have m1:=Al ha hd (by omega);have m2:=Al hb hc (by omega)
 rw[Yl k a d ha.o hd.o (by have:=ha.s1;omega) (by have:=ha.s2;omega) (by have:=hd.s1;omega) (by have:=hd.s2;omega),Option.bind_some,Yl k b c hb.o hc.o (by have:=hb.s1;omega) (by have:=hb.s2;omega) (by have:=hc.s1;omega) (by have:=hc.s2;omega),Option.bind_some,
  Sq k _ _ m1.o m2.o m1.s1 m1.s2 m2.s1 m2.s2,Option.bind_some,Av,Av]
theorem Jq (k:Nat) {a b c:PT} (ha:k9 a) (hb:k9 b) (hc:k9 c) :
  ld.f (k+1) a.f0.f0.f0 a.f0.f0.f1 a.f0.f1 a.f1.f0.f0 a.f1.f0.f1 a.f1.f1 b.f0.f0.f0 b.f0.f0.f1 b.f0.f1 b.f1.f0.f0 b.f1.f0.f1 b.f1.f1 c.f0.f0.f0 c.f0.f0.f1 c.f0.f1 c.f1.f0.f0 c.f1.f0.f1 c.f1.f1=some (ue a b c):=by
 have xb:=wK hb.x ha.x (by omega);have yb:=wK hb.y ha.y (by omega);have xc:=wK hc.x ha.x (by omega);have yc:=wK hc.y ha.y (by omega);have m1:=aaD k (hb.x.mono (m:=400) (by omega)) (hb.y.mono (by omega)) (ha.x.mono (by omega)) (ha.y.mono (by omega));have m2:=aaD k (hc.x.mono (m:=400) (by omega)) (hc.y.mono (by omega)) (ha.x.mono (by omega)) (ha.y.mono (by omega));have cr:=alc k (xb.mono (m:=200) (by omega)) (yb.mono (by omega)) (xc.mono (by omega)) (yc.mono (by omega));have m3:=Al xb yc (by omega);have m4:=Al yb xc (by omega);have s:=wK (m3.mono (m:=200) (by omega)) (m4.mono (by omega)) (by omega);simp only[Av]at cr s;unfold ld.f
 rw[show nA.f (k+1) b.f0.f0.f0 b.f0.f0.f1 b.f0.f1 b.f1.f0.f0 b.f1.f0.f1 b.f1.f1 a.f0.f0.f0 a.f0.f0.f1 a.f0.f1 a.f1.f0.f0 a.f1.f0.f1 a.f1.f1=_ from m1,Option.bind_some,
  show nA.f (k+1) c.f0.f0.f0 c.f0.f0.f1 c.f0.f1 c.f1.f0.f0 c.f1.f0.f1 c.f1.f1 a.f0.f0.f0 a.f0.f0.f1 a.f0.f1 a.f1.f0.f0 a.f1.f0.f1 a.f1.f1=_ from m2,Option.bind_some]
 dsimp only;rw[cr,Option.bind_some,akq s.o,Option.bind_some,Av];rfl
theorem XS:∀ (n i K:Nat) (l:List RT),l.length=i+n→n+3≤K→i+n≤1000→(∀ j,j<l.length→eV 400 ((dP l (j:Int)).f0.f0,(dP l (j:Int)).f0.f1,(dP l (j:Int)).f1))→kT.l0 K l (l.length:Int) (i:Int)=some 0:=by
 intro n;induction n with
 | zero =>
  intro i K l hl hK hb ho;obtain⟨k,rfl⟩:∃ k,K=k+1:=⟨K-1,by omega⟩
  rw[kT.l0,if_neg (by omega)]
 | succ n ih =>
  intro i K l hl hK hb ho;obtain⟨k,rfl⟩:∃ k,K=k+2+1:=⟨K-3,by omega⟩
  have h:=ho i (by omega);have hc:=FL k _ (show((dP l (i:Int)).f0.f0,(dP l (i:Int)).f0.f1,(dP l (i:Int)).f1).2.1.size≤15000 by have:=h.s1;omega) (by have:=h.s2;omega);rw[kT.l0,if_pos (by omega),if_pos (by omega),if_pos (by omega)];dsimp only at hc;rw[hc,zZ.2 h.o,Option.bind_some,if_pos rfl,lS (by omega)];exact ih (i+1) (k+2) l (by omega) (by omega) (by omega) ho
theorem aqe (k:Nat) {a b:RG} (ha:eV 400 a) (hb:eV 400 b):kT.f (k+5) [⟨⟨a.1,a.2.1⟩,a.2.2⟩,⟨⟨b.1,b.2.1⟩,b.2.2⟩]=some 0 :=
 XS 2 0 (k+5) _ rfl (by omega) (by omega) (fun j hj=>by
  have:j=0∨j=1:=by simp at hj;omega
  rcases this with rfl|rfl
  ·exact ha
  ·exact hb)
theorem aqf (k:Nat) {a b c d:RG} (ha:eV 400 a) (hb:eV 400 b) (hc:eV 400 c) (hd:eV 400 d):kT.f (k+7) [⟨⟨a.1,a.2.1⟩,a.2.2⟩,⟨⟨b.1,b.2.1⟩,b.2.2⟩,⟨⟨c.1,c.2.1⟩,c.2.2⟩,⟨⟨d.1,d.2.1⟩,d.2.2⟩]=some 0 :=
 XS 4 0 (k+7) _ rfl (by omega) (by omega) (fun j hj=>by
  have:j=0∨j=1∨j=2∨j=3:=by simp at hj;omega
  rcases this with rfl|rfl|rfl|rfl
  ·exact ha
  ·exact hb
  ·exact hc
  ·exact hd)
theorem aaE (k:Nat) {a b:RG} (ha:eV 400 a) (hb:eV 400 b):sq.f (k+5) a.1 a.2.1 a.2.2 b.1 b.2.1 b.2.2=some 0:=by
 unfold sq.f;rw[aqe k ha hb];rfl
theorem agI:∀ (n i K:Nat) (l:List PT),l.length=i+n→n+6≤K→i+n≤1000→(∀ j,j<l.length→eV 400 (pX (au l (j:Int)))∧eV 400 (pY (au l (j:Int))))→mM.l0 K l (l.length:Int) (i:Int)=some 0:=by
 intro n;induction n with
 | zero =>
  intro i K l hl hK hb ho;obtain⟨k,rfl⟩:∃ k,K=k+1:=⟨K-1,by omega⟩
  rw[mM.l0,if_neg (by omega)]
 | succ n ih =>
  intro i K l hl hK hb ho;obtain⟨k,rfl⟩:∃ k,K=k+5+1:=⟨K-6,by omega⟩
  have h:=ho i (by omega);have hc:=aaE k h.1 h.2;unfold pX pY at hc;rw[mM.l0,if_pos (by omega),if_pos (by omega),if_pos (by omega)];dsimp only at hc;rw[hc,Option.bind_some,if_pos rfl,lS (by omega)];exact ih (i+1) (k+5) l (by omega) (by omega) (by omega) ho
theorem aeb (k:Nat) {a b c d:RG} (ha:eV 400 a) (hb:eV 400 b) (hc:eV 400 c) (hd:eV 400 d):mM.f (k+8) [⟨⟨⟨a.1,a.2.1⟩,a.2.2⟩,⟨⟨b.1,b.2.1⟩,b.2.2⟩⟩,⟨⟨⟨c.1,c.2.1⟩,c.2.2⟩,⟨⟨d.1,d.2.1⟩,d.2.2⟩⟩]=some 0 :=
 agI 2 0 (k+8) _ rfl (by omega) (by omega) (fun j hj=>by
  have:j=0∨j=1:=by simp at hj;omega
  rcases this with rfl|rfl
  ·exact⟨ha,hb⟩
  ·exact⟨hc,hd⟩)
theorem TV (k:Nat) {a b:RG} (ha:eV 400 a) (hb:eV 400 b):qX.f (k+2) a.1 a.2.1 a.2.2 b.1 b.2.1 b.2.2=some (pq (rq a-rq b)):=by
 obtain⟨r,hr,h1,-⟩:=ako k a b (by have:=ha.s1;omega) (by have:=ha.s2;omega) (by have:=hb.s1;omega) (by have:=hb.s2;omega);unfold qX.f;rw[hr,← h1 (xP.2 ⟨ha.o,hb.o⟩)];rfl
theorem ab' (k:Nat) {a b:RG} (ha:eV 400 a) (hb:eV 400 b):uy.f (k+2) a.1 a.2.1 a.2.2 b.1 b.2.1 b.2.2=some (pq (rq a*rq b)):=by
 obtain⟨r,hr,h1,-⟩:=akp k a b (by have:=ha.s1;omega) (by have:=ha.s2;omega) (by have:=hb.s1;omega) (by have:=hb.s2;omega);unfold uy.f;rw[hr,← h1 (xP.2 ⟨ha.o,hb.o⟩)];rfl
theorem aaF (k:Nat) {a b c d:RG} (ha:eV 400 a) (hb:eV 400 b) (hc:eV 400 c) (hd:eV 400 d) :
  uD.f (k+8) a.1 a.2.1 a.2.2 b.1 b.2.1 b.2.2 c.1 c.2.1 c.2.2 d.1 d.2.1 d.2.2=some ((pq (rq a-rq c)).1,(pq (rq a-rq c)).2.1,(pq (rq a-rq c)).2.2,(pq (rq b-rq d)).1,(pq (rq b-rq d)).2.1,(pq (rq b-rq d)).2.2):=by
 unfold uD.f Fi.f pW.f;rw[aeb k ha hb hc hd,Option.bind_some,if_pos rfl,TV (k+6) ha hc,Option.bind_some,TV (k+6) hb hd,Option.bind_some];rfl
theorem ald (k:Nat) {a b c d:RG} (ha:eV 200 a) (hb:eV 200 b) (hc:eV 200 c) (hd:eV 200 d) :
  Cc.f (k+8) a.1 a.2.1 a.2.2 b.1 b.2.1 b.2.2 c.1 c.2.1 c.2.2 d.1 d.2.1 d.2.2=some (pq (rq a*rq d-rq b*rq c)):=by
 have a4:=ha.mono (m:=400) (by omega);have b4:=hb.mono (m:=400) (by omega);have c4:=hc.mono (m:=400) (by omega);have d4:=hd.mono (m:=400) (by omega);have m1:=Al ha hd (by omega);have m2:=Al hb hc (by omega);unfold Cc.f Fh.f pg.f;rw[aeb k a4 b4 c4 d4,Option.bind_some,if_pos rfl,aqf (k+1) a4 b4 d4 c4,Option.bind_some,if_pos rfl,ab' (k+6) a4 d4,Option.bind_some,ab' (k+6) b4 c4,Option.bind_some,TV (k+6) m1 m2,Option.bind_some,Av,Av];rfl
theorem aor (k:Nat) {a:RG} (ha:eV 1000 a):Ce.f (k+2) a.1 a.2.1 a.2.2=some (Dx (rq a) 0):=by
 obtain⟨s,hs,he⟩:=agH k a (by have:=ha.s1;omega) (by have:=ha.s2;omega);unfold Ce.f;rw[hs,← he (zZ.2 ha.o)];rfl
theorem JT (k:Nat) {a b c:PT} (ha:k9 a) (hb:k9 b) (hc:k9 c) :
  jE.f (k+8) a.f0.f0.f0 a.f0.f0.f1 a.f0.f1 a.f1.f0.f0 a.f1.f0.f1 a.f1.f1 b.f0.f0.f0 b.f0.f0.f1 b.f0.f1 b.f1.f0.f0 b.f1.f0.f1 b.f1.f1 c.f0.f0.f0 c.f0.f0.f1 c.f0.f1 c.f1.f0.f0 c.f1.f0.f1 c.f1.f1=some (ue a b c):=by
 have xb:=wK hb.x ha.x (by omega);have yb:=wK hb.y ha.y (by omega);have xc:=wK hc.x ha.x (by omega);have yc:=wK hc.y ha.y (by omega);have m1:=aaF k (hb.x.mono (m:=400) (by omega)) (hb.y.mono (by omega)) (ha.x.mono (by omega)) (ha.y.mono (by omega));have m2:=aaF k (hc.x.mono (m:=400) (by omega)) (hc.y.mono (by omega)) (ha.x.mono (by omega)) (ha.y.mono (by omega));have cr:=ald k (xb.mono (m:=200) (by omega)) (yb.mono (by omega)) (xc.mono (by omega)) (yc.mono (by omega));have m3:=Al xb yc (by omega);have m4:=Al yb xc (by omega);have s:=wK (m3.mono (m:=200) (by omega)) (m4.mono (by omega)) (by omega);simp only[Av]at cr s;unfold jE.f
 rw[show uD.f (k+8) b.f0.f0.f0 b.f0.f0.f1 b.f0.f1 b.f1.f0.f0 b.f1.f0.f1 b.f1.f1 a.f0.f0.f0 a.f0.f0.f1 a.f0.f1 a.f1.f0.f0 a.f1.f0.f1 a.f1.f1=_ from m1,Option.bind_some,
  show uD.f (k+8) c.f0.f0.f0 c.f0.f0.f1 c.f0.f1 c.f1.f0.f0 c.f1.f0.f1 c.f1.f1 a.f0.f0.f0 a.f0.f0.f1 a.f0.f1 a.f1.f0.f0 a.f1.f0.f1 a.f1.f1=_ from m2,Option.bind_some]
 dsimp only;rw[cr,Option.bind_some,aor (k+6) (s.mono (by omega)),Option.bind_some,Av];rfl
theorem aks:∀ (n i K:Nat) (l:List PT),l.length=i+n→6*n+8≤K→i+n≤1000→(∀ j,j<l.length→k9 (au l (j:Int)))→ep.l0 K l (l.length:Int) (i:Int)=some 0:=by
 intro n;induction n with
 | zero =>
  intro i K l hl hK hb ho;obtain⟨k,rfl⟩:∃ k,K=k+1:=⟨K-1,by omega⟩
  rw[ep.l0,if_neg (by omega)]
 | succ n ih =>
  intro i K l hl hK hb ho;obtain⟨k,rfl⟩:∃ k,K=k+5+1+1+1+1+1+1:=⟨K-11,by omega⟩
  have h:=ho i (by omega);have hc:=aaE k (h.x.mono (m:=400) (by omega)) (h.y.mono (by omega));have x1:=h.x.s1;have x2:=h.x.s2;have y1:=h.y.s1;have y2:=h.y.s2;unfold pX at x1 x2 hc;unfold pY at y1 y2 hc;dsimp only at x1 x2 y1 y2 hc;have WD:¬ (((au l (i:Int)).f0.f0.f1.size:Int) > 100):=by omega
  have WE:¬ (((au l (i:Int)).f0.f1.size:Int) > 100):=by omega
  have WG:¬ (((au l (i:Int)).f1.f0.f1.size:Int) > 100):=by omega
  have WH:¬ (((au l (i:Int)).f1.f1.size:Int) > 100):=by omega
  generalize hp:au l (i:Int)=p at *;rw[ep.l0,if_pos (by omega),if_pos (by omega),if_pos (by omega),Option.bind_some];rw[hp];obtain⟨Y,hY⟩:∃ Y:List RT,[⟨⟨p.f0.f0.f0,p.f0.f0.f1⟩,p.f0.f1⟩,⟨⟨p.f1.f0.f0,p.f1.f0.f1⟩,p.f1.f1⟩]=Y:=⟨_,rfl⟩
  have hlen:(Y.length:Int)=2:=by rw[← hY];rfl
  have h0:dP Y 0=⟨⟨p.f0.f0.f0,p.f0.f0.f1⟩,p.f0.f1⟩:=by rw[← hY];rfl
  have h1:dP Y 1=⟨⟨p.f1.f0.f0,p.f1.f0.f1⟩,p.f1.f1⟩:=by rw[← hY];rfl
  rw[hY,hlen];rw[ep.l1,hlen,if_pos (by decide),if_pos (by decide),if_pos (by decide),h0,if_neg WD,decide_eq_false WE,ep.j2,if_neg (by decide),OP];rw[ep.l1,hlen,if_pos (by decide),if_pos (by decide),if_pos (by decide),h1,if_neg WG,decide_eq_false WH,ep.j2,if_neg (by decide),Ve];rw[ep.l1,if_neg (by decide),hc,Option.bind_some,if_pos rfl,lS (by omega)];exact ih (i+1) (k+5) l (by omega) (by omega) (by omega) ho
theorem ZT (k:Nat) {a b c:PT} (ha:k9 a) (hb:k9 b) (hc:k9 c) :
  wB.f (k+26) a.f0.f0.f0 a.f0.f0.f1 a.f0.f1 a.f1.f0.f0 a.f1.f0.f1 a.f1.f1 b.f0.f0.f0 b.f0.f0.f1 b.f0.f1 b.f1.f0.f0 b.f1.f0.f1 b.f1.f1 c.f0.f0.f0 c.f0.f0.f1 c.f0.f1 c.f1.f0.f0 c.f1.f0.f1 c.f1.f1=some (ue a b c,0):=by
 have h:ep.f (k+26) [a,b,c]=some 0:=aks 3 0 (k+26) _ rfl (by omega) (by omega) (fun j hj=>by
  have:j=0∨j=1∨j=2:=by simp at hj;omega
  rcases this with rfl|rfl|rfl
  ·exact ha
  ·exact hb
  ·exact hc)
 unfold wB.f;rw[show([⟨⟨⟨a.f0.f0.f0,a.f0.f0.f1⟩,a.f0.f1⟩,⟨⟨a.f1.f0.f0,a.f1.f0.f1⟩,a.f1.f1⟩⟩,⟨⟨⟨b.f0.f0.f0,b.f0.f0.f1⟩,b.f0.f1⟩,⟨⟨b.f1.f0.f0,b.f1.f0.f1⟩,b.f1.f1⟩⟩,⟨⟨⟨c.f0.f0.f0,c.f0.f0.f1⟩,c.f0.f1⟩,⟨⟨c.f1.f0.f0,c.f1.f0.f1⟩,c.f1.f1⟩⟩]:List PT)=[a,b,c] from rfl,h,Option.bind_some,if_pos rfl,JT (k+18) ha hb hc,Option.bind_some]
theorem agJ:∀ (n i K:Nat) (l:List PT),l.length=i+n→n+27≤K→i+n≤1000→(∀ j,j<l.length→k9 (au l (j:Int)))→oz.l0 K l (l.length:Int) (i:Int)=some 0:=by
 intro n;induction n with
 | zero =>
  intro i K l hl hK hb ho;obtain⟨k,rfl⟩:∃ k,K=k+1:=⟨K-1,by omega⟩
  rw[oz.l0,if_neg (by omega)]
 | succ n ih =>
  intro i K l hl hK hb ho;obtain⟨k,rfl⟩:∃ k,K=k+26+1:=⟨K-27,by omega⟩
  have h:=ho i (by omega);rw[oz.l0,if_pos (by omega),if_pos (by omega),if_pos (by omega),ZT k h h h,Option.bind_some,if_pos rfl,lS (by omega)];exact ih (i+1) (k+26) l (by omega) (by omega) (by omega) ho
def oJ (ps:PS) (i j k:Nat):Int:=ue (aA ps i) (aA ps j) (aA ps k)
def D7 (ps:PS):Prop:=∀ j,j<ps.length→k9 (aA ps j)
theorem Mk {ps:PS} (h:D7 ps) (hl:ps.length≤1000) (K:Nat) (hK:ps.length+27≤K):oz.f K ps=some 0:=agJ ps.length 0 K ps (by omega) hK (by omega) h
theorem PI {ps:PS} (h:D7 ps) (K:Nat) (hK:26≤K):Hj K ps (oJ ps):=by
 obtain⟨k,rfl⟩:∃ k,K=k+26:=⟨K-26,by omega⟩
 exact fun i j l hi hj hl=>ZT k (h i hi) (h j hj) (h l hl)
theorem orO {ps:PS} (h:D7 ps) (K:Nat) (hK:1≤K):VZ K ps (oJ ps):=by
 obtain⟨k,rfl⟩:∃ k,K=k+1:=⟨K-1,by omega⟩
 exact fun i j l hi hj hl=>Jq k (h i hi) (h j hj) (h l hl)
theorem aaG (ps:PS) (i j k:Nat) (h:0<oJ ps i j k):i≠j∧j≠k∧k≠i:=by
 unfold oJ ue Dx at h;refine⟨?_,?_,?_⟩
 all_goals
  rintro rfl;split at h
  ·omega
  ·split at h
   ·rename_i h1 h2
    revert h2
    intro h2;refine absurd h2 (Rat.not_lt.2 ?_);grind
   ·omega
theorem agK {ps:PS} {j:Nat} (h:BS ps j=true):(pX (aA ps j)).2.1.size≤40∧(pX (aA ps j)).2.2.size≤40∧(pY (aA ps j)).2.1.size≤40∧(pY (aA ps j)).2.2.size≤40:=by
 unfold BS BR at h;simp only[Bool.and_eq_true,decide_eq_true_eq]at h;unfold pX pY;dsimp only;omega
theorem Nn (b:Bool) (x y:ByteArray) (hx:x.size≤40) (hy:y.size≤40):tu.f b x y=some false:=by
 unfold tu.f;rw[if_neg (by omega),decide_eq_false (by omega)]
theorem agL:∀ (n i K:Nat) (ps:PS),ps.length=i+n→2*n+4≤K→i+n≤1000→(∀ j,j<ps.length→BS ps j=true)→∃ r,jN.l0 K ps (i:Int)=some r∧(r=0→∀ j,i≤j→j<ps.length→k9 (aA ps j)):=by
 intro n;induction n with
 | zero =>
  intro i K ps hl hK hb hs;obtain⟨k,rfl⟩:∃ k,K=k+1:=⟨K-1,by omega⟩
  exact⟨0,by rw[jN.l0,if_neg (by omega)],fun _ j h1 h2=>by omega⟩
 | succ n ih =>
  intro i K ps hl hK hb hs;obtain⟨k,rfl⟩:∃ k,K=k+2+1+1:=⟨K-4,by omega⟩
  obtain⟨s1,s2,s3,s4⟩:=agK (hs i (by omega));have fy:=Nn (aA ps i).f0.f0.f0 _ _ s1 s2;have hl2:=Nn (aA ps i).f1.f0.f0 _ _ s3 s4;have Lu:=ZQ k (pX (aA ps i)) (pY (aA ps i)) (by omega) (by omega) (by omega) (by omega);have yQ:uz.f (k+2) (aA ps i).f0.f0.f0 (aA ps i).f0.f0.f1 (aA ps i).f0.f1 (aA ps i).f1.f0.f0 (aA ps i).f1.f0.f1 (aA ps i).f1.f1=some (iD (pX (aA ps i)) (pY (aA ps i))):=by
   unfold uz.f;rw[show xB.f (k+2) (aA ps i).f0.f0.f0 (aA ps i).f0.f0.f1 (aA ps i).f0.f1 (aA ps i).f1.f0.f0 (aA ps i).f1.f0.f1 (aA ps i).f1.f1=_ from Lu];rfl
  unfold pX at fy;unfold pY at hl2;dsimp only at fy hl2;rw[jN.l0,if_pos (by omega),if_pos (by omega)]
  rw[show tu.f (au ps (i:Int)).f0.f0.f0 (au ps (i:Int)).f0.f0.f1 (au ps (i:Int)).f0.f1=some false from fy,Option.bind_some,if_neg (by decide),
   show tu.f (au ps (i:Int)).f1.f0.f0 (au ps (i:Int)).f1.f0.f1 (au ps (i:Int)).f1.f1=some false from hl2,Option.bind_some,
   jN.j1,if_neg (by decide),if_pos (by omega),if_pos (by omega)]
  rw[show uz.f (k+2) (au ps (i:Int)).f0.f0.f0 (au ps (i:Int)).f0.f0.f1 (au ps (i:Int)).f0.f1 (au ps (i:Int)).f1.f0.f0 (au ps (i:Int)).f1.f0.f1 (au ps (i:Int)).f1.f1=_ from yQ,Option.bind_some];by_cases h0:iD (pX (aA ps i)) (pY (aA ps i))=0
  ·rw[if_pos h0,lS (by omega)]
   obtain⟨r,hr,hok⟩:=ih (i+1) (k+2) ps (by omega) (by omega) (by omega) hs;refine⟨r,hr,fun e j h1 h2=>?_⟩;rcases Nat.eq_or_lt_of_le h1 with h|h
   ·subst h
    obtain⟨ox,oy⟩:=xP.1 h0;exact⟨⟨ox,s1,s2⟩,⟨oy,s3,s4⟩⟩
   ·exact hok e j h h2
  ·rw[if_neg h0]
   exact⟨_,rfl,fun e=>absurd e h0⟩
theorem agM {ps:PS} (hs:∀ j,j<ps.length→BS ps j=true) (hl:ps.length≤1000) (K:Nat) (hK:2*ps.length+4≤K):∃ r,jN.f K ps=some r∧(r=0→D7 ps):=by
 obtain⟨r,hr,h⟩:=agL ps.length 0 K ps (by omega) hK (by omega) hs;exact⟨r,hr,fun e j hj=>h e j (Nat.zero_le _) hj⟩
structure yF (p:PT):Prop where
 x1:(pX p).2.1.size≤40
 x2:(pX p).2.2.size≤40
 y1:(pY p).2.1.size≤40
 y2:(pY p).2.2.size≤40
theorem k9.sh {p:PT} (h:k9 p):yF p:=⟨h.x.s1,h.x.s2,h.y.s1,h.y.s2⟩
theorem Sr {p:PT} (h:k9 p):iD (pX p) (pY p)=0:=xP.2 ⟨h.x.o,h.y.o⟩
theorem XE {p:PT} (h:iD (pX p) (pY p)=0) (hs:yF p):k9 p:=⟨⟨(xP.1 h).1,hs.x1,hs.x2⟩,⟨(xP.1 h).2,hs.y1,hs.y2⟩⟩
theorem aeX (k:Nat) {p:PT} (h:yF p):sq.f (k+5) p.f0.f0.f0 p.f0.f0.f1 p.f0.f1 p.f1.f0.f0 p.f1.f0.f1 p.f1.f1=some (iD (pX p) (pY p)):=by
 have c1:=FL (k+2) (pX p) (by have:=h.x1;omega) (by have:=h.x2;omega);have c2:=FL (k+1) (pY p) (by have:=h.y1;omega) (by have:=h.y2;omega);unfold sq.f kT.f;obtain⟨Y,hY⟩:∃ Y:List RT,[⟨⟨p.f0.f0.f0,p.f0.f0.f1⟩,p.f0.f1⟩,⟨⟨p.f1.f0.f0,p.f1.f0.f1⟩,p.f1.f1⟩]=Y:=⟨_,rfl⟩
 have hlen:(Y.length:Int)=2:=by rw[← hY];rfl
 have h0:dP Y 0=⟨⟨p.f0.f0.f0,p.f0.f0.f1⟩,p.f0.f1⟩:=by rw[← hY];rfl
 have h1:dP Y 1=⟨⟨p.f1.f0.f0,p.f1.f0.f1⟩,p.f1.f1⟩:=by rw[← hY];rfl
 rw[hY,hlen,kT.l0,hlen,if_pos (by decide),if_pos (by decide),if_pos (by decide),h0];unfold pX at c1;unfold pY at c2;dsimp only at c1 c2 ⊢;rw[c1,Option.bind_some];unfold iD pX pY;by_cases e:pM (p.f0.f0.f0,p.f0.f0.f1,p.f0.f1)=0
 ·rw[if_pos e,if_pos e,OP,kT.l0,hlen,if_pos (by decide),if_pos (by decide),if_pos (by decide),h1]
  dsimp only;rw[c2,Option.bind_some];by_cases e2:pM (p.f1.f0.f0,p.f1.f0.f1,p.f1.f1)=0
  ·rw[if_pos e2,Ve,kT.l0,if_neg (by decide),e2]
   rfl
  ·rw[if_neg e2]
   rfl
 ·rw[if_neg e,if_neg e]
  rfl
theorem LS (k i:Nat) (l:List PT) (p:PT) (hp:au l (i:Int)=p) (hi:i<l.length) (hb:i≤1000) (h:yF p) :
  ep.l0 (k+11) l (l.length:Int) (i:Int)=if iD (pX p) (pY p)=0 then ep.l0 (k+5) l (l.length:Int) ((i+1:Nat):Int) else some (iD (pX p) (pY p)):=by
 have hc:=aeX k h;have x1:=h.x1;have x2:=h.x2;have y1:=h.y1;have y2:=h.y2;unfold pX at x1 x2;unfold pY at y1 y2;dsimp only at x1 x2 y1 y2;have WD:¬ ((p.f0.f0.f1.size:Int) > 100):=by omega
 have WE:¬ ((p.f0.f1.size:Int) > 100):=by omega
 have WG:¬ ((p.f1.f0.f1.size:Int) > 100):=by omega
 have WH:¬ ((p.f1.f1.size:Int) > 100):=by omega
 rw[ep.l0,if_pos (by omega),if_pos (by omega),if_pos (by omega),Option.bind_some,hp];obtain⟨Y,hY⟩:∃ Y:List RT,[⟨⟨p.f0.f0.f0,p.f0.f0.f1⟩,p.f0.f1⟩,⟨⟨p.f1.f0.f0,p.f1.f0.f1⟩,p.f1.f1⟩]=Y:=⟨_,rfl⟩
 have hlen:(Y.length:Int)=2:=by rw[← hY];rfl
 have h0:dP Y 0=⟨⟨p.f0.f0.f0,p.f0.f0.f1⟩,p.f0.f1⟩:=by rw[← hY];rfl
 have h1:dP Y 1=⟨⟨p.f1.f0.f0,p.f1.f0.f1⟩,p.f1.f1⟩:=by rw[← hY];rfl
 rw[hY,hlen];rw[ep.l1,hlen,if_pos (by decide),if_pos (by decide),if_pos (by decide),h0,if_neg WD,decide_eq_false WE,ep.j2,if_neg (by decide),OP];rw[ep.l1,hlen,if_pos (by decide),if_pos (by decide),if_pos (by decide),h1,if_neg WG,decide_eq_false WH,ep.j2,if_neg (by decide),Ve];rw[ep.l1,if_neg (by decide),hc,Option.bind_some,lS (by omega)]
theorem aku (k:Nat) {p:PT} (h:yF p):jN.f (k+6) [p]=some (iD (pX p) (pY p)):=by
 have fy:=Nn p.f0.f0.f0 _ _ h.x1 h.x2;have hl2:=Nn p.f1.f0.f0 _ _ h.y1 h.y2;have Lu:=ZQ (k+2) (pX p) (pY p) (by have:=h.x1;omega) (by have:=h.x2;omega) (by have:=h.y1;omega) (by have:=h.y2;omega);have yQ:uz.f (k+4) p.f0.f0.f0 p.f0.f0.f1 p.f0.f1 p.f1.f0.f0 p.f1.f0.f1 p.f1.f1=some (iD (pX p) (pY p)):=by
  unfold uz.f;rw[show xB.f (k+4) p.f0.f0.f0 p.f0.f0.f1 p.f0.f1 p.f1.f0.f0 p.f1.f0.f1 p.f1.f1=_ from Lu];rfl
 unfold pX at fy;unfold pY at hl2;dsimp only at fy hl2;obtain⟨Y,hY⟩:∃ Y:List PT,[p]=Y:=⟨_,rfl⟩
 have hlen:(Y.length:Int)=1:=by rw[← hY];rfl
 have h0:au Y 0=p:=by rw[← hY];rfl
 unfold jN.f;rw[hY,jN.l0,hlen,if_pos (by decide),if_pos (by decide),h0,fy,Option.bind_some,if_neg (by decide),hl2,Option.bind_some,jN.j1,if_neg (by decide),hlen,if_pos (by decide),if_pos (by decide),h0,yQ,Option.bind_some];by_cases e:iD (pX p) (pY p)=0
 ·rw[if_pos e,e,OP,jN.l0,hlen,if_neg (by decide)]
 ·rw[if_neg e]
def WN (a b c p:PT):Int:=mn (mn (wrap64 (ue a b c*ue a b p)) (wrap64 (ue a b c*ue b c p))) (wrap64 (ue a b c*ue c a p))
theorem agN (k:Nat) {a b c p:PT} (ha:k9 a) (hb:k9 b) (hc:k9 c) (hp:k9 p) :
  pz.f (k+1) a.f0.f0.f0 a.f0.f0.f1 a.f0.f1 a.f1.f0.f0 a.f1.f0.f1 a.f1.f1 b.f0.f0.f0 b.f0.f0.f1 b.f0.f1 b.f1.f0.f0 b.f1.f0.f1 b.f1.f1 c.f0.f0.f0 c.f0.f0.f1 c.f0.f1 c.f1.f0.f0 c.f1.f0.f1 c.f1.f1 p.f0.f0.f0 p.f0.f0.f1 p.f0.f1 p.f1.f0.f0 p.f1.f0.f1 p.f1.f1=some (WN a b c p):=by
 unfold pz.f;rw[Jq k ha hb hc,Option.bind_some,Jq k ha hb hp,Option.bind_some,Jq k hb hc hp,Option.bind_some,Jq k hc ha hp,Option.bind_some];rfl
theorem agO (k:Nat) {a b c p:PT} (ha:k9 a) (hb:k9 b) (hc:k9 c) (hp:yF p) (h0:ue a b c≠0) :
  pG.f (k+35) a.f0.f0.f0 a.f0.f0.f1 a.f0.f1 a.f1.f0.f0 a.f1.f0.f1 a.f1.f1 b.f0.f0.f0 b.f0.f0.f1 b.f0.f1 b.f1.f0.f0 b.f1.f0.f1 b.f1.f1 c.f0.f0.f0 c.f0.f0.f1 c.f0.f1 c.f1.f0.f0 c.f1.f0.f1 c.f1.f1 p.f0.f0.f0 p.f0.f0.f1 p.f0.f1 p.f1.f0.f0 p.f1.f0.f1 p.f1.f1=some (if iD (pX p) (pY p)=0 then (WN a b c p,0) else (0,iD (pX p) (pY p))):=by
 have h:ep.f (k+35) [a,b,c,p]=some (iD (pX p) (pY p)):=by
  unfold ep.f;have e0:=LS (k+24) 0 [a,b,c,p] a rfl (by simp) (by omega) ha.sh;have e1:=LS (k+18) 1 [a,b,c,p] b rfl (by simp) (by omega) hb.sh;have e2:=LS (k+12) 2 [a,b,c,p] c rfl (by simp) (by omega) hc.sh;have e3:=LS (k+6) 3 [a,b,c,p] p rfl (by simp) (by omega) hp;rw[if_pos (Sr ha)]at e0
  rw[if_pos (Sr hb)]at e1
  rw[if_pos (Sr hc)]at e2
  refine e0.trans (e1.trans (e2.trans (e3.trans ?_)));split
  ·rename_i e
   rw[e,ep.l0];exact if_neg (show ¬ (((3+1:Nat):Int)<((4:Nat):Int)) by decide)
  ·rfl
 unfold pG.f;rw[show([⟨⟨⟨a.f0.f0.f0,a.f0.f0.f1⟩,a.f0.f1⟩,⟨⟨a.f1.f0.f0,a.f1.f0.f1⟩,a.f1.f1⟩⟩,⟨⟨⟨b.f0.f0.f0,b.f0.f0.f1⟩,b.f0.f1⟩,⟨⟨b.f1.f0.f0,b.f1.f0.f1⟩,b.f1.f1⟩⟩,⟨⟨⟨c.f0.f0.f0,c.f0.f0.f1⟩,c.f0.f1⟩,⟨⟨c.f1.f0.f0,c.f1.f0.f1⟩,c.f1.f1⟩⟩,⟨⟨⟨p.f0.f0.f0,p.f0.f0.f1⟩,p.f0.f1⟩,⟨⟨p.f1.f0.f0,p.f1.f0.f1⟩,p.f1.f1⟩⟩]:List PT)=[a,b,c,p] from rfl,h,Option.bind_some];by_cases e:iD (pX p) (pY p)=0
 ·have ok:=XE e hp
  rw[if_pos e,if_pos e,JT (k+27) ha hb hc,Option.bind_some,if_neg h0,JT (k+27) ha hb ok,Option.bind_some,JT (k+27) hb hc ok,Option.bind_some,JT (k+27) hc ha ok,Option.bind_some];rfl
 ·rw[if_neg e,if_neg e]
end Go.Proofs.YtfcjnhkkfmgmpaaGreat
