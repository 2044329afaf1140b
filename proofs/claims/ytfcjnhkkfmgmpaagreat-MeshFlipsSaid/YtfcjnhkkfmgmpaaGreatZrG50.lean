import Derived.Test.YtfcjnhkkfmgmpaaGreatZrG49
import Derived.Test.YtfcjnhkkfmgmpaaGreatZrG46
set_option linter.all false
set_option maxRecDepth 100000
set_option maxHeartbeats 8000000
namespace Go.Proofs.YtfcjnhkkfmgmpaaGreat
open Go.RowKit Num Go.Proofs.YtfcjnhkkfmgmpaaGreatH.R Go.Proofs.YtfcjnhkkfmgmpaaGreatW.PrintWords
abbrev PT:=S42
abbrev RT:=S40
def pX (p:PT):RG:=(p.f0.f0.f0,p.f0.f0.f1,p.f0.f1)
def pY (p:PT):RG:=(p.f1.f0.f0,p.f1.f0.f1,p.f1.f1)
structure okN (n:Nat) (a:RG):Prop where
 o:okR a
 s1:a.2.1.size≤n
 s2:a.2.2.size≤n
structure okP (p:PT):Prop where
 x:okN 40 (pX p)
 y:okN 40 (pY p)
theorem okN.mono {n m:Nat} {a:RG} (h:okN n a) (hm:n≤m):okN m a:=⟨h.o,Nat.le_trans h.s1 hm,Nat.le_trans h.s2 hm⟩
theorem okN_sub {n:Nat} {a b:RG} (ha:okN n a) (hb:okN n b) (hn:n≤400):okN (n+n+1) (pq (rq a-rq b)):=by
 have h:=subsz ha.o hb.o ha.s1 ha.s2 hb.s1 hb.s2;exact⟨okR_pq (by omega) (by omega),h.1,by omega⟩
theorem okN_mul {n:Nat} {a b:RG} (ha:okN n a) (hb:okN n b) (hn:n≤400):okN (n+n) (pq (rq a*rq b)):=by
 have h:=mulsz ha.o hb.o ha.s1 ha.s2 hb.s1 hb.s2;exact⟨okR_pq (by omega) (by omega),h.1,h.2⟩
def oriQ (a b c:PT):Int:=cmpQ ((rq (pX b)-rq (pX a))*(rq (pY c)-rq (pY a))-(rq (pY b)-rq (pY a))*(rq (pX c)-rq (pX a))) 0
theorem minus3 (k:Nat) {a b c d:RG} (ha:okN 400 a) (hb:okN 400 b) (hc:okN 400 c) (hd:okN 400 d) :
  gussetref04_Minus.f (k+1) a.1 a.2.1 a.2.2 b.1 b.2.1 b.2.2 c.1 c.2.1 c.2.2 d.1 d.2.1 d.2.2=some ((pq (rq a-rq c)).1,(pq (rq a-rq c)).2.1,(pq (rq a-rq c)).2.2,(pq (rq b-rq d)).1,(pq (rq b-rq d)).2.1,(pq (rq b-rq d)).2.2):=by
 unfold gussetref04_Minus.f;rw[less3_p k a c ha.o hc.o ha.s1 ha.s2 hc.s1 hc.s2,Option.bind_some,less3_p k b d hb.o hd.o hb.s1 hb.s2 hd.s1 hd.s2,Option.bind_some]
theorem cross3 (k:Nat) {a b c d:RG} (ha:okN 200 a) (hb:okN 200 b) (hc:okN 200 c) (hd:okN 200 d) :
  gussetref04_Cross.f (k+1) a.1 a.2.1 a.2.2 b.1 b.2.1 b.2.2 c.1 c.2.1 c.2.2 d.1 d.2.1 d.2.2=some (pq (rq a*rq d-rq b*rq c)):=by
 unfold gussetref04_Cross.f;have m1:=okN_mul ha hd (by omega);have m2:=okN_mul hb hc (by omega)
 rw[times3_p k a d ha.o hd.o (by have:=ha.s1;omega) (by have:=ha.s2;omega) (by have:=hd.s1;omega) (by have:=hd.s2;omega),Option.bind_some,times3_p k b c hb.o hc.o (by have:=hb.s1;omega) (by have:=hb.s2;omega) (by have:=hc.s1;omega) (by have:=hc.s2;omega),Option.bind_some,
  less3_p k _ _ m1.o m2.o m1.s1 m1.s2 m2.s1 m2.s2,Option.bind_some,rq_pq,rq_pq]
theorem orient3 (k:Nat) {a b c:PT} (ha:okP a) (hb:okP b) (hc:okP c) :
  gussetref05_Orient.f (k+1) a.f0.f0.f0 a.f0.f0.f1 a.f0.f1 a.f1.f0.f0 a.f1.f0.f1 a.f1.f1 b.f0.f0.f0 b.f0.f0.f1 b.f0.f1 b.f1.f0.f0 b.f1.f0.f1 b.f1.f1 c.f0.f0.f0 c.f0.f0.f1 c.f0.f1 c.f1.f0.f0 c.f1.f0.f1 c.f1.f1=some (oriQ a b c):=by
 have xb:=okN_sub hb.x ha.x (by omega);have yb:=okN_sub hb.y ha.y (by omega);have xc:=okN_sub hc.x ha.x (by omega);have yc:=okN_sub hc.y ha.y (by omega);have m1:=minus3 k (hb.x.mono (m:=400) (by omega)) (hb.y.mono (by omega)) (ha.x.mono (by omega)) (ha.y.mono (by omega));have m2:=minus3 k (hc.x.mono (m:=400) (by omega)) (hc.y.mono (by omega)) (ha.x.mono (by omega)) (ha.y.mono (by omega));have cr:=cross3 k (xb.mono (m:=200) (by omega)) (yb.mono (by omega)) (xc.mono (by omega)) (yc.mono (by omega));have m3:=okN_mul xb yc (by omega);have m4:=okN_mul yb xc (by omega);have s:=okN_sub (m3.mono (m:=200) (by omega)) (m4.mono (by omega)) (by omega);simp only[rq_pq]at cr s;unfold gussetref05_Orient.f
 rw[show gussetref04_Minus.f (k+1) b.f0.f0.f0 b.f0.f0.f1 b.f0.f1 b.f1.f0.f0 b.f1.f0.f1 b.f1.f1 a.f0.f0.f0 a.f0.f0.f1 a.f0.f1 a.f1.f0.f0 a.f1.f0.f1 a.f1.f1=_ from m1,Option.bind_some,
  show gussetref04_Minus.f (k+1) c.f0.f0.f0 c.f0.f0.f1 c.f0.f1 c.f1.f0.f0 c.f1.f0.f1 c.f1.f1 a.f0.f0.f0 a.f0.f0.f1 a.f0.f1 a.f1.f0.f0 a.f1.f0.f1 a.f1.f1=_ from m2,Option.bind_some]
 dsimp only;rw[cr,Option.bind_some,sign3_q s.o,Option.bind_some,rq_pq];rfl
theorem numbers_p:∀ (n i K:Nat) (l:List RT),l.length=i+n→n+3≤K→i+n≤1000→(∀ j,j<l.length→okN 400 ((rd_T40 l (j:Int)).f0.f0,(rd_T40 l (j:Int)).f0.f1,(rd_T40 l (j:Int)).f1))→vec_numbers.l0 K l (l.length:Int) (i:Int)=some 0:=by
 intro n;induction n with
 | zero =>
  intro i K l hl hK hb ho;obtain⟨k,rfl⟩:∃ k,K=k+1:=⟨K-1,by omega⟩
  rw[vec_numbers.l0,if_neg (by omega)]
 | succ n ih =>
  intro i K l hl hK hb ho;obtain⟨k,rfl⟩:∃ k,K=k+2+1:=⟨K-3,by omega⟩
  have h:=ho i (by omega);have hc:=check_p k _ (show((rd_T40 l (i:Int)).f0.f0,(rd_T40 l (i:Int)).f0.f1,(rd_T40 l (i:Int)).f1).2.1.size≤15000 by have:=h.s1;omega) (by have:=h.s2;omega);rw[vec_numbers.l0,if_pos (by omega),if_pos (by omega),if_pos (by omega)];dsimp only at hc;rw[hc,chkR_ok.2 h.o,Option.bind_some,if_pos rfl,wrN (by omega)];exact ih (i+1) (k+2) l (by omega) (by omega) (by omega) ho
theorem num2 (k:Nat) {a b:RG} (ha:okN 400 a) (hb:okN 400 b):vec_numbers.f (k+5) [⟨⟨a.1,a.2.1⟩,a.2.2⟩,⟨⟨b.1,b.2.1⟩,b.2.2⟩]=some 0 :=
 numbers_p 2 0 (k+5) _ rfl (by omega) (by omega) (fun j hj=>by
  have:j=0∨j=1:=by simp at hj;omega
  rcases this with rfl|rfl
  ·exact ha
  ·exact hb)
theorem num4 (k:Nat) {a b c d:RG} (ha:okN 400 a) (hb:okN 400 b) (hc:okN 400 c) (hd:okN 400 d):vec_numbers.f (k+7) [⟨⟨a.1,a.2.1⟩,a.2.2⟩,⟨⟨b.1,b.2.1⟩,b.2.2⟩,⟨⟨c.1,c.2.1⟩,c.2.2⟩,⟨⟨d.1,d.2.1⟩,d.2.2⟩]=some 0 :=
 numbers_p 4 0 (k+7) _ rfl (by omega) (by omega) (fun j hj=>by
  have:j=0∨j=1∨j=2∨j=3:=by simp at hj;omega
  rcases this with rfl|rfl|rfl|rfl
  ·exact ha
  ·exact hb
  ·exact hc
  ·exact hd)
theorem vcheck (k:Nat) {a b:RG} (ha:okN 400 a) (hb:okN 400 b):vec_Check.f (k+5) a.1 a.2.1 a.2.2 b.1 b.2.1 b.2.2=some 0:=by
 unfold vec_Check.f;rw[num2 k ha hb];rfl
theorem points_p:∀ (n i K:Nat) (l:List PT),l.length=i+n→n+6≤K→i+n≤1000→(∀ j,j<l.length→okN 400 (pX (rd_T42 l (j:Int)))∧okN 400 (pY (rd_T42 l (j:Int))))→vec_points.l0 K l (l.length:Int) (i:Int)=some 0:=by
 intro n;induction n with
 | zero =>
  intro i K l hl hK hb ho;obtain⟨k,rfl⟩:∃ k,K=k+1:=⟨K-1,by omega⟩
  rw[vec_points.l0,if_neg (by omega)]
 | succ n ih =>
  intro i K l hl hK hb ho;obtain⟨k,rfl⟩:∃ k,K=k+5+1:=⟨K-6,by omega⟩
  have h:=ho i (by omega);have hc:=vcheck k h.1 h.2;unfold pX pY at hc;rw[vec_points.l0,if_pos (by omega),if_pos (by omega),if_pos (by omega)];dsimp only at hc;rw[hc,Option.bind_some,if_pos rfl,wrN (by omega)];exact ih (i+1) (k+5) l (by omega) (by omega) (by omega) ho
theorem pts2 (k:Nat) {a b c d:RG} (ha:okN 400 a) (hb:okN 400 b) (hc:okN 400 c) (hd:okN 400 d):vec_points.f (k+8) [⟨⟨⟨a.1,a.2.1⟩,a.2.2⟩,⟨⟨b.1,b.2.1⟩,b.2.2⟩⟩,⟨⟨⟨c.1,c.2.1⟩,c.2.2⟩,⟨⟨d.1,d.2.1⟩,d.2.2⟩⟩]=some 0 :=
 points_p 2 0 (k+8) _ rfl (by omega) (by omega) (fun j hj=>by
  have:j=0∨j=1:=by simp at hj;omega
  rcases this with rfl|rfl
  ·exact⟨ha,hb⟩
  ·exact⟨hc,hd⟩)
theorem opsub (k:Nat) {a b:RG} (ha:okN 400 a) (hb:okN 400 b):vec_op_of_of_rat_Sub.f (k+2) a.1 a.2.1 a.2.2 b.1 b.2.1 b.2.2=some (pq (rq a-rq b)):=by
 obtain⟨r,hr,h1,-⟩:=sub_any k a b (by have:=ha.s1;omega) (by have:=ha.s2;omega) (by have:=hb.s1;omega) (by have:=hb.s2;omega);unfold vec_op_of_of_rat_Sub.f;rw[hr,← h1 (badR_ok.2 ⟨ha.o,hb.o⟩)];rfl
theorem opmul (k:Nat) {a b:RG} (ha:okN 400 a) (hb:okN 400 b):vec_op_of_of_rat_Mul.f (k+2) a.1 a.2.1 a.2.2 b.1 b.2.1 b.2.2=some (pq (rq a*rq b)):=by
 obtain⟨r,hr,h1,-⟩:=mul_any k a b (by have:=ha.s1;omega) (by have:=ha.s2;omega) (by have:=hb.s1;omega) (by have:=hb.s2;omega);unfold vec_op_of_of_rat_Mul.f;rw[hr,← h1 (badR_ok.2 ⟨ha.o,hb.o⟩)];rfl
theorem gminus (k:Nat) {a b c d:RG} (ha:okN 400 a) (hb:okN 400 b) (hc:okN 400 c) (hd:okN 400 d) :
  geom_minus.f (k+8) a.1 a.2.1 a.2.2 b.1 b.2.1 b.2.2 c.1 c.2.1 c.2.2 d.1 d.2.1 d.2.2=some ((pq (rq a-rq c)).1,(pq (rq a-rq c)).2.1,(pq (rq a-rq c)).2.2,(pq (rq b-rq d)).1,(pq (rq b-rq d)).2.1,(pq (rq b-rq d)).2.2):=by
 unfold geom_minus.f vec_Minus.f vec_each_of_rat_Sub.f;rw[pts2 k ha hb hc hd,Option.bind_some,if_pos rfl,opsub (k+6) ha hc,Option.bind_some,opsub (k+6) hb hd,Option.bind_some];rfl
theorem gcross (k:Nat) {a b c d:RG} (ha:okN 200 a) (hb:okN 200 b) (hc:okN 200 c) (hd:okN 200 d) :
  geom_cross.f (k+8) a.1 a.2.1 a.2.2 b.1 b.2.1 b.2.2 c.1 c.2.1 c.2.2 d.1 d.2.1 d.2.2=some (pq (rq a*rq d-rq b*rq c)):=by
 have a4:=ha.mono (m:=400) (by omega);have b4:=hb.mono (m:=400) (by omega);have c4:=hc.mono (m:=400) (by omega);have d4:=hd.mono (m:=400) (by omega);have m1:=okN_mul ha hd (by omega);have m2:=okN_mul hb hc (by omega);unfold geom_cross.f vec_Cross.f vec_pair_of_rat_Sub.f;rw[pts2 k a4 b4 c4 d4,Option.bind_some,if_pos rfl,num4 (k+1) a4 b4 d4 c4,Option.bind_some,if_pos rfl,opmul (k+6) a4 d4,Option.bind_some,opmul (k+6) b4 c4,Option.bind_some,opsub (k+6) m1 m2,Option.bind_some,rq_pq,rq_pq];rfl
theorem gsign (k:Nat) {a:RG} (ha:okN 1000 a):geom_sign.f (k+2) a.1 a.2.1 a.2.2=some (cmpQ (rq a) 0):=by
 obtain⟨s,hs,he⟩:=sign_any k a (by have:=ha.s1;omega) (by have:=ha.s2;omega);unfold geom_sign.f;rw[hs,← he (chkR_ok.2 ha.o)];rfl
theorem gturn (k:Nat) {a b c:PT} (ha:okP a) (hb:okP b) (hc:okP c) :
  geom_turn.f (k+8) a.f0.f0.f0 a.f0.f0.f1 a.f0.f1 a.f1.f0.f0 a.f1.f0.f1 a.f1.f1 b.f0.f0.f0 b.f0.f0.f1 b.f0.f1 b.f1.f0.f0 b.f1.f0.f1 b.f1.f1 c.f0.f0.f0 c.f0.f0.f1 c.f0.f1 c.f1.f0.f0 c.f1.f0.f1 c.f1.f1=some (oriQ a b c):=by
 have xb:=okN_sub hb.x ha.x (by omega);have yb:=okN_sub hb.y ha.y (by omega);have xc:=okN_sub hc.x ha.x (by omega);have yc:=okN_sub hc.y ha.y (by omega);have m1:=gminus k (hb.x.mono (m:=400) (by omega)) (hb.y.mono (by omega)) (ha.x.mono (by omega)) (ha.y.mono (by omega));have m2:=gminus k (hc.x.mono (m:=400) (by omega)) (hc.y.mono (by omega)) (ha.x.mono (by omega)) (ha.y.mono (by omega));have cr:=gcross k (xb.mono (m:=200) (by omega)) (yb.mono (by omega)) (xc.mono (by omega)) (yc.mono (by omega));have m3:=okN_mul xb yc (by omega);have m4:=okN_mul yb xc (by omega);have s:=okN_sub (m3.mono (m:=200) (by omega)) (m4.mono (by omega)) (by omega);simp only[rq_pq]at cr s;unfold geom_turn.f
 rw[show geom_minus.f (k+8) b.f0.f0.f0 b.f0.f0.f1 b.f0.f1 b.f1.f0.f0 b.f1.f0.f1 b.f1.f1 a.f0.f0.f0 a.f0.f0.f1 a.f0.f1 a.f1.f0.f0 a.f1.f0.f1 a.f1.f1=_ from m1,Option.bind_some,
  show geom_minus.f (k+8) c.f0.f0.f0 c.f0.f0.f1 c.f0.f1 c.f1.f0.f0 c.f1.f0.f1 c.f1.f1 a.f0.f0.f0 a.f0.f0.f1 a.f0.f1 a.f1.f0.f0 a.f1.f0.f1 a.f1.f1=_ from m2,Option.bind_some]
 dsimp only;rw[cr,Option.bind_some,gsign (k+6) (s.mono (by omega)),Option.bind_some,rq_pq];rfl
theorem asked_p:∀ (n i K:Nat) (l:List PT),l.length=i+n→6*n+8≤K→i+n≤1000→(∀ j,j<l.length→okP (rd_T42 l (j:Int)))→geom_asked.l0 K l (l.length:Int) (i:Int)=some 0:=by
 intro n;induction n with
 | zero =>
  intro i K l hl hK hb ho;obtain⟨k,rfl⟩:∃ k,K=k+1:=⟨K-1,by omega⟩
  rw[geom_asked.l0,if_neg (by omega)]
 | succ n ih =>
  intro i K l hl hK hb ho;obtain⟨k,rfl⟩:∃ k,K=k+5+1+1+1+1+1+1:=⟨K-11,by omega⟩
  have h:=ho i (by omega);have hc:=vcheck k (h.x.mono (m:=400) (by omega)) (h.y.mono (by omega));have x1:=h.x.s1;have x2:=h.x.s2;have y1:=h.y.s1;have y2:=h.y.s2;unfold pX at x1 x2 hc;unfold pY at y1 y2 hc;dsimp only at x1 x2 y1 y2 hc;have nx1:¬ (((rd_T42 l (i:Int)).f0.f0.f1.size:Int) > 100):=by omega
  have nx2:¬ (((rd_T42 l (i:Int)).f0.f1.size:Int) > 100):=by omega
  have ny1:¬ (((rd_T42 l (i:Int)).f1.f0.f1.size:Int) > 100):=by omega
  have ny2:¬ (((rd_T42 l (i:Int)).f1.f1.size:Int) > 100):=by omega
  generalize hp:rd_T42 l (i:Int)=p at *;rw[geom_asked.l0,if_pos (by omega),if_pos (by omega),if_pos (by omega),Option.bind_some];rw[hp];obtain⟨Y,hY⟩:∃ Y:List RT,[⟨⟨p.f0.f0.f0,p.f0.f0.f1⟩,p.f0.f1⟩,⟨⟨p.f1.f0.f0,p.f1.f0.f1⟩,p.f1.f1⟩]=Y:=⟨_,rfl⟩
  have hlen:(Y.length:Int)=2:=by rw[← hY];rfl
  have h0:rd_T40 Y 0=⟨⟨p.f0.f0.f0,p.f0.f0.f1⟩,p.f0.f1⟩:=by rw[← hY];rfl
  have h1:rd_T40 Y 1=⟨⟨p.f1.f0.f0,p.f1.f0.f1⟩,p.f1.f1⟩:=by rw[← hY];rfl
  rw[hY,hlen];rw[geom_asked.l1,hlen,if_pos (by decide),if_pos (by decide),if_pos (by decide),h0,if_neg nx1,decide_eq_false nx2,geom_asked.j2,if_neg (by decide),wz01];rw[geom_asked.l1,hlen,if_pos (by decide),if_pos (by decide),if_pos (by decide),h1,if_neg ny1,decide_eq_false ny2,geom_asked.j2,if_neg (by decide),wz12];rw[geom_asked.l1,if_neg (by decide),hc,Option.bind_some,if_pos rfl,wrN (by omega)];exact ih (i+1) (k+5) l (by omega) (by omega) (by omega) ho
theorem gorient (k:Nat) {a b c:PT} (ha:okP a) (hb:okP b) (hc:okP c) :
  geom_Orient.f (k+26) a.f0.f0.f0 a.f0.f0.f1 a.f0.f1 a.f1.f0.f0 a.f1.f0.f1 a.f1.f1 b.f0.f0.f0 b.f0.f0.f1 b.f0.f1 b.f1.f0.f0 b.f1.f0.f1 b.f1.f1 c.f0.f0.f0 c.f0.f0.f1 c.f0.f1 c.f1.f0.f0 c.f1.f0.f1 c.f1.f1=some (oriQ a b c,0):=by
 have h:geom_asked.f (k+26) [a,b,c]=some 0:=asked_p 3 0 (k+26) _ rfl (by omega) (by omega) (fun j hj=>by
  have:j=0∨j=1∨j=2:=by simp at hj;omega
  rcases this with rfl|rfl|rfl
  ·exact ha
  ·exact hb
  ·exact hc)
 unfold geom_Orient.f;rw[show([⟨⟨⟨a.f0.f0.f0,a.f0.f0.f1⟩,a.f0.f1⟩,⟨⟨a.f1.f0.f0,a.f1.f0.f1⟩,a.f1.f1⟩⟩,⟨⟨⟨b.f0.f0.f0,b.f0.f0.f1⟩,b.f0.f1⟩,⟨⟨b.f1.f0.f0,b.f1.f0.f1⟩,b.f1.f1⟩⟩,⟨⟨⟨c.f0.f0.f0,c.f0.f0.f1⟩,c.f0.f1⟩,⟨⟨c.f1.f0.f0,c.f1.f0.f1⟩,c.f1.f1⟩⟩]:List PT)=[a,b,c] from rfl,h,Option.bind_some,if_pos rfl,gturn (k+18) ha hb hc,Option.bind_some]
theorem masked_p:∀ (n i K:Nat) (l:List PT),l.length=i+n→n+27≤K→i+n≤1000→(∀ j,j<l.length→okP (rd_T42 l (j:Int)))→mesh_asked.l0 K l (l.length:Int) (i:Int)=some 0:=by
 intro n;induction n with
 | zero =>
  intro i K l hl hK hb ho;obtain⟨k,rfl⟩:∃ k,K=k+1:=⟨K-1,by omega⟩
  rw[mesh_asked.l0,if_neg (by omega)]
 | succ n ih =>
  intro i K l hl hK hb ho;obtain⟨k,rfl⟩:∃ k,K=k+26+1:=⟨K-27,by omega⟩
  have h:=ho i (by omega);rw[mesh_asked.l0,if_pos (by omega),if_pos (by omega),if_pos (by omega),gorient k h h h,Option.bind_some,if_pos rfl,wrN (by omega)];exact ih (i+1) (k+26) l (by omega) (by omega) (by omega) ho
def oriP (ps:PS) (i j k:Nat):Int:=oriQ (ptAt ps i) (ptAt ps j) (ptAt ps k)
def okPs (ps:PS):Prop:=∀ j,j<ps.length→okP (ptAt ps j)
theorem masked_f {ps:PS} (h:okPs ps) (hl:ps.length≤1000) (K:Nat) (hK:ps.length+27≤K):mesh_asked.f K ps=some 0:=masked_p ps.length 0 K ps (by omega) hK (by omega) h
theorem orP {ps:PS} (h:okPs ps) (K:Nat) (hK:26≤K):OrP K ps (oriP ps):=by
 obtain⟨k,rfl⟩:∃ k,K=k+26:=⟨K-26,by omega⟩
 exact fun i j l hi hj hl=>gorient k (h i hi) (h j hj) (h l hl)
theorem orO {ps:PS} (h:okPs ps) (K:Nat) (hK:1≤K):OrO K ps (oriP ps):=by
 obtain⟨k,rfl⟩:∃ k,K=k+1:=⟨K-1,by omega⟩
 exact fun i j l hi hj hl=>orient3 k (h i hi) (h j hj) (h l hl)
theorem ori_ne (ps:PS) (i j k:Nat) (h:0<oriP ps i j k):i≠j∧j≠k∧k≠i:=by
 unfold oriP oriQ cmpQ at h;refine⟨?_,?_,?_⟩
 all_goals
  rintro rfl;split at h
  ·omega
  ·split at h
   ·rename_i h1 h2
    revert h2
    intro h2;refine absurd h2 (Rat.not_lt.2 ?_);grind
   ·omega
theorem sh_sizes {ps:PS} {j:Nat} (h:shP ps j=true):(pX (ptAt ps j)).2.1.size≤40∧(pX (ptAt ps j)).2.2.size≤40∧(pY (ptAt ps j)).2.1.size≤40∧(pY (ptAt ps j)).2.2.size≤40:=by
 unfold shP shB at h;simp only[Bool.and_eq_true,decide_eq_true_eq]at h;unfold pX pY;dsimp only;omega
theorem long_p (b:Bool) (x y:ByteArray) (hx:x.size≤40) (hy:y.size≤40):gussetref05_long.f b x y=some false:=by
 unfold gussetref05_long.f;rw[if_neg (by omega),decide_eq_false (by omega)]
theorem rasked_p:∀ (n i K:Nat) (ps:PS),ps.length=i+n→2*n+4≤K→i+n≤1000→(∀ j,j<ps.length→shP ps j=true)→∃ r,gussetref05_Asked.l0 K ps (i:Int)=some r∧(r=0→∀ j,i≤j→j<ps.length→okP (ptAt ps j)):=by
 intro n;induction n with
 | zero =>
  intro i K ps hl hK hb hs;obtain⟨k,rfl⟩:∃ k,K=k+1:=⟨K-1,by omega⟩
  exact⟨0,by rw[gussetref05_Asked.l0,if_neg (by omega)],fun _ j h1 h2=>by omega⟩
 | succ n ih =>
  intro i K ps hl hK hb hs;obtain⟨k,rfl⟩:∃ k,K=k+2+1+1:=⟨K-4,by omega⟩
  obtain⟨s1,s2,s3,s4⟩:=sh_sizes (hs i (by omega));have hl1:=long_p (ptAt ps i).f0.f0.f0 _ _ s1 s2;have hl2:=long_p (ptAt ps i).f1.f0.f0 _ _ s3 s4;have hbo:=both3_p k (pX (ptAt ps i)) (pY (ptAt ps i)) (by omega) (by omega) (by omega) (by omega);have hck:gussetref04_Check.f (k+2) (ptAt ps i).f0.f0.f0 (ptAt ps i).f0.f0.f1 (ptAt ps i).f0.f1 (ptAt ps i).f1.f0.f0 (ptAt ps i).f1.f0.f1 (ptAt ps i).f1.f1=some (badR (pX (ptAt ps i)) (pY (ptAt ps i))):=by
   unfold gussetref04_Check.f;rw[show gussetref03_Both.f (k+2) (ptAt ps i).f0.f0.f0 (ptAt ps i).f0.f0.f1 (ptAt ps i).f0.f1 (ptAt ps i).f1.f0.f0 (ptAt ps i).f1.f0.f1 (ptAt ps i).f1.f1=_ from hbo];rfl
  unfold pX at hl1;unfold pY at hl2;dsimp only at hl1 hl2;rw[gussetref05_Asked.l0,if_pos (by omega),if_pos (by omega)]
  rw[show gussetref05_long.f (rd_T42 ps (i:Int)).f0.f0.f0 (rd_T42 ps (i:Int)).f0.f0.f1 (rd_T42 ps (i:Int)).f0.f1=some false from hl1,Option.bind_some,if_neg (by decide),
   show gussetref05_long.f (rd_T42 ps (i:Int)).f1.f0.f0 (rd_T42 ps (i:Int)).f1.f0.f1 (rd_T42 ps (i:Int)).f1.f1=some false from hl2,Option.bind_some,
   gussetref05_Asked.j1,if_neg (by decide),if_pos (by omega),if_pos (by omega)]
  rw[show gussetref04_Check.f (k+2) (rd_T42 ps (i:Int)).f0.f0.f0 (rd_T42 ps (i:Int)).f0.f0.f1 (rd_T42 ps (i:Int)).f0.f1 (rd_T42 ps (i:Int)).f1.f0.f0 (rd_T42 ps (i:Int)).f1.f0.f1 (rd_T42 ps (i:Int)).f1.f1=_ from hck,Option.bind_some];by_cases h0:badR (pX (ptAt ps i)) (pY (ptAt ps i))=0
  ·rw[if_pos h0,wrN (by omega)]
   obtain⟨r,hr,hok⟩:=ih (i+1) (k+2) ps (by omega) (by omega) (by omega) hs;refine⟨r,hr,fun e j h1 h2=>?_⟩;rcases Nat.eq_or_lt_of_le h1 with h|h
   ·subst h
    obtain⟨ox,oy⟩:=badR_ok.1 h0;exact⟨⟨ox,s1,s2⟩,⟨oy,s3,s4⟩⟩
   ·exact hok e j h h2
  ·rw[if_neg h0]
   exact⟨_,rfl,fun e=>absurd e h0⟩
theorem rasked_f {ps:PS} (hs:∀ j,j<ps.length→shP ps j=true) (hl:ps.length≤1000) (K:Nat) (hK:2*ps.length+4≤K):∃ r,gussetref05_Asked.f K ps=some r∧(r=0→okPs ps):=by
 obtain⟨r,hr,h⟩:=rasked_p ps.length 0 K ps (by omega) hK (by omega) hs;exact⟨r,hr,fun e j hj=>h e j (Nat.zero_le _) hj⟩
end Go.Proofs.YtfcjnhkkfmgmpaaGreat
