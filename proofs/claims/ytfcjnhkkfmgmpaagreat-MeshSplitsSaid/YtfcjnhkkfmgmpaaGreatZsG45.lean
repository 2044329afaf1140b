import Derived.Test.YtfcjnhkkfmgmpaaGreatZsG22
set_option linter.all false
set_option maxRecDepth 100000
set_option maxHeartbeats 8000000
namespace Go.Proofs.YtfcjnhkkfmgmpaaGreat
open Go.RowKit aR Go.Proofs.aC.R Go.Proofs.aD.bf
theorem aqc {n:Bool} {s:ByteArray}:uC.f n s=some (gN n s):=rfl
theorem ad7 {a b:Bool × ByteArray} (ha:fZ a.1 a.2) (hb:fZ b.1 b.2) (h1:a.2.size≤15000) (h2:b.2.size≤15000) :
  rj.f a.1 a.2 b.1 b.2=some (false,(pv ((Int.gcd (ival a.1 a.2) (ival b.1 b.2):Nat):Int)).2,0):=by
 unfold rj.f AJ;rw[if_pos ⟨h1,h2⟩,if_neg (fun hc=>hc (Cm.2 ⟨ha,hb⟩)),Rn (by omega)]
theorem ad8 {a b:Bool × ByteArray} (ha:fZ a.1 a.2) (hb:fZ b.1 b.2) (h1:a.2.size≤15000) (h2:b.2.size≤15000) (h0:ival b.1 b.2≠0) :
  xF.f a.1 a.2 b.1 b.2=some ((pv (ival a.1 a.2 / ival b.1 b.2)).1,(pv (ival a.1 a.2 / ival b.1 b.2)).2,(pv (ival a.1 a.2%ival b.1 b.2)).1,(pv (ival a.1 a.2%ival b.1 b.2)).2,0):=by
 unfold xF.f tW;have h3:¬ nv b.2=0:=fun hc=>h0 (by unfold ival bl;split <;> omega);simp only[if_pos (And.intro h1 h2),if_neg (fun hc=>hc (Cm.2 ⟨ha,hb⟩):¬ iy a.1 a.2 b.1 b.2≠0),if_neg h3]
theorem ad9 {f:Int→Int→Int} {a b:Bool × ByteArray} (ha:fZ a.1 a.2) (hb:fZ b.1 b.2):oV f a b=(pv (f (ival a.1 a.2) (ival b.1 b.2)),0):=aha (Cm.2 ⟨ha,hb⟩)
theorem aqd {a b:Bool × ByteArray} (ha:fZ a.1 a.2) (hb:fZ b.1 b.2) (h1:a.2.size≤15000) (h2:b.2.size≤15000) :
  ow.f a.1 a.2 b.1 b.2=some ((pv (ival a.1 a.2*ival b.1 b.2)).1,(pv (ival a.1 a.2*ival b.1 b.2)).2):=by
 unfold ow.f E7.f;rw[if_pos ⟨h1,h2⟩,ad9 ha hb];rfl
theorem FL (k:Nat) (a:RG) (h1:a.2.1.size≤15000) (h2:a.2.2.size≤15000):eY.f (k+2) a.1 a.2.1 a.2.2=some (pM a):=by
 obtain⟨a0,a1,a2⟩:=a;simp only at h1 h2;unfold eY.f pM;simp only;by_cases c1:8000<a1.size
 ·rw[if_pos (by omega),if_pos (.inl c1)]
  rfl
 ·rw[if_neg (by omega)]
  by_cases c2:8000<a2.size
  ·rw[if_pos (.inr c2)]
   simp only[eY.j0];rw[if_pos (decide_eq_true (by omega))]
  ·rw[if_neg (by omega)]
   simp only[eY.j0,aqc,Option.bind_some,jv.f];rw[if_neg (by rw[decide_eq_false (by omega)];decide)];by_cases d1:gN a0 a1=0
   ·by_cases d2:gN false a2=0
    ·rw[if_pos d1,if_pos d2]
     simp only[eY.j1,jv.f,Option.bind_some];by_cases d3:a2.size=0
     ·rw[if_pos (by rw[beq_iff_eq];exact Ao.2 d3),if_pos (.inr (.inr (.inl d3)))]
     ·rw[if_neg (by rw[beq_iff_eq];exact fun hc=>d3 (Ao.1 hc))]
      have k1:=qw.1 d1;have k2:=qw.1 d2;have hg:=ad7 (a:=(a0,a1)) (b:=(false,a2)) k1 k2 h1 h2;simp only at hg;rw[hg];simp only[Option.bind_some];have hr:gH (a0,a1,a2)=ival false a2:=rfl;have hn:mF (a0,a1,a2)=ival a0 a1:=rfl;rw[hr,hn];by_cases d4:a2.toList=([1]:List UInt8)
      ·have e:ival false a2=1:=by rw[M0.1 d4];exact Uq
       rw[if_pos d4,if_neg (fun hc=>by
        rcases hc with hc|hc|hc|hc
        ·exact hc d1
        ·exact hc d2
        ·exact d3 hc
        ·rw[e,Int.gcd_one_right]at hc;exact hc rfl)]
      ·rw[if_neg d4]
       by_cases d5:Int.gcd (ival a0 a1) (ival false a2)=1
       ·rw[if_pos (wI.2 d5),if_neg (fun hc=>by
         rcases hc with hc|hc|hc|hc
         ·exact hc d1
         ·exact hc d2
         ·exact d3 hc
         ·exact hc d5)]
       ·rw[if_neg (fun hc=>d5 (wI.1 hc)),if_pos (.inr (.inr (.inr d5)))]
    ·rw[if_pos d1,if_neg d2,if_pos (.inr (.inl d2))]
     rfl
   ·rw[if_neg d1,if_pos (.inl d1)]
    rfl
def iD (a b:RG):Int:=if pM a=0 then pM b else pM a
theorem xP {a b:RG}:iD a b=0↔jc a∧jc b:=by
 unfold iD;split
 ·rename_i h;rw[zZ];exact⟨fun hb=>⟨zZ.1 h,hb⟩,fun hb=>hb.2⟩
 ·rename_i h;exact⟨fun hc=>absurd hc h,fun hc=>absurd (zZ.2 hc.1) h⟩
theorem SK (k:Nat) (a b:RG) (h1:a.2.1.size≤15000) (h2:a.2.2.size≤15000) (h3:b.2.1.size≤15000) (h4:b.2.2.size≤15000) :
  uH.f (k+2) a.1 a.2.1 a.2.2 b.1 b.2.1 b.2.2=some (iD a b):=by
 unfold uH.f iD;rw[FL k a h1 h2,Option.bind_some];split
 ·rw[FL k b h3 h4,Option.bind_some]
 ·rfl
theorem SL (k:Nat) (a b:Bool × ByteArray) (ha:fZ a.1 a.2) (hb:fZ b.1 b.2) (h1:a.2.size≤15000) (h2:b.2.size≤15000) (hp:0<ival b.1 b.2) :
  nV.j0 (k+1) a.1 a.2 b.1 b.2=some (pq (Rat.divInt (ival a.1 a.2) (ival b.1 b.2))):=by
 have G4:b.1=false:=by
  cases hb1:b.1
  ·rfl
  ·exfalso
   have:=(jw b.2).1;unfold ival bl at hp;rw[hb1,if_pos rfl]at hp
   omega
 have K3:=YE (n:=ival a.1 a.2) hp;simp only[nV.j0,B5.f];rw[ad7 ha hb h1 h2];simp only[Option.map_some,Option.bind_some];obtain⟨G,hG⟩:∃ G,Int.gcd (ival a.1 a.2) (ival b.1 b.2)=G:=⟨_,rfl⟩
 have hn:=Mr (n:=ival a.1 a.2) hp;have hd:=Ms (n:=ival a.1 a.2) hp;rw[hG]at hn hd K3 ⊢
 unfold pq;rw[hn,hd];by_cases h:G=1
 ·rw[if_pos (wI.2 h),h]
  have e1:ival a.1 a.2 / ((1:Nat):Int)=ival a.1 a.2:=Int.ediv_one _;have e2:ival b.1 b.2 / ((1:Nat):Int)=ival b.1 b.2:=Int.ediv_one _;rw[e1,e2,Yz ha,Yz hb]
 ·rw[if_neg (fun hc=>h (wI.1 hc))]
  have sG:(pv (G:Int)).2.size≤15000:=Cn (by
   have:=nD h2;have h5:=Int.gcd_le_natAbs_right (ival a.1 a.2) (show ival b.1 b.2≠0 by omega);have h6:=gJ (n:=b.1) h2;rw[hG]at h5
   rw[Int.natAbs_natCast];omega)
  have kG:fZ false (pv (G:Int)).2:=Z7 (by omega) (by omega);have iG:ival false (pv (G:Int)).2=G:=YC (by omega);have q1:=ad8 (a:=a) (b:=(false,(pv (G:Int)).2)) ha kG h1 sG (by simp only[iG];omega);have q2:=ad8 (a:=b) (b:=(false,(pv (G:Int)).2)) hb kG h2 sG (by simp only[iG];omega);simp only at q1 q2;rw[q1,q2];simp only[Option.bind_some,iG]
theorem aol (k:Nat) (a b:Bool × ByteArray) (ha:fZ a.1 a.2) (hb:fZ b.1 b.2) (h1:a.2.size≤15000) (h2:b.2.size≤15000) (h0:ival b.1 b.2≠0) :
  nV.f (k+1) a.1 a.2 b.1 b.2=some (pq (Rat.divInt (ival a.1 a.2) (ival b.1 b.2))):=by
 unfold nV.f;have hv:=(jw b.2).1;have hv2:=(jw a.2).1;by_cases hb1:b.1=true
 ·rw[if_pos hb1]
  have hneg:ival b.1 b.2 =-ival false b.2:=by rw[hb1];rfl
  have hpos:0<ival false b.2:=by have:ival false b.2=nv b.2:=rfl;omega
  have kb:fZ false b.2:=⟨hb.1,hb.2.1,fun hc=>by cases hc⟩
  have e:Rat.divInt (ival a.1 a.2) (ival b.1 b.2)=Rat.divInt (- ival a.1 a.2) (ival false b.2):=by rw[hneg,Rat.divInt_neg']
  rw[e,← Rp ha];by_cases ha1:a.1=true
  ·rw[if_pos ha1]
   have:=SL k (false,a.2) (false,b.2) ⟨ha.1,ha.2.1,fun hc=>by cases hc⟩ kb h1 h2 hpos;simp only at this;rw[this,ha1];rfl
  ·rw[if_neg ha1]
   have ha2:a.1=false:=by cases h:a.1 <;> simp_all
   have e2:(a.2.toList != ([]:List UInt8))=(!a.1&&decide (0<a.2.size)):=by
    rw[ha2];by_cases hs:0<a.2.size
    ·rw[(xE hs).2,decide_eq_true hs];rfl
    ·rw[(toList_nil (by omega)).2,decide_eq_false hs];rfl
   rw[e2];have:=SL k (!a.1&&decide (0<a.2.size),a.2) (false,b.2) (Ro ha) kb h1 h2 hpos;simp only at this;rw[this]
 ·rw[if_neg hb1]
  have hb2:b.1=false:=by cases h:b.1 <;> simp_all
  have hv3:ival b.1 b.2=nv b.2:=by rw[hb2];rfl
  exact SL k a b ha hb h1 h2 (by omega)
theorem OP:wrap64 (0+1)=1:=by unfold wrap64;omega
theorem Ve:wrap64 (1+1)=2:=by unfold wrap64;omega
theorem aaC (k:Nat) (n d:Int) (hn:(pv n).2.size≤15000) (hd:(pv d).2.size≤15000) (h0:d≠0):nV.f (k+1) (pv n).1 (pv n).2 (pv d).1 (pv d).2=some (pq (Rat.divInt n d)):=by
 have:=aol k (pv n) (pv d) (Am (by omega)) (Am (by omega)) hn hd (by rw[uJ];exact h0);rw[uJ,uJ]at this
 exact this
theorem Kq (a0:Bool) (a1:ByteArray) (b0:Bool) (b1:ByteArray) (ha:fZ a0 a1) (hb:fZ b0 b1) (h1:a1.size≤15000) (h2:b1.size≤15000):ow.f a0 a1 b0 b1=some (pv (ival a0 a1*ival b0 b1)):=aqd (a:=(a0,a1)) (b:=(b0,b1)) ha hb h1 h2
theorem wV {x y:Int} {k l m:Nat} (hx:(x.natAbs:Int)<256^k) (hy:(y.natAbs:Int)<256^l) (hm:k+l≤m):(pv (x*y)).2.size≤m:=Cn (uK hx hy hm)
theorem aom (k:Nat) (a b:RG) (ha:jc a) (hb:jc b) (h1:a.2.1.size≤4000) (h2:a.2.2.size≤4000) (h3:b.2.1.size≤4000) (h4:b.2.2.size≤4000) :
  oC.f (k+2) a.1 a.2.1 a.2.2 b.1 b.2.1 b.2.2=some ((pq (rq a*rq b)).1,(pq (rq a*rq b)).2.1,(pq (rq a*rq b)).2.2,0):=by
 unfold oC.f;have e1:jv.f a.1 a.2.1 a.2.2=some (false,a.2.2):=rfl;have e2:jv.f b.1 b.2.1 b.2.2=some (false,b.2.2):=rfl;rw[SK k a b (by omega) (by omega) (by omega) (by omega),Option.bind_some,if_pos (xP.2 ⟨ha,hb⟩),Kq _ _ _ _ ha.kn hb.kn (by omega) (by omega),Option.bind_some,e1,Option.bind_some,e2,Option.bind_some,Kq _ _ _ _ ha.kd hb.kd (by omega) (by omega),Option.bind_some];have hp:ival false a.2.2*ival false b.2.2≠0:=by
  have:=Int.mul_pos ha.dp hb.dp;have e:ival false a.2.2*ival false b.2.2=gH a*gH b:=rfl;omega
 rw[aaC (k+1) _ _ (wV (k:=4000) (l:=4000) (gJ h1) (gJ h3) (by omega)) (wV (k:=4000) (l:=4000) (gJ h2) (gJ h4) (by omega)) hp,Option.bind_some];have e:Rat.divInt (ival a.1 a.2.1*ival b.1 b.2.1) (ival false a.2.2*ival false b.2.2)=rq a*rq b:=Nx;rw[e]
theorem TU (n:Int):pq (Rat.divInt n 1)=((pv n).1,(pv n).2,⟨#[1]⟩):=by
 have hn:=Mr (n:=n) (d:=1) (by decide);have hd:=Ms (n:=n) (d:=1) (by decide);rw[Int.gcd_one_right]at hn hd
 have e1:n / ((1:Nat):Int)=n:=Int.ediv_one n;have e2:(1:Int) / ((1:Nat):Int)=1:=Int.ediv_one 1;rw[e1]at hn
 rw[e2]at hd
 unfold pq;rw[hn,hd,ac3]
theorem Fl {a:RG} (h:a.2.2.toList=([1]:List UInt8)):gH a=1:=by
 unfold gH;rw[M0.1 h];exact Uq
theorem Yj {s:ByteArray} (h:s.size≤32000):qD s=true↔gN false s=0:=by
 unfold qD gN;rw[if_neg (by omega)];by_cases hc:0<s.size∧fP s (s.size-1)=0
 ·rw[decide_eq_true hc,if_pos hc]
  exact⟨fun h=>by simp at h,fun h=>absurd h (by decide)⟩
 ·rw[decide_eq_false hc,if_neg hc,if_neg (fun h=>by cases h.1)]
  exact⟨fun _=>rfl,fun _=>rfl⟩
theorem Yk (k:Nat) (a:RG) (h1:a.2.1.size≤4000) (h2:a.2.2.size≤4000):fR.f (k+2) a.1 a.2.1 a.2.2=some (pM a):=by
 obtain⟨a0,a1,a2⟩:=a;simp only at h1 h2;unfold fR.f pM;simp only;rw[if_neg (by omega),if_neg (by omega),decide_eq_false (by omega:¬ (a2.size:Int) > 8000),show k+2=(k+1)+1 from rfl,fR.j0,if_neg (by decide)];have e1:xA.f a0 a1=some (gN a0 a1):=rfl;have e2:zu.f a2=some (qD a2):=rfl;rw[e1,Option.bind_some];have PG:fR.j1 (k+1) true=some 1:=rfl;have j1f:fR.j1 (k+1) false=some 0:=rfl;by_cases d1:gN a0 a1=0
 ·rw[if_pos d1,e2,Option.bind_some]
  by_cases d2:gN false a2=0
  ·rw[if_pos ((Yj (by omega)).2 d2)]
   by_cases d3:a2.size=0
   ·rw[if_pos (Ao.2 d3),PG,if_pos (.inr (.inr (.inl d3)))]
   ·rw[if_neg (fun hc=>d3 (Ao.1 hc))]
    have e3:lf.f a0 a1 a2=some (false,a2):=rfl;rw[e3,Option.bind_some];have e4:B8.f a0 a1 false a2=some ((pv ((Nat.gcd (nv a1).toNat (nv a2).toNat:Nat):Int)).1,(pv ((Nat.gcd (nv a1).toNat (nv a2).toNat:Nat):Int)).2):=by
     unfold B8.f;rw[if_pos ⟨h1,h2⟩]
    rw[e4,Option.bind_some];have hg:Int.gcd (mF (a0,a1,a2)) (gH (a0,a1,a2))=Nat.gcd (nv a1).toNat (nv a2).toNat:=XB a0 a1 false a2;rw[hg];by_cases d5:Nat.gcd (nv a1).toNat (nv a2).toNat=1
    ·have t:((pv ((Nat.gcd (nv a1).toNat (nv a2).toNat:Nat):Int)).2.toList != ([1]:List UInt8))=false:=bne_eq_false_iff_eq.2 (wI.2 d5)
     simp only[t];rw[j1f,if_neg (fun hc=>by
      rcases hc with hc|hc|hc|hc
      ·exact hc d1
      ·exact hc d2
      ·exact d3 hc
      ·exact hc d5)]
    ·have t:((pv ((Nat.gcd (nv a1).toNat (nv a2).toNat:Nat):Int)).2.toList != ([1]:List UInt8))=true:=bne_iff_ne.2 (fun hc=>d5 (wI.1 hc))
     simp only[t];rw[PG,if_pos (.inr (.inr (.inr d5)))]
  ·rw[if_neg (fun hc=>d2 ((Yj (by omega)).1 hc)),PG,if_pos (.inr (.inl d2))]
 ·rw[if_neg d1,PG,if_pos (.inl d1)]
theorem ZQ (k:Nat) (a b:RG) (h1:a.2.1.size≤4000) (h2:a.2.2.size≤4000) (h3:b.2.1.size≤4000) (h4:b.2.2.size≤4000) :
  xB.f (k+2) a.1 a.2.1 a.2.2 b.1 b.2.1 b.2.2=some (iD a b):=by
 unfold xB.f iD;rw[Yk k a h1 h2,Option.bind_some];split
 ·rw[Yk k b h3 h4,Option.bind_some]
 ·rfl
theorem ab9 {a:RG} (h:jc a):Dx (rq a) 0=(if a.1=true then -1 else if a.2.1.size=0 then 0 else 1):=by
 have hq:=h.q.1;have e1:rq a<0↔mF a<0:=by rw[← hq,← Rat.not_le,← Rat.num_nonneg];omega
 have e2:0<rq a↔0<mF a:=by rw[← hq,Rat.lt_iff];simp
 unfold Dx;simp only[e1,e2];have hk:=h.kn;have hr:mF a=ival a.1 a.2.1:=rfl;rw[hr];by_cases hz:a.2.1.size=0
 ·have hn:¬ a.1=true:=fun hc=>by have:=hk.2.2 hc;omega
  have e:a.2.1=⟨#[]⟩:=MZ hz;have hv:ival a.1 a.2.1=0:=by unfold ival bl;rw[if_neg hn,e];rfl
  rw[hv,if_neg (by omega),if_neg (by omega),if_neg hn,if_pos hz]
 ·have hp:0<nv a.2.1:=Sy hk.2.1 (Nat.pos_of_ne_zero hz)
  by_cases hn:a.1=true
  ·have hv:ival a.1 a.2.1 =-nv a.2.1:=by unfold ival bl;rw[if_pos hn]
   rw[hv,if_pos (by omega),if_pos hn]
  ·have hv:ival a.1 a.2.1=nv a.2.1:=by unfold ival bl;rw[if_neg hn]
   rw[hv,if_neg (by omega),if_pos (by omega),if_neg hn,if_neg hz]
theorem aon {a b:RG} (ha:jc a) (hb:jc b) {k:Nat} (h1:a.2.1.size≤k) (h2:a.2.2.size≤k) (h3:b.2.1.size≤k) (h4:b.2.2.size≤k) :
  (pq (rq a-rq b)).2.1.size≤k+k+1∧(pq (rq a-rq b)).2.2.size≤k+k:=by
 rw[← aa2 ha hb];have d1:gH b=ival false b.2.2:=rfl;have d2:gH a=ival false a.2.2:=rfl;have hp:=Int.mul_pos ha.dp hb.dp;refine X7 hp (Z6 (k:=k+k) (uK (k:=k) (l:=k) (gJ h1) (gJ (n:=false) h4) (Nat.le_refl _)) (uK (k:=k) (l:=k) (gJ h3) (gJ (n:=false) h2) (Nat.le_refl _)) (Nat.le_refl _)) ?_;have:=uK (k:=k) (l:=k) (m:=k+k) (gJ (n:=false) h2) (gJ (n:=false) h4) (Nat.le_refl _);rw[← d1,← d2]at this
 omega
theorem aoo {a b:RG} (ha:jc a) (hb:jc b) {k l:Nat} (h1:a.2.1.size≤k) (h2:a.2.2.size≤k) (h3:b.2.1.size≤l) (h4:b.2.2.size≤l) :
  (pq (rq a*rq b)).2.1.size≤k+l∧(pq (rq a*rq b)).2.2.size≤k+l:=by
 rw[← Nx];have d1:gH b=ival false b.2.2:=rfl;have d2:gH a=ival false a.2.2:=rfl;have hp:=Int.mul_pos ha.dp hb.dp;refine X7 hp (uK (k:=k) (l:=l) (gJ h1) (gJ h3) (Nat.le_refl _)) ?_;have:=uK (k:=k) (l:=l) (m:=k+l) (gJ (n:=false) h2) (gJ (n:=false) h4) (Nat.le_refl _);rw[← d1,← d2]at this
 omega
theorem agG (F:Bool→ByteArray→Bool→ByteArray→Option (Bool × ByteArray)) (op:Int→Int→Int) (oq:Rat→Rat→Rat)
  (hF:∀ a0 a1 b0 b1,fZ a0 a1→fZ b0 b1→a1.size≤15000→b1.size≤15000→F a0 a1 b0 b1=some (pv (op (ival a0 a1) (ival b0 b1))))
  (hB:∀ (x y:Int) (k m:Nat),(x.natAbs:Int)<256^k→(y.natAbs:Int)<256^k→k+1≤m→((op x y).natAbs:Int)<256^m)
  (hQ:∀ a b:RG,jc a→jc b→Rat.divInt (op (mF a*gH b) (mF b*gH a)) (gH a*gH b)=oq (rq a) (rq b))
  (k:Nat) (a b:RG) (h1:a.2.1.size≤4000) (h2:a.2.2.size≤4000) (h3:b.2.1.size≤4000) (h4:b.2.2.size≤4000) :
  ∃ r:RG,iM.f F (k+2) a.1 a.2.1 a.2.2 b.1 b.2.1 b.2.2=some (r.1,r.2.1,r.2.2,iD a b)∧(iD a b=0→r=pq (oq (rq a) (rq b)))∧(iD a b≠0→r=nor):=by
 unfold iM.f;rw[SK k a b (by omega) (by omega) (by omega) (by omega),Option.bind_some];by_cases hb0:iD a b=0
 ·obtain⟨ha,hb⟩:=xP.1 hb0
  rw[if_pos hb0,hb0];have e1:jv.f a.1 a.2.1 a.2.2=some (false,a.2.2):=rfl;have e2:jv.f b.1 b.2.1 b.2.2=some (false,b.2.2):=rfl;have key:iM.j0 F (k+1+1) false a.1 a.2.1 a.2.2 b.1 b.2.1 b.2.2=some ((pq (oq (rq a) (rq b))).1,(pq (oq (rq a) (rq b))).2.1,(pq (oq (rq a) (rq b))).2.2,0):=by
   rw[iM.j0,if_neg (by decide)];simp only[e1,e2,Option.bind_some];have hp:ival false a.2.2*ival false b.2.2≠0:=by
    have:=Int.mul_pos ha.dp hb.dp;have e:ival false a.2.2*ival false b.2.2=gH a*gH b:=rfl;omega
   have z1:=wV (k:=4000) (l:=4000) (m:=8000) (gJ (n:=a.1) h1) (gJ (n:=false) h4) (by omega);have z2:=wV (k:=4000) (l:=4000) (m:=8000) (gJ (n:=b.1) h3) (gJ (n:=false) h2) (by omega);have hf:=hF (pv (ival a.1 a.2.1*ival false b.2.2)).1 (pv (ival a.1 a.2.1*ival false b.2.2)).2 (pv (ival b.1 b.2.1*ival false a.2.2)).1 (pv (ival b.1 b.2.1*ival false a.2.2)).2 (Am (by omega)) (Am (by omega)) (by omega) (by omega);rw[uJ,uJ]at hf
   rw[Kq _ _ _ _ ha.kn hb.kd (by omega) (by omega),Option.bind_some,Kq _ _ _ _ hb.kn ha.kd (by omega) (by omega),Option.bind_some,
    hf,Option.bind_some,Kq _ _ _ _ ha.kd hb.kd (by omega) (by omega),Option.bind_some,
    aaC k _ _ (Cn (hB _ _ 8000 15000 (uK (k:=4000) (l:=4000) (gJ h1) (gJ h4) (by omega)) (uK (k:=4000) (l:=4000) (gJ h3) (gJ h2) (by omega)) (by omega))) (wV (k:=4000) (l:=4000) (gJ h2) (gJ h4) (by omega)) hp,Option.bind_some]
   have e:Rat.divInt (op (ival a.1 a.2.1*ival false b.2.2) (ival b.1 b.2.1*ival false a.2.2)) (ival false a.2.2*ival false b.2.2)=oq (rq a) (rq b):=hQ a b ha hb;rw[e]
  by_cases c1:a.2.2.toList=([1]:List UInt8)
  ·rw[if_pos c1]
   by_cases c2:b.2.2.toList=([1]:List UInt8)
   ·rw[beq_iff_eq.2 c2]
    refine⟨pq (oq (rq a) (rq b)),?_,fun _=>rfl,fun hc=>absurd rfl hc⟩;have e:oq (rq a) (rq b)=Rat.divInt (op (ival a.1 a.2.1) (ival b.1 b.2.1)) 1:=by
     rw[← hQ a b ha hb,Fl c1,Fl c2,Int.mul_one,Int.mul_one,Int.mul_one];rfl
    rw[show k+2=(k+1)+1 from rfl,iM.j0,if_pos rfl,hF _ _ _ _ ha.kn hb.kn (by omega) (by omega),Option.bind_some,e,TU]
   ·rw[beq_eq_false_iff_ne.2 c2]
    exact⟨_,key,fun _=>rfl,fun hc=>absurd rfl hc⟩
  ·rw[if_neg c1]
   exact⟨_,key,fun _=>rfl,fun hc=>absurd rfl hc⟩
 ·rw[if_neg hb0]
  exact⟨(false,⟨#[]⟩,⟨#[]⟩),rfl,fun hc=>absurd hc hb0,fun _=>rfl⟩
theorem subs (a0:Bool) (a1:ByteArray) (b0:Bool) (b1:ByteArray) (ha:fZ a0 a1) (hb:fZ b0 b1) (h1:a1.size≤15000) (h2:b1.size≤15000):zq.f a0 a1 b0 b1=some (pv (ival a0 a1-ival b0 b1)):=by
 unfold zq.f Fb.f;rw[if_pos ⟨h1,h2⟩,ad9 (f:=(·-·)) (a:=(a0,a1)) (b:=(b0,b1)) ha hb];rfl
theorem ako (k:Nat) (a b:RG) (h1:a.2.1.size≤4000) (h2:a.2.2.size≤4000) (h3:b.2.1.size≤4000) (h4:b.2.2.size≤4000) :
  ∃ r:RG,CN.f (k+2) a.1 a.2.1 a.2.2 b.1 b.2.1 b.2.2=some (r.1,r.2.1,r.2.2,iD a b)∧(iD a b=0→r=pq (rq a-rq b))∧(iD a b≠0→r=nor):=by
 obtain⟨r,hr,hf⟩:=agG zq.f (·-·) (·-·) subs (fun _ _ _ _=>Z6) (fun _ _ ha hb=>aa2 ha hb) k a b h1 h2 h3 h4;refine⟨r,?_,hf⟩;unfold CN.f Hu.f;rw[hr,Option.bind_some]
theorem akp (k:Nat) (a b:RG) (h1:a.2.1.size≤4000) (h2:a.2.2.size≤4000) (h3:b.2.1.size≤4000) (h4:b.2.2.size≤4000) :
  ∃ r:RG,oC.f (k+2) a.1 a.2.1 a.2.2 b.1 b.2.1 b.2.2=some (r.1,r.2.1,r.2.2,iD a b)∧(iD a b=0→r=pq (rq a*rq b))∧(iD a b≠0→r=nor):=by
 by_cases hb0:iD a b=0
 ·obtain⟨ha,hb⟩:=xP.1 hb0
  rw[hb0];exact⟨_,aom k a b ha hb h1 h2 h3 h4,fun _=>rfl,fun hc=>absurd rfl hc⟩
 ·unfold oC.f
  rw[SK k a b (by omega) (by omega) (by omega) (by omega),Option.bind_some,if_neg hb0];exact⟨(false,⟨#[]⟩,⟨#[]⟩),rfl,fun hc=>absurd hc hb0,fun _=>rfl⟩
theorem agH (k:Nat) (a:RG) (h1:a.2.1.size≤15000) (h2:a.2.2.size≤15000) :
  ∃ s,Ci.f (k+2) a.1 a.2.1 a.2.2=some (s,pM a)∧(pM a=0→s=Dx (rq a) 0):=by
 unfold Ci.f;rw[FL k a h1 h2,Option.bind_some];by_cases hc:pM a=0
 ·have e:=ab9 (zZ.1 hc)
  rw[if_pos hc,hc];by_cases n:a.1=true
  ·rw[if_pos n]
   rw[if_pos n]at e
   exact⟨_,rfl,fun _=>e.symm⟩
  ·rw[if_neg n]
   rw[if_neg n]at e
   by_cases z:a.2.1.size=0
   ·rw[if_pos (Ao.2 z)]
    rw[if_pos z]at e
    exact⟨_,rfl,fun _=>e.symm⟩
   ·rw[if_neg (fun h=>z (Ao.1 h))]
    rw[if_neg z]at e
    exact⟨_,rfl,fun _=>e.symm⟩
 ·rw[if_neg hc]
  exact⟨_,rfl,fun h=>absurd h hc⟩
theorem ad_ {n d:Int} (hn:(pv n).2.size≤1000) (hd:(pv d).2.size≤1000) (h0:d≠0):xz.f (pv n).1 (pv n).2 (pv d).1 (pv d).2=some (pq (Rat.divInt n d)):=by
 unfold xz.f;rw[uJ,uJ,if_pos ⟨hn,hd,qw.2 (Am (by omega)),qw.2 (Am (by omega)),h0⟩]
theorem GJ {a0:Bool} {a1:ByteArray} {b0:Bool} {b1:ByteArray} (h1:a1.size≤4000) (h2:b1.size≤4000):nU.f a0 a1 b0 b1=some (pv (ival a0 a1*ival b0 b1)):=by
 unfold nU.f;rw[if_pos ⟨h1,h2⟩]
theorem aea {a0:Bool} {a1:ByteArray} {b0:Bool} {b1:ByteArray} (h1:a1.size≤4000) (h2:b1.size≤4000):wA.f a0 a1 b0 b1=some (pv (ival a0 a1+ival b0 b1)):=by
 unfold wA.f;rw[if_pos ⟨h1,h2⟩]
theorem Yl (k:Nat) (a b:RG) (ha:jc a) (hb:jc b) (h1:a.2.1.size≤500) (h2:a.2.2.size≤500) (h3:b.2.1.size≤500) (h4:b.2.2.size≤500) :
  kj.f (k+1) a.1 a.2.1 a.2.2 b.1 b.2.1 b.2.2=some (pq (rq a*rq b)):=by
 have key:kj.j0 (k+1) false a.1 a.2.1 a.2.2 b.1 b.2.1 b.2.2=some (pq (rq a*rq b)):=by
  have e1:lf.f a.1 a.2.1 a.2.2=some (false,a.2.2):=rfl;have e2:lf.f b.1 b.2.1 b.2.2=some (false,b.2.2):=rfl;rw[kj.j0,if_neg (by decide),GJ (by first|omega|(dsimp only;omega)) (by first|omega|(dsimp only;omega)),Option.bind_some,e1,Option.bind_some,e2,Option.bind_some,GJ (by first|omega|(dsimp only;omega)) (by first|omega|(dsimp only;omega)),Option.bind_some];have hp:ival false a.2.2*ival false b.2.2≠0:=by
   have:=Int.mul_pos ha.dp hb.dp;have e:ival false a.2.2*ival false b.2.2=gH a*gH b:=rfl;omega
  rw[ad_ (wV (k:=500) (l:=500) (gJ h1) (gJ h3) (by omega)) (wV (k:=500) (l:=500) (gJ h2) (gJ h4) (by omega)) hp,Option.bind_some];have e:Rat.divInt (ival a.1 a.2.1*ival b.1 b.2.1) (ival false a.2.2*ival false b.2.2)=rq a*rq b:=Nx;rw[e]
 unfold kj.f;by_cases c1:a.2.2.toList=([1]:List UInt8)
 ·rw[if_pos c1]
  by_cases c2:b.2.2.toList=([1]:List UInt8)
  ·rw[beq_iff_eq.2 c2,kj.j0,if_pos rfl,GJ (by first|omega|(dsimp only;omega)) (by first|omega|(dsimp only;omega)),Option.bind_some]
   have e:rq a*rq b=Rat.divInt (ival a.1 a.2.1*ival b.1 b.2.1) 1:=by
    rw[← Nx,Fl c1,Fl c2];rfl
   rw[e,TU]
  ·rw[beq_eq_false_iff_ne.2 c2]
   exact key
 ·rw[if_neg c1]
  exact key
theorem alb (k:Nat) (a b:RG) (ha:jc a) (hb:jc b) (h1:a.2.1.size≤400) (h2:a.2.2.size≤400) (h3:b.2.1.size≤400) (h4:b.2.2.size≤400) :
  iL.f (k+1) a.1 a.2.1 a.2.2 b.1 b.2.1 b.2.2=some (pq (rq a+rq b)):=by
 have key:iL.j0 (k+1) false a.1 a.2.1 a.2.2 b.1 b.2.1 b.2.2=some (pq (rq a+rq b)):=by
  have e1:lf.f a.1 a.2.1 a.2.2=some (false,a.2.2):=rfl;have e2:lf.f b.1 b.2.1 b.2.2=some (false,b.2.2):=rfl;have z1:=wV (k:=400) (l:=400) (m:=800) (gJ (n:=a.1) h1) (gJ (n:=false) h4) (by omega);have z2:=wV (k:=400) (l:=400) (m:=800) (gJ (n:=b.1) h3) (gJ (n:=false) h2) (by omega);have hp:ival false a.2.2*ival false b.2.2≠0:=by
   have:=Int.mul_pos ha.dp hb.dp;have e:ival false a.2.2*ival false b.2.2=gH a*gH b:=rfl;omega
  rw[iL.j0,if_neg (by decide)];simp only[e1,e2,Option.bind_some]
  rw[GJ (by omega) (by omega),Option.bind_some,GJ (by omega) (by omega),Option.bind_some,aea (by omega) (by omega),Option.bind_some,uJ,uJ,GJ (by omega) (by omega),Option.bind_some,
   ad_ (Cn (akO (k:=800) (uK (k:=400) (l:=400) (gJ h1) (gJ h4) (by omega)) (uK (k:=400) (l:=400) (gJ h3) (gJ h2) (by omega)) (by omega))) (wV (k:=400) (l:=400) (gJ h2) (gJ h4) (by omega)) hp,Option.bind_some]
  have e:Rat.divInt (ival a.1 a.2.1*ival false b.2.2+ival b.1 b.2.1*ival false a.2.2) (ival false a.2.2*ival false b.2.2)=rq a+rq b:=aa1 ha hb;rw[e]
 unfold iL.f;by_cases c1:a.2.2.toList=([1]:List UInt8)
 ·rw[if_pos c1]
  by_cases c2:b.2.2.toList=([1]:List UInt8)
  ·rw[beq_iff_eq.2 c2,iL.j0,if_pos rfl,aea (by omega) (by omega),Option.bind_some]
   have e:rq a+rq b=Rat.divInt (ival a.1 a.2.1+ival b.1 b.2.1) 1:=by
    rw[← aa1 ha hb,Fl c1,Fl c2,Int.mul_one,Int.mul_one,Int.mul_one];rfl
   rw[e,TU]
  ·rw[beq_eq_false_iff_ne.2 c2]
   exact key
 ·rw[if_neg c1]
  exact key
def LC (a:RG):RG:=(!a.1&&decide (0<a.2.1.size),a.2.1,a.2.2)
theorem ZR {a:RG} (h:jc a):mF (LC a) =-mF a:=Rp h.kn
theorem aop {a:RG} (h:jc a):jc (LC a):=by
 refine⟨h.sn,h.sd,Ro h.kn,h.kd,h.nz,?_⟩;rw[ZR h,Int.neg_gcd];exact h.co
theorem aoq {a:RG} (h:jc a):rq (LC a) =-rq a:=by
 unfold rq;rw[ZR h,Rat.neg_divInt];rfl
theorem Sq (k:Nat) (a b:RG) (ha:jc a) (hb:jc b) (h1:a.2.1.size≤400) (h2:a.2.2.size≤400) (h3:b.2.1.size≤400) (h4:b.2.2.size≤400) :
  uA.f (k+1) a.1 a.2.1 a.2.2 b.1 b.2.1 b.2.2=some (pq (rq a-rq b)):=by
 have e:EU.f b.1 b.2.1 b.2.2=some (LC b):=rfl;have h:=alb k a (LC b) ha (aop hb) h1 h2 h3 h4;unfold uA.f;rw[e,Option.bind_some,h,Option.bind_some,aoq hb,← Rat.sub_eq_add_neg]
theorem akq {a:RG} (h:jc a):B9.f a.1 a.2.1 a.2.2=some (Dx (rq a) 0):=by
 rw[ab9 h];unfold B9.f;by_cases n:a.1=true
 ·rw[if_pos n,if_pos n]
 ·rw[if_neg n,if_neg n]
  by_cases z:a.2.1.size=0
  ·rw[if_pos (Ao.2 z),if_pos z]
  ·rw[if_neg (fun hc=>z (Ao.1 hc)),if_neg z]
end Go.Proofs.YtfcjnhkkfmgmpaaGreat
