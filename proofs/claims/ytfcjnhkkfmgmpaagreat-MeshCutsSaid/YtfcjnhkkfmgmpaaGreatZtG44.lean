import Derived.Test.YtfcjnhkkfmgmpaaGreatZtG25
set_option linter.all false
set_option maxRecDepth 100000
set_option maxHeartbeats 8000000
namespace Go.Proofs.YtfcjnhkkfmgmpaaGreat
open Go.RowKit aS Go.Proofs.aA.R Go.Proofs.aB.aZ
theorem auV {n:Bool} {s:ByteArray}:wY.f n s=some (ij n s):=rfl
theorem ahY {a b:Bool × ByteArray} (ha:fX a.1 a.2) (hb:fX b.1 b.2) (h1:a.2.size<=15000) (h2:b.2.size<=15000) :
  tS.f a.1 a.2 b.1 b.2=some (false,(pv ((Int.gcd (ival a.1 a.2) (ival b.1 b.2):Nat):Int)).2,0):=by
 unfold tS.f Dd;rw[if_pos ⟨h1,h2⟩,if_neg (fun hc=>hc (Cr.2 ⟨ha,hb⟩)),Vf qo]
theorem ahZ {a b:Bool × ByteArray} (ha:fX a.1 a.2) (hb:fX b.1 b.2) (h1:a.2.size<=15000) (h2:b.2.size<=15000) (h0:ival b.1 b.2≠0) :
  Aq.f a.1 a.2 b.1 b.2=some ((pv (ival a.1 a.2 / ival b.1 b.2)).1,(pv (ival a.1 a.2 / ival b.1 b.2)).2,(pv (ival a.1 a.2%ival b.1 b.2)).1,(pv (ival a.1 a.2%ival b.1 b.2)).2,0):=by
 unfold Aq.f wC;have h3:¬ nv b.2=0:=fun hc=>h0 (by unfold ival bF;split <;> omega);simp only[if_pos (And.intro h1 h2),if_neg (fun hc=>hc (Cr.2 ⟨ha,hb⟩):¬ iz a.1 a.2 b.1 b.2≠0),if_neg h3]
theorem YI {f:Int->Int->Int} {a b:Bool × ByteArray} (ha:fX a.1 a.2) (hb:fX b.1 b.2):mI f a b=(pv (f (ival a.1 a.2) (ival b.1 b.2)),0):=alC (Cr.2 ⟨ha,hb⟩)
theorem auW {a b:Bool × ByteArray} (ha:fX a.1 a.2) (hb:fX b.1 b.2) (h1:a.2.size<=15000) (h2:b.2.size<=15000) :
  pO.f a.1 a.2 b.1 b.2=some ((pv (ival a.1 a.2*ival b.1 b.2)).1,(pv (ival a.1 a.2*ival b.1 b.2)).2):=by
 unfold pO.f Ia.f;rw[if_pos ⟨h1,h2⟩,YI ha hb];rfl
theorem IY (k:Nat) (a:RG) (h1:a.2.1.size<=15000) (h2:a.2.2.size<=15000):fA.f (k+2) a.1 a.2.1 a.2.2=some (rA a):=by
 obtain⟨a0,a1,a2⟩:=a;simp only at h1 h2;unfold fA.f rA;simp only;by_cases c1:8000<a1.size
 ·rw[if_pos qo,if_pos (.inl c1)]
  rfl
 ·rw[if_neg qo]
  by_cases c2:8000<a2.size
  ·rw[if_pos (.inr c2)]
   simp only[fA.j0];rw[if_pos (decide_eq_true qo)]
  ·rw[if_neg qo]
   simp only[fA.j0,auV,Option.bind_some,jL.f];rw[if_neg (by rw[decide_eq_false qo];decide)];by_cases d1:ij a0 a1=0
   ·by_cases d2:ij false a2=0
    ·rw[if_pos d1,if_pos d2]
     simp only[fA.j1,jL.f,Option.bind_some];by_cases d3:a2.size=0
     ·rw[if_pos (by rw[beq_iff_eq];exact CT.2 d3),if_pos (.inr (.inr (.inl d3)))]
     ·rw[if_neg (by rw[beq_iff_eq];exact fun hc=>d3 (CT.1 hc))]
      have k1:=sw.1 d1;have k2:=sw.1 d2;have hg:=ahY (a:=(a0,a1)) (b:=(false,a2)) k1 k2 h1 h2;simp only at hg;rw[hg];simp only[Option.bind_some];have hr:gH (a0,a1,a2)=ival false a2:=rfl;have hn:nJ (a0,a1,a2)=ival a0 a1:=rfl;rw[hr,hn];by_cases d4:a2.toList=([1]:List UInt8)
      ·have e:ival false a2=1:=by rw[P9.1 d4];exact XU
       rw[if_pos d4,if_neg (fun hc=>by
        rcases hc with hc|hc|hc|hc
        ·exact hc d1
        ·exact hc d2
        ·exact d3 hc
        ·rw[e,Int.gcd_one_right]at hc;exact hc rfl)]
      ·rw[if_neg d4]
       by_cases d5:Int.gcd (ival a0 a1) (ival false a2)=1
       ·rw[if_pos (yO.2 d5),if_neg (fun hc=>by
         rcases hc with hc|hc|hc|hc
         ·exact hc d1
         ·exact hc d2
         ·exact d3 hc
         ·exact hc d5)]
       ·rw[if_neg (fun hc=>d5 (yO.1 hc)),if_pos (.inr (.inr (.inr d5)))]
    ·rw[if_pos d1,if_neg d2,if_pos (.inr (.inl d2))]
     rfl
   ·rw[if_neg d1,if_pos (.inl d1)]
    rfl
def iE (a b:RG):Int:=if rA a=0 then rA b else rA a
theorem yQ {a b:RG}:iE a b=0↔i_ a/\i_ b:=by
 unfold iE;split
 ·rename_i h;rw[Cs];exact⟨fun hb=>⟨Cs.1 h,hb⟩,fun hb=>hb.2⟩
 ·rename_i h;exact⟨fun hc=>absurd hc h,fun hc=>absurd (Cs.2 hc.1) h⟩
theorem Wk (k:Nat) (a b:RG) (h1:a.2.1.size<=15000) (h2:a.2.2.size<=15000) (h3:b.2.1.size<=15000) (h4:b.2.2.size<=15000) :
  xg.f (k+2) a.1 a.2.1 a.2.2 b.1 b.2.1 b.2.2=some (iE a b):=by
 unfold xg.f iE;rw[IY k a h1 h2,Option.bind_some];split
 ·rw[IY k b h3 h4,Option.bind_some]
 ·rfl
theorem Wl (k:Nat) (a b:Bool × ByteArray) (ha:fX a.1 a.2) (hb:fX b.1 b.2) (h1:a.2.size<=15000) (h2:b.2.size<=15000) (hp:0<ival b.1 b.2) :
  oU.j0 (k+1) a.1 a.2 b.1 b.2=some (pq (Rat.divInt (ival a.1 a.2) (ival b.1 b.2))):=by
 have J7:b.1=false:=by
  cases hb1:b.1
  ·rfl
  ·exfalso
   have:=(jM b.2).1;unfold ival bF at hp;rw[hb1,if_pos rfl]at hp
   omega
 have NK:=abu (n:=ival a.1 a.2) hp;simp only[oU.j0,En.f];rw[ahY ha hb h1 h2];simp only[Option.map_some,Option.bind_some];obtain⟨G,hG⟩:∃ G,Int.gcd (ival a.1 a.2) (ival b.1 b.2)=G:=⟨_,rfl⟩
 have hn:=OS (n:=ival a.1 a.2) hp;have hd:=OT (n:=ival a.1 a.2) hp;rw[hG]at hn hd NK ⊢
 unfold pq;rw[hn,hd];by_cases h:G=1
 ·rw[if_pos (yO.2 h),h]
  have e1:ival a.1 a.2 / ((1:Nat):Int)=ival a.1 a.2:=Int.ediv_one _;have e2:ival b.1 b.2 / ((1:Nat):Int)=ival b.1 b.2:=Int.ediv_one _;rw[e1,e2,abp ha,abp hb]
 ·rw[if_neg (fun hc=>h (yO.1 hc))]
  have sG:(pv (G:Int)).2.size<=15000:=EC (by
   have:=ou h2;have h5:=Int.gcd_le_natAbs_right (ival a.1 a.2) (show ival b.1 b.2≠0 by omega);have h6:=fD (n:=b.1) h2;rw[hG]at h5
   rw[Int.natAbs_natCast];omega)
  have kG:fX false (pv (G:Int)).2:=adk qo qo;have iG:ival false (pv (G:Int)).2=G:=abr qo;have q1:=ahZ (a:=a) (b:=(false,(pv (G:Int)).2)) ha kG h1 sG (by simp only[iG];omega);have q2:=ahZ (a:=b) (b:=(false,(pv (G:Int)).2)) hb kG h2 sG (by simp only[iG];omega);simp only at q1 q2;rw[q1,q2];simp only[Option.bind_some,iG]
theorem asA (k:Nat) (a b:Bool × ByteArray) (ha:fX a.1 a.2) (hb:fX b.1 b.2) (h1:a.2.size<=15000) (h2:b.2.size<=15000) (h0:ival b.1 b.2≠0) :
  oU.f (k+1) a.1 a.2 b.1 b.2=some (pq (Rat.divInt (ival a.1 a.2) (ival b.1 b.2))):=by
 unfold oU.f;have hv:=(jM b.2).1;have hv2:=(jM a.2).1;by_cases hb1:b.1=true
 ·rw[if_pos hb1]
  have hneg:ival b.1 b.2 =-ival false b.2:=by rw[hb1];rfl
  have hpos:0<ival false b.2:=by have:ival false b.2=nv b.2:=rfl;omega
  have kb:fX false b.2:=⟨hb.1,hb.2.1,fun hc=>by cases hc⟩
  have e:Rat.divInt (ival a.1 a.2) (ival b.1 b.2)=Rat.divInt (- ival a.1 a.2) (ival false b.2):=by rw[hneg,Rat.divInt_neg']
  rw[e,<- Vh ha];by_cases ha1:a.1=true
  ·rw[if_pos ha1]
   have:=Wl k (false,a.2) (false,b.2) ⟨ha.1,ha.2.1,fun hc=>by cases hc⟩ kb h1 h2 hpos;simp only at this;rw[this,ha1];rfl
  ·rw[if_neg ha1]
   have ha2:a.1=false:=by cases h:a.1 <;> simp_all
   have e2:(a.2.toList != ([]:List UInt8))=(!a.1&&decide (0<a.2.size)):=by
    rw[ha2];by_cases hs:0<a.2.size
    ·rw[(Ao hs).2,decide_eq_true hs];rfl
    ·rw[(toList_nil qo).2,decide_eq_false hs];rfl
   rw[e2];have:=Wl k (!a.1&&decide (0<a.2.size),a.2) (false,b.2) (Vg ha) kb h1 h2 hpos;simp only at this;rw[this]
 ·rw[if_neg hb1]
  have hb2:b.1=false:=by cases h:b.1 <;> simp_all
  have hv3:ival b.1 b.2=nv b.2:=by rw[hb2];rfl
  exact Wl k a b ha hb h1 h2 qo
theorem RR:wrap64 (0+1)=1:=by unfold wrap64;omega
theorem YJ:wrap64 (1+1)=2:=by unfold wrap64;omega
theorem adL (k:Nat) (n d:Int) (hn:(pv n).2.size<=15000) (hd:(pv d).2.size<=15000) (h0:d≠0):oU.f (k+1) (pv n).1 (pv n).2 (pv d).1 (pv d).2=some (pq (Rat.divInt n d)):=by
 have:=asA k (pv n) (pv d) (CQ qo) (CQ qo) hn hd (by rw[xj];exact h0);rw[xj,xj]at this
 exact this
theorem M0 (a0:Bool) (a1:ByteArray) (b0:Bool) (b1:ByteArray) (ha:fX a0 a1) (hb:fX b0 b1) (h1:a1.size<=15000) (h2:b1.size<=15000):pO.f a0 a1 b0 b1=some (pv (ival a0 a1*ival b0 b1)):=auW (a:=(a0,a1)) (b:=(b0,b1)) ha hb h1 h2
theorem zk {x y:Int} {k l m:Nat} (hx:(x.natAbs:Int)<256^k) (hy:(y.natAbs:Int)<256^l) (hm:k+l<=m):(pv (x*y)).2.size<=m:=EC (ue hx hy hm)
theorem asB (k:Nat) (a b:RG) (ha:i_ a) (hb:i_ b) (h1:a.2.1.size<=4000) (h2:a.2.2.size<=4000) (h3:b.2.1.size<=4000) (h4:b.2.2.size<=4000) :
  pS.f (k+2) a.1 a.2.1 a.2.2 b.1 b.2.1 b.2.2=some ((pq (rq a*rq b)).1,(pq (rq a*rq b)).2.1,(pq (rq a*rq b)).2.2,0):=by
 unfold pS.f;have e1:jL.f a.1 a.2.1 a.2.2=some (false,a.2.2):=rfl;have e2:jL.f b.1 b.2.1 b.2.2=some (false,b.2.2):=rfl;rw[Wk k a b qo qo qo qo,Option.bind_some,if_pos (yQ.2 ⟨ha,hb⟩),M0 _ _ _ _ ha.kn hb.kn qo qo,Option.bind_some,e1,Option.bind_some,e2,Option.bind_some,M0 _ _ _ _ ha.kd hb.kd qo qo,Option.bind_some];have hp:ival false a.2.2*ival false b.2.2≠0:=by
  have:=Int.mul_pos ha.dp hb.dp;have e:ival false a.2.2*ival false b.2.2=gH a*gH b:=rfl;omega
 rw[adL (k+1) _ _ (zk (k:=4000) (l:=4000) (fD h1) (fD h3) qo) (zk (k:=4000) (l:=4000) (fD h2) (fD h4) qo) hp,Option.bind_some];have e:Rat.divInt (ival a.1 a.2.1*ival b.1 b.2.1) (ival false a.2.2*ival false b.2.2)=rq a*rq b:=QD;rw[e]
theorem Xm (n:Int):pq (Rat.divInt n 1)=((pv n).1,(pv n).2,⟨#[1]⟩):=by
 have hn:=OS (n:=n) (d:=1) qd;have hd:=OT (n:=n) (d:=1) qd;rw[Int.gcd_one_right]at hn hd
 have e1:n / ((1:Nat):Int)=n:=Int.ediv_one n;have e2:(1:Int) / ((1:Nat):Int)=1:=Int.ediv_one 1;rw[e1]at hn
 rw[e2]at hd
 unfold pq;rw[hn,hd,agv]
theorem Iz {a:RG} (h:a.2.2.toList=([1]:List UInt8)):gH a=1:=by
 unfold gH;rw[P9.1 h];exact XU
theorem abc {s:ByteArray} (h:s.size<=32000):sQ s=true↔ij false s=0:=by
 unfold sQ ij;rw[if_neg qo];by_cases hc:0<s.size/\gw s (s.size-1)=0
 ·rw[decide_eq_true hc,if_pos hc]
  exact⟨fun h=>by simp at h,fun h=>absurd h qd⟩
 ·rw[decide_eq_false hc,if_neg hc,if_neg (fun h=>by cases h.1)]
  exact⟨fun _=>rfl,fun _=>rfl⟩
theorem abd (k:Nat) (a:RG) (h1:a.2.1.size<=4000) (h2:a.2.2.size<=4000):gA.f (k+2) a.1 a.2.1 a.2.2=some (rA a):=by
 obtain⟨a0,a1,a2⟩:=a;simp only at h1 h2;unfold gA.f rA;simp only;rw[if_neg qo,if_neg qo,decide_eq_false (by omega:¬ (a2.size:Int) > 8000),show k+2=(k+1)+1 from rfl,gA.j0,if_neg qd];have e1:Ai.f a0 a1=some (ij a0 a1):=rfl;have e2:Cm.f a2=some (sQ a2):=rfl;rw[e1,Option.bind_some];have SQ:gA.j1 (k+1) true=some 1:=rfl;have j1f:gA.j1 (k+1) false=some 0:=rfl;by_cases d1:ij a0 a1=0
 ·rw[if_pos d1,e2,Option.bind_some]
  by_cases d2:ij false a2=0
  ·rw[if_pos ((abc qo).2 d2)]
   by_cases d3:a2.size=0
   ·rw[if_pos (CT.2 d3),SQ,if_pos (.inr (.inr (.inl d3)))]
   ·rw[if_neg (fun hc=>d3 (CT.1 hc))]
    have e3:lZ.f a0 a1 a2=some (false,a2):=rfl;rw[e3,Option.bind_some];have e4:Eo.f a0 a1 false a2=some ((pv ((Nat.gcd (nv a1).toNat (nv a2).toNat:Nat):Int)).1,(pv ((Nat.gcd (nv a1).toNat (nv a2).toNat:Nat):Int)).2):=by
     unfold Eo.f;rw[if_pos ⟨h1,h2⟩]
    rw[e4,Option.bind_some];have hg:Int.gcd (nJ (a0,a1,a2)) (gH (a0,a1,a2))=Nat.gcd (nv a1).toNat (nv a2).toNat:=aat a0 a1 false a2;rw[hg];by_cases d5:Nat.gcd (nv a1).toNat (nv a2).toNat=1
    ·have t:((pv ((Nat.gcd (nv a1).toNat (nv a2).toNat:Nat):Int)).2.toList != ([1]:List UInt8))=false:=bne_eq_false_iff_eq.2 (yO.2 d5)
     simp only[t];rw[j1f,if_neg (fun hc=>by
      rcases hc with hc|hc|hc|hc
      ·exact hc d1
      ·exact hc d2
      ·exact d3 hc
      ·exact hc d5)]
    ·have t:((pv ((Nat.gcd (nv a1).toNat (nv a2).toNat:Nat):Int)).2.toList != ([1]:List UInt8))=true:=bne_iff_ne.2 (fun hc=>d5 (yO.1 hc))
     simp only[t];rw[SQ,if_pos (.inr (.inr (.inr d5)))]
  ·rw[if_neg (fun hc=>d2 ((abc qo).1 hc)),SQ,if_pos (.inr (.inl d2))]
 ·rw[if_neg d1,SQ,if_pos (.inl d1)]
theorem ac2 (k:Nat) (a b:RG) (h1:a.2.1.size<=4000) (h2:a.2.2.size<=4000) (h3:b.2.1.size<=4000) (h4:b.2.2.size<=4000) :
  Ak.f (k+2) a.1 a.2.1 a.2.2 b.1 b.2.1 b.2.2=some (iE a b):=by
 unfold Ak.f iE;rw[abd k a h1 h2,Option.bind_some];split
 ·rw[abd k b h3 h4,Option.bind_some]
 ·rfl
theorem afO {a:RG} (h:i_ a):De (rq a) 0=(if a.1=true then -1 else if a.2.1.size=0 then 0 else 1):=by
 have hq:=h.q.1;have e1:rq a<0↔nJ a<0:=by rw[<- hq,<- Rat.not_le,<- Rat.num_nonneg];omega
 have e2:0<rq a↔0<nJ a:=by rw[<- hq,Rat.lt_iff];simp
 unfold De;simp only[e1,e2];have hk:=h.kn;have hr:nJ a=ival a.1 a.2.1:=rfl;rw[hr];by_cases hz:a.2.1.size=0
 ·have hn:¬ a.1=true:=fun hc=>by have:=hk.2.2 hc;omega
  have e:a.2.1=⟨#[]⟩:=P8 hz;have hv:ival a.1 a.2.1=0:=by unfold ival bF;rw[if_neg hn,e];rfl
  rw[hv,if_neg qo,if_neg qo,if_neg hn,if_pos hz]
 ·have hp:0<nv a.2.1:=V2 hk.2.1 (Nat.pos_of_ne_zero hz)
  by_cases hn:a.1=true
  ·have hv:ival a.1 a.2.1 =-nv a.2.1:=by unfold ival bF;rw[if_pos hn]
   rw[hv,if_pos qo,if_pos hn]
  ·have hv:ival a.1 a.2.1=nv a.2.1:=by unfold ival bF;rw[if_neg hn]
   rw[hv,if_neg qo,if_pos qo,if_neg hn,if_neg hz]
theorem asC {a b:RG} (ha:i_ a) (hb:i_ b) {k:Nat} (h1:a.2.1.size<=k) (h2:a.2.2.size<=k) (h3:b.2.1.size<=k) (h4:b.2.2.size<=k) :
  (pq (rq a+rq b)).2.1.size<=k+k+1/\(pq (rq a+rq b)).2.2.size<=k+k:=by
 rw[<- QC ha hb];have d1:gH b=ival false b.2.2:=rfl;have d2:gH a=ival false a.2.2:=rfl;have hp:=Int.mul_pos ha.dp hb.dp;refine UU hp (V4 (k:=k+k) (ue (k:=k) (l:=k) (fD h1) (fD (n:=false) h4) (Nat.le_refl _)) (ue (k:=k) (l:=k) (fD h3) (fD (n:=false) h2) (Nat.le_refl _)) (Nat.le_refl _)) ?_;have:=ue (k:=k) (l:=k) (m:=k+k) (fD (n:=false) h2) (fD (n:=false) h4) (Nat.le_refl _);rw[<- d1,<- d2]at this
 omega
theorem asD {a b:RG} (ha:i_ a) (hb:i_ b) {k:Nat} (h1:a.2.1.size<=k) (h2:a.2.2.size<=k) (h3:b.2.1.size<=k) (h4:b.2.2.size<=k) :
  (pq (rq a-rq b)).2.1.size<=k+k+1/\(pq (rq a-rq b)).2.2.size<=k+k:=by
 rw[<- aec ha hb];have d1:gH b=ival false b.2.2:=rfl;have d2:gH a=ival false a.2.2:=rfl;have hp:=Int.mul_pos ha.dp hb.dp;refine UU hp (adj (k:=k+k) (ue (k:=k) (l:=k) (fD h1) (fD (n:=false) h4) (Nat.le_refl _)) (ue (k:=k) (l:=k) (fD h3) (fD (n:=false) h2) (Nat.le_refl _)) (Nat.le_refl _)) ?_;have:=ue (k:=k) (l:=k) (m:=k+k) (fD (n:=false) h2) (fD (n:=false) h4) (Nat.le_refl _);rw[<- d1,<- d2]at this
 omega
theorem asE {a b:RG} (ha:i_ a) (hb:i_ b) {k l:Nat} (h1:a.2.1.size<=k) (h2:a.2.2.size<=k) (h3:b.2.1.size<=l) (h4:b.2.2.size<=l) :
  (pq (rq a*rq b)).2.1.size<=k+l/\(pq (rq a*rq b)).2.2.size<=k+l:=by
 rw[<- QD];have d1:gH b=ival false b.2.2:=rfl;have d2:gH a=ival false a.2.2:=rfl;have hp:=Int.mul_pos ha.dp hb.dp;refine UU hp (ue (k:=k) (l:=l) (fD h1) (fD h3) (Nat.le_refl _)) ?_;have:=ue (k:=k) (l:=l) (m:=k+l) (fD (n:=false) h2) (fD (n:=false) h4) (Nat.le_refl _);rw[<- d1,<- d2]at this
 omega
theorem abe (F:Bool->ByteArray->Bool->ByteArray->Option (Bool × ByteArray)) (op:Int->Int->Int) (oq:Rat->Rat->Rat)
  (hF:∀ a0 a1 b0 b1,fX a0 a1->fX b0 b1->a1.size<=15000->b1.size<=15000->F a0 a1 b0 b1=some (pv (op (ival a0 a1) (ival b0 b1))))
  (hB:∀ (x y:Int) (k m:Nat),(x.natAbs:Int)<256^k->(y.natAbs:Int)<256^k->k+1<=m->((op x y).natAbs:Int)<256^m)
  (hQ:∀ a b:RG,i_ a->i_ b->Rat.divInt (op (nJ a*gH b) (nJ b*gH a)) (gH a*gH b)=oq (rq a) (rq b))
  (k:Nat) (a b:RG) (h1:a.2.1.size<=4000) (h2:a.2.2.size<=4000) (h3:b.2.1.size<=4000) (h4:b.2.2.size<=4000) :
  ∃ r:RG,iR.f F (k+2) a.1 a.2.1 a.2.2 b.1 b.2.1 b.2.2=some (r.1,r.2.1,r.2.2,iE a b)/\(iE a b=0->r=pq (oq (rq a) (rq b)))/\(iE a b≠0->r=nor):=by
 unfold iR.f;rw[Wk k a b qo qo qo qo,Option.bind_some];by_cases hb0:iE a b=0
 ·obtain⟨ha,hb⟩:=yQ.1 hb0
  rw[if_pos hb0,hb0];have e1:jL.f a.1 a.2.1 a.2.2=some (false,a.2.2):=rfl;have e2:jL.f b.1 b.2.1 b.2.2=some (false,b.2.2):=rfl;have key:iR.j0 F (k+1+1) false a.1 a.2.1 a.2.2 b.1 b.2.1 b.2.2=some ((pq (oq (rq a) (rq b))).1,(pq (oq (rq a) (rq b))).2.1,(pq (oq (rq a) (rq b))).2.2,0):=by
   rw[iR.j0,if_neg qd];simp only[e1,e2,Option.bind_some];have hp:ival false a.2.2*ival false b.2.2≠0:=by
    have:=Int.mul_pos ha.dp hb.dp;have e:ival false a.2.2*ival false b.2.2=gH a*gH b:=rfl;omega
   have z1:=zk (k:=4000) (l:=4000) (m:=8000) (fD (n:=a.1) h1) (fD (n:=false) h4) qo;have z2:=zk (k:=4000) (l:=4000) (m:=8000) (fD (n:=b.1) h3) (fD (n:=false) h2) qo;have hf:=hF (pv (ival a.1 a.2.1*ival false b.2.2)).1 (pv (ival a.1 a.2.1*ival false b.2.2)).2 (pv (ival b.1 b.2.1*ival false a.2.2)).1 (pv (ival b.1 b.2.1*ival false a.2.2)).2 (CQ qo) (CQ qo) qo qo;rw[xj,xj]at hf
   rw[M0 _ _ _ _ ha.kn hb.kd qo qo,Option.bind_some,M0 _ _ _ _ hb.kn ha.kd qo qo,Option.bind_some,
    hf,Option.bind_some,M0 _ _ _ _ ha.kd hb.kd qo qo,Option.bind_some,
    adL k _ _ (EC (hB _ _ 8000 15000 (ue (k:=4000) (l:=4000) (fD h1) (fD h4) qo) (ue (k:=4000) (l:=4000) (fD h3) (fD h2) qo) qo)) (zk (k:=4000) (l:=4000) (fD h2) (fD h4) qo) hp,Option.bind_some]
   have e:Rat.divInt (op (ival a.1 a.2.1*ival false b.2.2) (ival b.1 b.2.1*ival false a.2.2)) (ival false a.2.2*ival false b.2.2)=oq (rq a) (rq b):=hQ a b ha hb;rw[e]
  by_cases c1:a.2.2.toList=([1]:List UInt8)
  ·rw[if_pos c1]
   by_cases c2:b.2.2.toList=([1]:List UInt8)
   ·rw[beq_iff_eq.2 c2]
    refine⟨pq (oq (rq a) (rq b)),?_,fun _=>rfl,fun hc=>absurd rfl hc⟩;have e:oq (rq a) (rq b)=Rat.divInt (op (ival a.1 a.2.1) (ival b.1 b.2.1)) 1:=by
     rw[<- hQ a b ha hb,Iz c1,Iz c2,Int.mul_one,Int.mul_one,Int.mul_one];rfl
    rw[show k+2=(k+1)+1 from rfl,iR.j0,if_pos rfl,hF _ _ _ _ ha.kn hb.kn qo qo,Option.bind_some,e,Xm]
   ·rw[beq_eq_false_iff_ne.2 c2]
    exact⟨_,key,fun _=>rfl,fun hc=>absurd rfl hc⟩
  ·rw[if_neg c1]
   exact⟨_,key,fun _=>rfl,fun hc=>absurd rfl hc⟩
 ·rw[if_neg hb0]
  exact⟨(false,⟨#[]⟩,⟨#[]⟩),rfl,fun hc=>absurd hc hb0,fun _=>rfl⟩
theorem auX (a0:Bool) (a1:ByteArray) (b0:Bool) (b1:ByteArray) (ha:fX a0 a1) (hb:fX b0 b1) (h1:a1.size<=15000) (h2:b1.size<=15000):Cl.f a0 a1 b0 b1=some (pv (ival a0 a1+ival b0 b1)):=by
 unfold Cl.f Ip.f;rw[if_pos ⟨h1,h2⟩,YI (f:=(·+·)) (a:=(a0,a1)) (b:=(b0,b1)) ha hb];rfl
theorem subs (a0:Bool) (a1:ByteArray) (b0:Bool) (b1:ByteArray) (ha:fX a0 a1) (hb:fX b0 b1) (h1:a1.size<=15000) (h2:b1.size<=15000):Ck.f a0 a1 b0 b1=some (pv (ival a0 a1-ival b0 b1)):=by
 unfold Ck.f Ih.f;rw[if_pos ⟨h1,h2⟩,YI (f:=(·-·)) (a:=(a0,a1)) (b:=(b0,b1)) ha hb];rfl
theorem aoI (k:Nat) (a b:RG) (h1:a.2.1.size<=4000) (h2:a.2.2.size<=4000) (h3:b.2.1.size<=4000) (h4:b.2.2.size<=4000) :
  ∃ r:RG,Fo.f (k+2) a.1 a.2.1 a.2.2 b.1 b.2.1 b.2.2=some (r.1,r.2.1,r.2.2,iE a b)/\(iE a b=0->r=pq (rq a+rq b))/\(iE a b≠0->r=nor):=by
 obtain⟨r,hr,hf⟩:=abe Cl.f (·+·) (·+·) auX (fun _ _ _ _=>V4) (fun _ _ ha hb=>QC ha hb) k a b h1 h2 h3 h4;refine⟨r,?_,hf⟩;unfold Fo.f Kv.f;rw[hr,Option.bind_some]
theorem aoJ (k:Nat) (a b:RG) (h1:a.2.1.size<=4000) (h2:a.2.2.size<=4000) (h3:b.2.1.size<=4000) (h4:b.2.2.size<=4000) :
  ∃ r:RG,Fg.f (k+2) a.1 a.2.1 a.2.2 b.1 b.2.1 b.2.2=some (r.1,r.2.1,r.2.2,iE a b)/\(iE a b=0->r=pq (rq a-rq b))/\(iE a b≠0->r=nor):=by
 obtain⟨r,hr,hf⟩:=abe Ck.f (·-·) (·-·) subs (fun _ _ _ _=>adj) (fun _ _ ha hb=>aec ha hb) k a b h1 h2 h3 h4;refine⟨r,?_,hf⟩;unfold Fg.f Ku.f;rw[hr,Option.bind_some]
theorem aoK (k:Nat) (a b:RG) (h1:a.2.1.size<=4000) (h2:a.2.2.size<=4000) (h3:b.2.1.size<=4000) (h4:b.2.2.size<=4000) :
  ∃ r:RG,pS.f (k+2) a.1 a.2.1 a.2.2 b.1 b.2.1 b.2.2=some (r.1,r.2.1,r.2.2,iE a b)/\(iE a b=0->r=pq (rq a*rq b))/\(iE a b≠0->r=nor):=by
 by_cases hb0:iE a b=0
 ·obtain⟨ha,hb⟩:=yQ.1 hb0
  rw[hb0];exact⟨_,asB k a b ha hb h1 h2 h3 h4,fun _=>rfl,fun hc=>absurd rfl hc⟩
 ·unfold pS.f
  rw[Wk k a b qo qo qo qo,Option.bind_some,if_neg hb0];exact⟨(false,⟨#[]⟩,⟨#[]⟩),rfl,fun hc=>absurd hc hb0,fun _=>rfl⟩
theorem ak_ (k:Nat) (a:RG) (h1:a.2.1.size<=15000) (h2:a.2.2.size<=15000) :
  ∃ s,Ey.f (k+2) a.1 a.2.1 a.2.2=some (s,rA a)/\(rA a=0->s=De (rq a) 0):=by
 unfold Ey.f;rw[IY k a h1 h2,Option.bind_some];by_cases hc:rA a=0
 ·have e:=afO (Cs.1 hc)
  rw[if_pos hc,hc];by_cases n:a.1=true
  ·rw[if_pos n]
   rw[if_pos n]at e
   exact⟨_,rfl,fun _=>e.symm⟩
  ·rw[if_neg n]
   rw[if_neg n]at e
   by_cases z:a.2.1.size=0
   ·rw[if_pos (CT.2 z)]
    rw[if_pos z]at e
    exact⟨_,rfl,fun _=>e.symm⟩
   ·rw[if_neg (fun h=>z (CT.1 h))]
    rw[if_neg z]at e
    exact⟨_,rfl,fun _=>e.symm⟩
 ·rw[if_neg hc]
  exact⟨_,rfl,fun h=>absurd h hc⟩
theorem ah0 {n d:Int} (hn:(pv n).2.size<=1000) (hd:(pv d).2.size<=1000) (h0:d≠0):Ah.f (pv n).1 (pv n).2 (pv d).1 (pv d).2=some (pq (Rat.divInt n d)):=by
 unfold Ah.f;rw[xj,xj,if_pos ⟨hn,hd,sw.2 (CQ qo),sw.2 (CQ qo),h0⟩]
theorem JW {a0:Bool} {a1:ByteArray} {b0:Bool} {b1:ByteArray} (h1:a1.size<=4000) (h2:b1.size<=4000):oT.f a0 a1 b0 b1=some (pv (ival a0 a1*ival b0 b1)):=by
 unfold oT.f;rw[if_pos ⟨h1,h2⟩]
theorem ah1 {a0:Bool} {a1:ByteArray} {b0:Bool} {b1:ByteArray} (h1:a1.size<=4000) (h2:b1.size<=4000):yF.f a0 a1 b0 b1=some (pv (ival a0 a1+ival b0 b1)):=by
 unfold yF.f;rw[if_pos ⟨h1,h2⟩]
theorem OH (k:Nat) (a b:RG) (ha:i_ a) (hb:i_ b) (h1:a.2.1.size<=500) (h2:a.2.2.size<=500) (h3:b.2.1.size<=500) (h4:b.2.2.size<=500) :
  jG.f (k+1) a.1 a.2.1 a.2.2 b.1 b.2.1 b.2.2=some (pq (rq a*rq b)):=by
 have key:jG.j0 (k+1) false a.1 a.2.1 a.2.2 b.1 b.2.1 b.2.2=some (pq (rq a*rq b)):=by
  have e1:lZ.f a.1 a.2.1 a.2.2=some (false,a.2.2):=rfl;have e2:lZ.f b.1 b.2.1 b.2.2=some (false,b.2.2):=rfl;rw[jG.j0,if_neg qd,JW (by first|omega|(dsimp only;omega)) (by first|omega|(dsimp only;omega)),Option.bind_some,e1,Option.bind_some,e2,Option.bind_some,JW (by first|omega|(dsimp only;omega)) (by first|omega|(dsimp only;omega)),Option.bind_some];have hp:ival false a.2.2*ival false b.2.2≠0:=by
   have:=Int.mul_pos ha.dp hb.dp;have e:ival false a.2.2*ival false b.2.2=gH a*gH b:=rfl;omega
  rw[ah0 (zk (k:=500) (l:=500) (fD h1) (fD h3) qo) (zk (k:=500) (l:=500) (fD h2) (fD h4) qo) hp,Option.bind_some];have e:Rat.divInt (ival a.1 a.2.1*ival b.1 b.2.1) (ival false a.2.2*ival false b.2.2)=rq a*rq b:=QD;rw[e]
 unfold jG.f;by_cases c1:a.2.2.toList=([1]:List UInt8)
 ·rw[if_pos c1]
  by_cases c2:b.2.2.toList=([1]:List UInt8)
  ·rw[beq_iff_eq.2 c2,jG.j0,if_pos rfl,JW (by first|omega|(dsimp only;omega)) (by first|omega|(dsimp only;omega)),Option.bind_some]
   have e:rq a*rq b=Rat.divInt (ival a.1 a.2.1*ival b.1 b.2.1) 1:=by
    rw[<- QD,Iz c1,Iz c2];rfl
   rw[e,Xm]
  ·rw[beq_eq_false_iff_ne.2 c2]
   exact key
 ·rw[if_neg c1]
  exact key
theorem adM (k:Nat) (a b:RG) (ha:i_ a) (hb:i_ b) (h1:a.2.1.size<=400) (h2:a.2.2.size<=400) (h3:b.2.1.size<=400) (h4:b.2.2.size<=400) :
  iQ.f (k+1) a.1 a.2.1 a.2.2 b.1 b.2.1 b.2.2=some (pq (rq a+rq b)):=by
 have key:iQ.j0 (k+1) false a.1 a.2.1 a.2.2 b.1 b.2.1 b.2.2=some (pq (rq a+rq b)):=by
  have e1:lZ.f a.1 a.2.1 a.2.2=some (false,a.2.2):=rfl;have e2:lZ.f b.1 b.2.1 b.2.2=some (false,b.2.2):=rfl;have z1:=zk (k:=400) (l:=400) (m:=800) (fD (n:=a.1) h1) (fD (n:=false) h4) qo;have z2:=zk (k:=400) (l:=400) (m:=800) (fD (n:=b.1) h3) (fD (n:=false) h2) qo;have hp:ival false a.2.2*ival false b.2.2≠0:=by
   have:=Int.mul_pos ha.dp hb.dp;have e:ival false a.2.2*ival false b.2.2=gH a*gH b:=rfl;omega
  rw[iQ.j0,if_neg qd];simp only[e1,e2,Option.bind_some]
  rw[JW qo qo,Option.bind_some,JW qo qo,Option.bind_some,ah1 qo qo,Option.bind_some,xj,xj,JW qo qo,Option.bind_some,
   ah0 (EC (V4 (k:=800) (ue (k:=400) (l:=400) (fD h1) (fD h4) qo) (ue (k:=400) (l:=400) (fD h3) (fD h2) qo) qo)) (zk (k:=400) (l:=400) (fD h2) (fD h4) qo) hp,Option.bind_some]
  have e:Rat.divInt (ival a.1 a.2.1*ival false b.2.2+ival b.1 b.2.1*ival false a.2.2) (ival false a.2.2*ival false b.2.2)=rq a+rq b:=QC ha hb;rw[e]
 unfold iQ.f;by_cases c1:a.2.2.toList=([1]:List UInt8)
 ·rw[if_pos c1]
  by_cases c2:b.2.2.toList=([1]:List UInt8)
  ·rw[beq_iff_eq.2 c2,iQ.j0,if_pos rfl,ah1 qo qo,Option.bind_some]
   have e:rq a+rq b=Rat.divInt (ival a.1 a.2.1+ival b.1 b.2.1) 1:=by
    rw[<- QC ha hb,Iz c1,Iz c2,Int.mul_one,Int.mul_one,Int.mul_one];rfl
   rw[e,Xm]
  ·rw[beq_eq_false_iff_ne.2 c2]
   exact key
 ·rw[if_neg c1]
  exact key
def N_ (a:RG):RG:=(!a.1&&decide (0<a.2.1.size),a.2.1,a.2.2)
theorem ac3 {a:RG} (h:i_ a):nJ (N_ a) =-nJ a:=Vh h.kn
theorem asF {a:RG} (h:i_ a):i_ (N_ a):=by
 refine⟨h.sn,h.sd,Vg h.kn,h.kd,h.nz,?_⟩;rw[ac3 h,Int.neg_gcd];exact h.co
theorem asG {a:RG} (h:i_ a):rq (N_ a) =-rq a:=by
 unfold rq;rw[ac3 h,Rat.neg_divInt];rfl
theorem VV (k:Nat) (a b:RG) (ha:i_ a) (hb:i_ b) (h1:a.2.1.size<=400) (h2:a.2.2.size<=400) (h3:b.2.1.size<=400) (h4:b.2.2.size<=400) :
  wW.f (k+1) a.1 a.2.1 a.2.2 b.1 b.2.1 b.2.2=some (pq (rq a-rq b)):=by
 have e:Hv.f b.1 b.2.1 b.2.2=some (N_ b):=rfl;have h:=adM k a (N_ b) ha (asF hb) h1 h2 h3 h4;unfold wW.f;rw[e,Option.bind_some,h,Option.bind_some,asG hb,<- Rat.sub_eq_add_neg]
theorem ac4 {a:RG} (h:i_ a):Aj.f a.1 a.2.1 a.2.2=some (De (rq a) 0):=by
 rw[afO h];unfold Aj.f;by_cases n:a.1=true
 ·rw[if_pos n,if_pos n]
 ·rw[if_neg n,if_neg n]
  by_cases z:a.2.1.size=0
  ·rw[if_pos (CT.2 z),if_pos z]
  ·rw[if_neg (fun hc=>z (CT.1 hc)),if_neg z]
end Go.Proofs.YtfcjnhkkfmgmpaaGreat
