import Derived.Test.YtcmepkhjggpmeaaGreatZuG40
set_option linter.all false
set_option maxRecDepth 100000
set_option maxHeartbeats 8000000
namespace Go.Proofs.YtcmepkhjggpmeaaGreat
open Go.RowKit aP Go.Proofs.aF.R Go.Proofs.aD.aY
theorem arK {n:Bool} {s:ByteArray}:vE.f n s=some (gF n s):=rfl
theorem ael {a b:Bool × ByteArray} (ha:fC a.1 a.2) (hb:fC b.1 b.2) (h1:a.2.size<=15000) (h2:b.2.size<=15000) :
  sH.f a.1 a.2 b.1 b.2=some (false,(pv ((Int.gcd (ival a.1 a.2) (ival b.1 b.2):Nat):Int)).2,0):=by
 unfold sH.f BZ;rw[if_pos ⟨h1,h2⟩,if_neg (fun hc=>hc (Bd.2 ⟨ha,hb⟩)),R6 qo]
theorem aem {a b:Bool × ByteArray} (ha:fC a.1 a.2) (hb:fC b.1 b.2) (h1:a.2.size<=15000) (h2:b.2.size<=15000) (h0:ival b.1 b.2≠0) :
  yu.f a.1 a.2 b.1 b.2=some ((pv (ival a.1 a.2 / ival b.1 b.2)).1,(pv (ival a.1 a.2 / ival b.1 b.2)).2,(pv (ival a.1 a.2%ival b.1 b.2)).1,(pv (ival a.1 a.2%ival b.1 b.2)).2,0):=by
 unfold yu.f uO;have h3:¬ nv b.2=0:=fun hc=>h0 (by unfold ival bk;split <;> omega);simp only[if_pos (And.intro h1 h2),if_neg (fun hc=>hc (Bd.2 ⟨ha,hb⟩):¬ gJ a.1 a.2 b.1 b.2≠0),if_neg h3]
theorem VC {f:Int->Int->Int} {a b:Bool × ByteArray} (ha:fC a.1 a.2) (hb:fC b.1 b.2):lJ f a b=(pv (f (ival a.1 a.2) (ival b.1 b.2)),0):=aik (Bd.2 ⟨ha,hb⟩)
theorem arL {a b:Bool × ByteArray} (ha:fC a.1 a.2) (hb:fC b.1 b.2) (h1:a.2.size<=15000) (h2:b.2.size<=15000) :
  oP.f a.1 a.2 b.1 b.2=some ((pv (ival a.1 a.2*ival b.1 b.2)).1,(pv (ival a.1 a.2*ival b.1 b.2)).2):=by
 unfold oP.f Fw.f;rw[if_pos ⟨h1,h2⟩,VC ha hb];rfl
theorem Nb (k:Nat) (a:RG) (h1:a.2.1.size<=15000) (h2:a.2.2.size<=15000):eN.f (k+2) a.1 a.2.1 a.2.2=some (sU a):=by
 obtain⟨a0,a1,a2⟩:=a;simp only at h1 h2;unfold eN.f sU;simp only;by_cases c1:8000<a1.size
 ·rw[if_pos qo,if_pos (.inl c1)]
  rfl
 ·rw[if_neg qo]
  by_cases c2:8000<a2.size
  ·rw[if_pos (.inr c2)]
   simp only[eN.j0];rw[if_pos (decide_eq_true qo)]
  ·rw[if_neg qo]
   simp only[eN.j0,arK,Option.bind_some,je.f];rw[if_neg (by rw[decide_eq_false qo];decide)];by_cases d1:gF a0 a1=0
   ·by_cases d2:gF false a2=0
    ·rw[if_pos d1,if_pos d2]
     simp only[eN.j1,je.f,Option.bind_some];by_cases d3:a2.size=0
     ·rw[if_pos (by rw[beq_iff_eq];exact BF.2 d3),if_pos (.inr (.inr (.inl d3)))]
     ·rw[if_neg (by rw[beq_iff_eq];exact fun hc=>d3 (BF.1 hc))]
      have k1:=q9.1 d1;have k2:=q9.1 d2;have hg:=ael (a:=(a0,a1)) (b:=(false,a2)) k1 k2 h1 h2;simp only at hg;rw[hg];simp only[Option.bind_some];have hr:eV (a0,a1,a2)=ival false a2:=rfl;have hn:k9 (a0,a1,a2)=ival a0 a1:=rfl;rw[hr,hn];by_cases d4:a2.toList=([1]:List UInt8)
      ·have e:ival false a2=1:=by rw[Np.1 d4];exact UY
       rw[if_pos d4,if_neg (fun hc=>by
        rcases hc with hc|hc|hc|hc
        ·exact hc d1
        ·exact hc d2
        ·exact d3 hc
        ·rw[e,Int.gcd_one_right]at hc;exact hc rfl)]
      ·rw[if_neg d4]
       by_cases d5:Int.gcd (ival a0 a1) (ival false a2)=1
       ·rw[if_pos (xu.2 d5),if_neg (fun hc=>by
         rcases hc with hc|hc|hc|hc
         ·exact hc d1
         ·exact hc d2
         ·exact d3 hc
         ·exact hc d5)]
       ·rw[if_neg (fun hc=>d5 (xu.1 hc)),if_pos (.inr (.inr (.inr d5)))]
    ·rw[if_pos d1,if_neg d2,if_pos (.inr (.inl d2))]
     rfl
   ·rw[if_neg d1,if_pos (.inl d1)]
    rfl
def lQ (a b:RG):Int:=if sU a=0 then sU b else sU a
theorem DG {a b:RG}:lQ a b=0↔gZ a/\gZ b:=by
 unfold lQ;split
 ·rename_i h;rw[Bf];exact⟨fun hb=>⟨Bf.1 h,hb⟩,fun hb=>hb.2⟩
 ·rename_i h;exact⟨fun hc=>absurd hc h,fun hc=>absurd (Bf.2 hc.1) h⟩
theorem Tj (k:Nat) (a b:RG) (h1:a.2.1.size<=15000) (h2:a.2.2.size<=15000) (h3:b.2.1.size<=15000) (h4:b.2.2.size<=15000) :
  vJ.f (k+2) a.1 a.2.1 a.2.2 b.1 b.2.1 b.2.2=some (lQ a b):=by
 unfold vJ.f lQ;rw[Nb k a h1 h2,Option.bind_some];split
 ·rw[Nb k b h3 h4,Option.bind_some]
 ·rfl
theorem Tk (k:Nat) (a b:Bool × ByteArray) (ha:fC a.1 a.2) (hb:fC b.1 b.2) (h1:a.2.size<=15000) (h2:b.2.size<=15000) (hp:0<ival b.1 b.2) :
  oc.j0 (k+1) a.1 a.2 b.1 b.2=some (pq (Rat.divInt (ival a.1 a.2) (ival b.1 b.2))):=by
 have Ic:b.1=false:=by
  cases hb1:b.1
  ·rfl
  ·exfalso
   have:=(jg b.2).1;unfold ival bk at hp;rw[hb1,if_pos rfl]at hp
   omega
 have Lf:=YM (n:=ival a.1 a.2) hp;simp only[oc.j0,CW.f];rw[ael ha hb h1 h2];simp only[Option.map_some,Option.bind_some];obtain⟨G,hG⟩:∃ G,Int.gcd (ival a.1 a.2) (ival b.1 b.2)=G:=⟨_,rfl⟩
 have hn:=Mz (n:=ival a.1 a.2) hp;have hd:=MA (n:=ival a.1 a.2) hp;rw[hG]at hn hd Lf ⊢
 unfold pq;rw[hn,hd];by_cases h:G=1
 ·rw[if_pos (xu.2 h),h]
  have e1:ival a.1 a.2 / ((1:Nat):Int)=ival a.1 a.2:=Int.ediv_one _;have e2:ival b.1 b.2 / ((1:Nat):Int)=ival b.1 b.2:=Int.ediv_one _;rw[e1,e2,YI ha,YI hb]
 ·rw[if_neg (fun hc=>h (xu.1 hc))]
  have sG:(pv (G:Int)).2.size<=15000:=Dd (by
   have:=nE h2;have h5:=Int.gcd_le_natAbs_right (ival a.1 a.2) (show ival b.1 b.2≠0 by omega);have h6:=fM (n:=b.1) h2;rw[hG]at h5
   rw[Int.natAbs_natCast];omega)
  have kG:fC false (pv (G:Int)).2:=Z9 qo qo;have iG:ival false (pv (G:Int)).2=G:=YL qo;have q1:=aem (a:=a) (b:=(false,(pv (G:Int)).2)) ha kG h1 sG (by simp only[iG];omega);have q2:=aem (a:=b) (b:=(false,(pv (G:Int)).2)) hb kG h2 sG (by simp only[iG];omega);simp only at q1 q2;rw[q1,q2];simp only[Option.bind_some,iG]
theorem apy (k:Nat) (a b:Bool × ByteArray) (ha:fC a.1 a.2) (hb:fC b.1 b.2) (h1:a.2.size<=15000) (h2:b.2.size<=15000) (h0:ival b.1 b.2≠0) :
  oc.f (k+1) a.1 a.2 b.1 b.2=some (pq (Rat.divInt (ival a.1 a.2) (ival b.1 b.2))):=by
 unfold oc.f;have hv:=(jg b.2).1;have hv2:=(jg a.2).1;by_cases hb1:b.1=true
 ·rw[if_pos hb1]
  have hneg:ival b.1 b.2 =-ival false b.2:=by rw[hb1];rfl
  have hpos:0<ival false b.2:=by have:ival false b.2=nv b.2:=rfl;omega
  have kb:fC false b.2:=⟨hb.1,hb.2.1,fun hc=>by cases hc⟩
  have e:Rat.divInt (ival a.1 a.2) (ival b.1 b.2)=Rat.divInt (- ival a.1 a.2) (ival false b.2):=by rw[hneg,Rat.divInt_neg']
  rw[e,<- R8 ha];by_cases ha1:a.1=true
  ·rw[if_pos ha1]
   have:=Tk k (false,a.2) (false,b.2) ⟨ha.1,ha.2.1,fun hc=>by cases hc⟩ kb h1 h2 hpos;simp only at this;rw[this,ha1];rfl
  ·rw[if_neg ha1]
   have ha2:a.1=false:=by cases h:a.1 <;> simp_all
   have e2:(a.2.toList != ([]:List UInt8))=(!a.1&&decide (0<a.2.size)):=by
    rw[ha2];by_cases hs:0<a.2.size
    ·rw[(yt hs).2,decide_eq_true hs];rfl
    ·rw[(toList_nil qo).2,decide_eq_false hs];rfl
   rw[e2];have:=Tk k (!a.1&&decide (0<a.2.size),a.2) (false,b.2) (R7 ha) kb h1 h2 hpos;simp only at this;rw[this]
 ·rw[if_neg hb1]
  have hb2:b.1=false:=by cases h:b.1 <;> simp_all
  have hv3:ival b.1 b.2=nv b.2:=by rw[hb2];rfl
  exact Tk k a b ha hb h1 h2 qo
theorem arM:wrap64 (0+1)=1:=by unfold wrap64;omega
theorem arN:wrap64 (1+1)=2:=by unfold wrap64;omega
theorem aao (k:Nat) (n d:Int) (hn:(pv n).2.size<=15000) (hd:(pv d).2.size<=15000) (h0:d≠0):oc.f (k+1) (pv n).1 (pv n).2 (pv d).1 (pv d).2=some (pq (Rat.divInt n d)):=by
 have:=apy k (pv n) (pv d) (BD qo) (BD qo) hn hd (by rw[vO];exact h0);rw[vO,vO]at this
 exact this
theorem KG (a0:Bool) (a1:ByteArray) (b0:Bool) (b1:ByteArray) (ha:fC a0 a1) (hb:fC b0 b1) (h1:a1.size<=15000) (h2:b1.size<=15000):oP.f a0 a1 b0 b1=some (pv (ival a0 a1*ival b0 b1)):=arL (a:=(a0,a1)) (b:=(b0,b1)) ha hb h1 h2
theorem xI {x y:Int} {k l m:Nat} (hx:(x.natAbs:Int)<256^k) (hy:(y.natAbs:Int)<256^l) (hm:k+l<=m):(pv (x*y)).2.size<=m:=Dd (uB hx hy hm)
theorem apz (k:Nat) (a b:RG) (ha:gZ a) (hb:gZ b) (h1:a.2.1.size<=4000) (h2:a.2.2.size<=4000) (h3:b.2.1.size<=4000) (h4:b.2.2.size<=4000) :
  oV.f (k+2) a.1 a.2.1 a.2.2 b.1 b.2.1 b.2.2=some ((pq (rq a*rq b)).1,(pq (rq a*rq b)).2.1,(pq (rq a*rq b)).2.2,0):=by
 unfold oV.f;have e1:je.f a.1 a.2.1 a.2.2=some (false,a.2.2):=rfl;have e2:je.f b.1 b.2.1 b.2.2=some (false,b.2.2):=rfl;rw[Tj k a b qo qo qo qo,Option.bind_some,if_pos (DG.2 ⟨ha,hb⟩),KG _ _ _ _ ha.kn hb.kn qo qo,Option.bind_some,e1,Option.bind_some,e2,Option.bind_some,KG _ _ _ _ ha.kd hb.kd qo qo,Option.bind_some];have hp:ival false a.2.2*ival false b.2.2≠0:=by
  have:=Int.mul_pos ha.dp hb.dp;have e:ival false a.2.2*ival false b.2.2=eV a*eV b:=rfl;omega
 rw[aao (k+1) _ _ (xI (k:=4000) (l:=4000) (fM h1) (fM h3) qo) (xI (k:=4000) (l:=4000) (fM h2) (fM h4) qo) hp,Option.bind_some];have e:Rat.divInt (ival a.1 a.2.1*ival b.1 b.2.1) (ival false a.2.2*ival false b.2.2)=rq a*rq b:=NY;rw[e]
theorem Uu (n:Int):pq (Rat.divInt n 1)=((pv n).1,(pv n).2,⟨#[1]⟩):=by
 have hn:=Mz (n:=n) (d:=1) qd;have hd:=MA (n:=n) (d:=1) qd;rw[Int.gcd_one_right]at hn hd
 have e1:n / ((1:Nat):Int)=n:=Int.ediv_one n;have e2:(1:Int) / ((1:Nat):Int)=1:=Int.ediv_one 1;rw[e1]at hn
 rw[e2]at hd
 unfold pq;rw[hn,hd,acO]
theorem FQ {a:RG} (h:a.2.2.toList=([1]:List UInt8)):eV a=1:=by
 unfold eV;rw[Np.1 h];exact UY
theorem Yq {s:ByteArray} (h:s.size<=32000):rG s=true↔gF false s=0:=by
 unfold rG gF;rw[if_neg qo];by_cases hc:0<s.size/\fF s (s.size-1)=0
 ·rw[decide_eq_true hc,if_pos hc]
  exact⟨fun h=>by simp at h,fun h=>absurd h qd⟩
 ·rw[decide_eq_false hc,if_neg hc,if_neg (fun h=>by cases h.1)]
  exact⟨fun _=>rfl,fun _=>rfl⟩
theorem Yr (k:Nat) (a:RG) (h1:a.2.1.size<=4000) (h2:a.2.2.size<=4000):fG.f (k+2) a.1 a.2.1 a.2.2=some (sU a):=by
 obtain⟨a0,a1,a2⟩:=a;simp only at h1 h2;unfold fG.f sU;simp only;rw[if_neg qo,if_neg qo,decide_eq_false (by omega:¬ (a2.size:Int) > 8000),show k+2=(k+1)+1 from rfl,fG.j0,if_neg qd];have e1:yj.f a0 a1=some (gF a0 a1):=rfl;have e2:AU.f a2=some (rG a2):=rfl;rw[e1,Option.bind_some];have PZ:fG.j1 (k+1) true=some 1:=rfl;have j1f:fG.j1 (k+1) false=some 0:=rfl;by_cases d1:gF a0 a1=0
 ·rw[if_pos d1,e2,Option.bind_some]
  by_cases d2:gF false a2=0
  ·rw[if_pos ((Yq qo).2 d2)]
   by_cases d3:a2.size=0
   ·rw[if_pos (BF.2 d3),PZ,if_pos (.inr (.inr (.inl d3)))]
   ·rw[if_neg (fun hc=>d3 (BF.1 hc))]
    have e3:kS.f a0 a1 a2=some (false,a2):=rfl;rw[e3,Option.bind_some];have e4:CX.f a0 a1 false a2=some ((pv ((Nat.gcd (nv a1).toNat (nv a2).toNat:Nat):Int)).1,(pv ((Nat.gcd (nv a1).toNat (nv a2).toNat:Nat):Int)).2):=by
     unfold CX.f;rw[if_pos ⟨h1,h2⟩]
    rw[e4,Option.bind_some];have hg:Int.gcd (k9 (a0,a1,a2)) (eV (a0,a1,a2))=Nat.gcd (nv a1).toNat (nv a2).toNat:=XB a0 a1 false a2;rw[hg];by_cases d5:Nat.gcd (nv a1).toNat (nv a2).toNat=1
    ·have t:((pv ((Nat.gcd (nv a1).toNat (nv a2).toNat:Nat):Int)).2.toList != ([1]:List UInt8))=false:=bne_eq_false_iff_eq.2 (xu.2 d5)
     simp only[t];rw[j1f,if_neg (fun hc=>by
      rcases hc with hc|hc|hc|hc
      ·exact hc d1
      ·exact hc d2
      ·exact d3 hc
      ·exact hc d5)]
    ·have t:((pv ((Nat.gcd (nv a1).toNat (nv a2).toNat:Nat):Int)).2.toList != ([1]:List UInt8))=true:=bne_iff_ne.2 (fun hc=>d5 (xu.1 hc))
     simp only[t];rw[PZ,if_pos (.inr (.inr (.inr d5)))]
  ·rw[if_neg (fun hc=>d2 ((Yq qo).1 hc)),PZ,if_pos (.inr (.inl d2))]
 ·rw[if_neg d1,PZ,if_pos (.inl d1)]
theorem alr (k:Nat) (a b:RG) (h1:a.2.1.size<=4000) (h2:a.2.2.size<=4000) (h3:b.2.1.size<=4000) (h4:b.2.2.size<=4000) :
  AV.f (k+2) a.1 a.2.1 a.2.2 b.1 b.2.1 b.2.2=some (lQ a b):=by
 unfold AV.f lQ;rw[Yr k a h1 h2,Option.bind_some];split
 ·rw[Yr k b h3 h4,Option.bind_some]
 ·rfl
theorem abX {a:RG} (h:gZ a):El (rq a) 0=(if a.1=true then -1 else if a.2.1.size=0 then 0 else 1):=by
 have hq:=h.q.1;have e1:rq a<0↔k9 a<0:=by rw[<- hq,<- Rat.not_le,<- Rat.num_nonneg];omega
 have e2:0<rq a↔0<k9 a:=by rw[<- hq,Rat.lt_iff];simp
 unfold El;simp only[e1,e2];have hk:=h.kn;have hr:k9 a=ival a.1 a.2.1:=rfl;rw[hr];by_cases hz:a.2.1.size=0
 ·have hn:¬ a.1=true:=fun hc=>by have:=hk.2.2 hc;omega
  have e:a.2.1=⟨#[]⟩:=Nn hz;have hv:ival a.1 a.2.1=0:=by unfold ival bk;rw[if_neg hn,e];rfl
  rw[hv,if_neg qo,if_neg qo,if_neg hn,if_pos hz]
 ·have hp:0<nv a.2.1:=SR hk.2.1 (Nat.pos_of_ne_zero hz)
  by_cases hn:a.1=true
  ·have hv:ival a.1 a.2.1 =-nv a.2.1:=by unfold ival bk;rw[if_pos hn]
   rw[hv,if_pos qo,if_pos hn]
  ·have hv:ival a.1 a.2.1=nv a.2.1:=by unfold ival bk;rw[if_neg hn]
   rw[hv,if_neg qo,if_pos qo,if_neg hn,if_neg hz]
theorem apA {a b:RG} (ha:gZ a) (hb:gZ b) {k:Nat} (h1:a.2.1.size<=k) (h2:a.2.2.size<=k) (h3:b.2.1.size<=k) (h4:b.2.2.size<=k) :
  (pq (rq a-rq b)).2.1.size<=k+k+1/\(pq (rq a-rq b)).2.2.size<=k+k:=by
 rw[<- aaS ha hb];have d1:eV b=ival false b.2.2:=rfl;have d2:eV a=ival false a.2.2:=rfl;have hp:=Int.mul_pos ha.dp hb.dp;refine RD hp (Z8 (k:=k+k) (uB (k:=k) (l:=k) (fM h1) (fM (n:=false) h4) (Nat.le_refl _)) (uB (k:=k) (l:=k) (fM h3) (fM (n:=false) h2) (Nat.le_refl _)) (Nat.le_refl _)) ?_;have:=uB (k:=k) (l:=k) (m:=k+k) (fM (n:=false) h2) (fM (n:=false) h4) (Nat.le_refl _);rw[<- d1,<- d2]at this
 omega
theorem apB {a b:RG} (ha:gZ a) (hb:gZ b) {k l:Nat} (h1:a.2.1.size<=k) (h2:a.2.2.size<=k) (h3:b.2.1.size<=l) (h4:b.2.2.size<=l) :
  (pq (rq a*rq b)).2.1.size<=k+l/\(pq (rq a*rq b)).2.2.size<=k+l:=by
 rw[<- NY];have d1:eV b=ival false b.2.2:=rfl;have d2:eV a=ival false a.2.2:=rfl;have hp:=Int.mul_pos ha.dp hb.dp;refine RD hp (uB (k:=k) (l:=l) (fM h1) (fM h3) (Nat.le_refl _)) ?_;have:=uB (k:=k) (l:=l) (m:=k+l) (fM (n:=false) h2) (fM (n:=false) h4) (Nat.le_refl _);rw[<- d1,<- d2]at this
 omega
theorem Yt (F:Bool->ByteArray->Bool->ByteArray->Option (Bool × ByteArray)) (op:Int->Int->Int) (oq:Rat->Rat->Rat)
  (hF:∀ a0 a1 b0 b1,fC a0 a1->fC b0 b1->a1.size<=15000->b1.size<=15000->F a0 a1 b0 b1=some (pv (op (ival a0 a1) (ival b0 b1))))
  (hB:∀ (x y:Int) (k m:Nat),(x.natAbs:Int)<256^k->(y.natAbs:Int)<256^k->k+1<=m->((op x y).natAbs:Int)<256^m)
  (hQ:∀ a b:RG,gZ a->gZ b->Rat.divInt (op (k9 a*eV b) (k9 b*eV a)) (eV a*eV b)=oq (rq a) (rq b))
  (k:Nat) (a b:RG) (h1:a.2.1.size<=4000) (h2:a.2.2.size<=4000) (h3:b.2.1.size<=4000) (h4:b.2.2.size<=4000) :
  ∃ r:RG,gW.f F (k+2) a.1 a.2.1 a.2.2 b.1 b.2.1 b.2.2=some (r.1,r.2.1,r.2.2,lQ a b)/\(lQ a b=0->r=pq (oq (rq a) (rq b)))/\(lQ a b≠0->r=nor):=by
 unfold gW.f;rw[Tj k a b qo qo qo qo,Option.bind_some];by_cases hb0:lQ a b=0
 ·obtain⟨ha,hb⟩:=DG.1 hb0
  rw[if_pos hb0,hb0];have e1:je.f a.1 a.2.1 a.2.2=some (false,a.2.2):=rfl;have e2:je.f b.1 b.2.1 b.2.2=some (false,b.2.2):=rfl;have key:gW.j0 F (k+1+1) false a.1 a.2.1 a.2.2 b.1 b.2.1 b.2.2=some ((pq (oq (rq a) (rq b))).1,(pq (oq (rq a) (rq b))).2.1,(pq (oq (rq a) (rq b))).2.2,0):=by
   rw[gW.j0,if_neg qd];simp only[e1,e2,Option.bind_some];have hp:ival false a.2.2*ival false b.2.2≠0:=by
    have:=Int.mul_pos ha.dp hb.dp;have e:ival false a.2.2*ival false b.2.2=eV a*eV b:=rfl;omega
   have z1:=xI (k:=4000) (l:=4000) (m:=8000) (fM (n:=a.1) h1) (fM (n:=false) h4) qo;have z2:=xI (k:=4000) (l:=4000) (m:=8000) (fM (n:=b.1) h3) (fM (n:=false) h2) qo;have hf:=hF (pv (ival a.1 a.2.1*ival false b.2.2)).1 (pv (ival a.1 a.2.1*ival false b.2.2)).2 (pv (ival b.1 b.2.1*ival false a.2.2)).1 (pv (ival b.1 b.2.1*ival false a.2.2)).2 (BD qo) (BD qo) qo qo;rw[vO,vO]at hf
   rw[KG _ _ _ _ ha.kn hb.kd qo qo,Option.bind_some,KG _ _ _ _ hb.kn ha.kd qo qo,Option.bind_some,
    hf,Option.bind_some,KG _ _ _ _ ha.kd hb.kd qo qo,Option.bind_some,
    aao k _ _ (Dd (hB _ _ 8000 15000 (uB (k:=4000) (l:=4000) (fM h1) (fM h4) qo) (uB (k:=4000) (l:=4000) (fM h3) (fM h2) qo) qo)) (xI (k:=4000) (l:=4000) (fM h2) (fM h4) qo) hp,Option.bind_some]
   have e:Rat.divInt (op (ival a.1 a.2.1*ival false b.2.2) (ival b.1 b.2.1*ival false a.2.2)) (ival false a.2.2*ival false b.2.2)=oq (rq a) (rq b):=hQ a b ha hb;rw[e]
  by_cases c1:a.2.2.toList=([1]:List UInt8)
  ·rw[if_pos c1]
   by_cases c2:b.2.2.toList=([1]:List UInt8)
   ·rw[beq_iff_eq.2 c2]
    refine⟨pq (oq (rq a) (rq b)),?_,fun _=>rfl,fun hc=>absurd rfl hc⟩;have e:oq (rq a) (rq b)=Rat.divInt (op (ival a.1 a.2.1) (ival b.1 b.2.1)) 1:=by
     rw[<- hQ a b ha hb,FQ c1,FQ c2,Int.mul_one,Int.mul_one,Int.mul_one];rfl
    rw[show k+2=(k+1)+1 from rfl,gW.j0,if_pos rfl,hF _ _ _ _ ha.kn hb.kn qo qo,Option.bind_some,e,Uu]
   ·rw[beq_eq_false_iff_ne.2 c2]
    exact⟨_,key,fun _=>rfl,fun hc=>absurd rfl hc⟩
  ·rw[if_neg c1]
   exact⟨_,key,fun _=>rfl,fun hc=>absurd rfl hc⟩
 ·rw[if_neg hb0]
  exact⟨(false,⟨#[]⟩,⟨#[]⟩),rfl,fun hc=>absurd hc hb0,fun _=>rfl⟩
theorem arO (a0:Bool) (a1:ByteArray) (b0:Bool) (b1:ByteArray) (ha:fC a0 a1) (hb:fC b0 b1) (h1:a1.size<=15000) (h2:b1.size<=15000):AR.f a0 a1 b0 b1=some (pv (ival a0 a1+ival b0 b1)):=by
 unfold AR.f FJ.f;rw[if_pos ⟨h1,h2⟩,VC (f:=(·+·)) (a:=(a0,a1)) (b:=(b0,b1)) ha hb];rfl
theorem subs (a0:Bool) (a1:ByteArray) (b0:Bool) (b1:ByteArray) (ha:fC a0 a1) (hb:fC b0 b1) (h1:a1.size<=15000) (h2:b1.size<=15000):AQ.f a0 a1 b0 b1=some (pv (ival a0 a1-ival b0 b1)):=by
 unfold AQ.f FC.f;rw[if_pos ⟨h1,h2⟩,VC (f:=(·-·)) (a:=(a0,a1)) (b:=(b0,b1)) ha hb];rfl
theorem als (k:Nat) (a b:RG) (h1:a.2.1.size<=4000) (h2:a.2.2.size<=4000) (h3:b.2.1.size<=4000) (h4:b.2.2.size<=4000) :
  ∃ r:RG,BC.f (k+2) a.1 a.2.1 a.2.2 b.1 b.2.1 b.2.2=some (r.1,r.2.1,r.2.2,lQ a b)/\(lQ a b=0->r=pq (rq a+rq b))/\(lQ a b≠0->r=nor):=by
 obtain⟨r,hr,hf⟩:=Yt AR.f (·+·) (·+·) arO (fun _ _ _ _=>Z7) (fun _ _ ha hb=>Tz ha hb) k a b h1 h2 h3 h4;refine⟨r,?_,hf⟩;unfold BC.f IB.f;rw[hr,Option.bind_some]
theorem alu (k:Nat) (a b:RG) (h1:a.2.1.size<=4000) (h2:a.2.2.size<=4000) (h3:b.2.1.size<=4000) (h4:b.2.2.size<=4000) :
  ∃ r:RG,Dy.f (k+2) a.1 a.2.1 a.2.2 b.1 b.2.1 b.2.2=some (r.1,r.2.1,r.2.2,lQ a b)/\(lQ a b=0->r=pq (rq a-rq b))/\(lQ a b≠0->r=nor):=by
 obtain⟨r,hr,hf⟩:=Yt AQ.f (·-·) (·-·) subs (fun _ _ _ _=>Z8) (fun _ _ ha hb=>aaS ha hb) k a b h1 h2 h3 h4;refine⟨r,?_,hf⟩;unfold Dy.f IA.f;rw[hr,Option.bind_some]
theorem alv (k:Nat) (a b:RG) (h1:a.2.1.size<=4000) (h2:a.2.2.size<=4000) (h3:b.2.1.size<=4000) (h4:b.2.2.size<=4000) :
  ∃ r:RG,oV.f (k+2) a.1 a.2.1 a.2.2 b.1 b.2.1 b.2.2=some (r.1,r.2.1,r.2.2,lQ a b)/\(lQ a b=0->r=pq (rq a*rq b))/\(lQ a b≠0->r=nor):=by
 by_cases hb0:lQ a b=0
 ·obtain⟨ha,hb⟩:=DG.1 hb0
  rw[hb0];exact⟨_,apz k a b ha hb h1 h2 h3 h4,fun _=>rfl,fun hc=>absurd rfl hc⟩
 ·unfold oV.f
  rw[Tj k a b qo qo qo qo,Option.bind_some,if_neg hb0];exact⟨(false,⟨#[]⟩,⟨#[]⟩),rfl,fun hc=>absurd hc hb0,fun _=>rfl⟩
theorem ahO (k:Nat) (a:RG) (h1:a.2.1.size<=15000) (h2:a.2.2.size<=15000) :
  ∃ s,C_.f (k+2) a.1 a.2.1 a.2.2=some (s,sU a)/\(sU a=0->s=El (rq a) 0):=by
 unfold C_.f;rw[Nb k a h1 h2,Option.bind_some];by_cases hc:sU a=0
 ·have e:=abX (Bf.1 hc)
  rw[if_pos hc,hc];by_cases n:a.1=true
  ·rw[if_pos n]
   rw[if_pos n]at e
   exact⟨_,rfl,fun _=>e.symm⟩
  ·rw[if_neg n]
   rw[if_neg n]at e
   by_cases z:a.2.1.size=0
   ·rw[if_pos (BF.2 z)]
    rw[if_pos z]at e
    exact⟨_,rfl,fun _=>e.symm⟩
   ·rw[if_neg (fun h=>z (BF.1 h))]
    rw[if_neg z]at e
    exact⟨_,rfl,fun _=>e.symm⟩
 ·rw[if_neg hc]
  exact⟨_,rfl,fun h=>absurd h hc⟩
theorem aen {n d:Int} (hn:(pv n).2.size<=4000) (hd:(pv d).2.size<=4000) (h0:d≠0):yh.f (pv n).1 (pv n).2 (pv d).1 (pv d).2=some (pq (Rat.divInt n d)):=by
 unfold yh.f;rw[vO,vO,if_pos ⟨hn,hd,q9.2 (BD qo),q9.2 (BD qo),h0⟩]
theorem Ht {a0:Bool} {a1:ByteArray} {b0:Bool} {b1:ByteArray} (h1:a1.size<=4000) (h2:b1.size<=4000):oa.f a0 a1 b0 b1=some (pv (ival a0 a1*ival b0 b1)):=by
 unfold oa.f;rw[if_pos ⟨h1,h2⟩]
theorem aeo {a0:Bool} {a1:ByteArray} {b0:Bool} {b1:ByteArray} (h1:a1.size<=4000) (h2:b1.size<=4000):wZ.f a0 a1 b0 b1=some (pv (ival a0 a1+ival b0 b1)):=by
 unfold wZ.f;rw[if_pos ⟨h1,h2⟩]
theorem Yu (k:Nat) (a b:RG) (ha:gZ a) (hb:gZ b) (h1:a.2.1.size<=500) (h2:a.2.2.size<=500) (h3:b.2.1.size<=500) (h4:b.2.2.size<=500) :
  jW.f (k+1) a.1 a.2.1 a.2.2 b.1 b.2.1 b.2.2=some (pq (rq a*rq b)):=by
 have key:jW.j0 (k+1) false a.1 a.2.1 a.2.2 b.1 b.2.1 b.2.2=some (pq (rq a*rq b)):=by
  have e1:kS.f a.1 a.2.1 a.2.2=some (false,a.2.2):=rfl;have e2:kS.f b.1 b.2.1 b.2.2=some (false,b.2.2):=rfl;rw[jW.j0,if_neg qd,Ht (by first|omega|(dsimp only;omega)) (by first|omega|(dsimp only;omega)),Option.bind_some,e1,Option.bind_some,e2,Option.bind_some,Ht (by first|omega|(dsimp only;omega)) (by first|omega|(dsimp only;omega)),Option.bind_some];have hp:ival false a.2.2*ival false b.2.2≠0:=by
   have:=Int.mul_pos ha.dp hb.dp;have e:ival false a.2.2*ival false b.2.2=eV a*eV b:=rfl;omega
  rw[aen (xI (k:=500) (l:=500) (fM h1) (fM h3) qo) (xI (k:=500) (l:=500) (fM h2) (fM h4) qo) hp,Option.bind_some];have e:Rat.divInt (ival a.1 a.2.1*ival b.1 b.2.1) (ival false a.2.2*ival false b.2.2)=rq a*rq b:=NY;rw[e]
 unfold jW.f;by_cases c1:a.2.2.toList=([1]:List UInt8)
 ·rw[if_pos c1]
  by_cases c2:b.2.2.toList=([1]:List UInt8)
  ·rw[beq_iff_eq.2 c2,jW.j0,if_pos rfl,Ht (by first|omega|(dsimp only;omega)) (by first|omega|(dsimp only;omega)),Option.bind_some]
   have e:rq a*rq b=Rat.divInt (ival a.1 a.2.1*ival b.1 b.2.1) 1:=by
    rw[<- NY,FQ c1,FQ c2];rfl
   rw[e,Uu]
  ·rw[beq_eq_false_iff_ne.2 c2]
   exact key
 ·rw[if_neg c1]
  exact key
theorem Yv (k K L:Nat) (hKL:K+L+1<=4000) (a b:RG) (ha:gZ a) (hb:gZ b) (h1:a.2.1.size<=K) (h2:a.2.2.size<=K) (h3:b.2.1.size<=L) (h4:b.2.2.size<=L) :
  gG.f (k+1) a.1 a.2.1 a.2.2 b.1 b.2.1 b.2.2=some (pq (rq a+rq b)):=by
 have key:gG.j0 (k+1) false a.1 a.2.1 a.2.2 b.1 b.2.1 b.2.2=some (pq (rq a+rq b)):=by
  have e1:kS.f a.1 a.2.1 a.2.2=some (false,a.2.2):=rfl;have e2:kS.f b.1 b.2.1 b.2.2=some (false,b.2.2):=rfl;have z1:=xI (k:=K) (l:=L) (m:=K+L) (fM (n:=a.1) h1) (fM (n:=false) h4) qo;have z2:=xI (k:=L) (l:=K) (m:=K+L) (fM (n:=b.1) h3) (fM (n:=false) h2) qo;have hp:ival false a.2.2*ival false b.2.2≠0:=by
   have:=Int.mul_pos ha.dp hb.dp;have e:ival false a.2.2*ival false b.2.2=eV a*eV b:=rfl;omega
  rw[gG.j0,if_neg qd];simp only[e1,e2,Option.bind_some]
  rw[Ht qo qo,Option.bind_some,Ht qo qo,Option.bind_some,aeo qo qo,Option.bind_some,vO,vO,Ht qo qo,Option.bind_some,
   aen (Dd (Z7 (k:=K+L) (uB (k:=K) (l:=L) (fM h1) (fM h4) qo) (uB (k:=L) (l:=K) (fM h3) (fM h2) qo) qo)) (xI (k:=K) (l:=L) (fM h2) (fM h4) qo) hp,Option.bind_some]
  have e:Rat.divInt (ival a.1 a.2.1*ival false b.2.2+ival b.1 b.2.1*ival false a.2.2) (ival false a.2.2*ival false b.2.2)=rq a+rq b:=Tz ha hb;rw[e]
 unfold gG.f;by_cases c1:a.2.2.toList=([1]:List UInt8)
 ·rw[if_pos c1]
  by_cases c2:b.2.2.toList=([1]:List UInt8)
  ·rw[beq_iff_eq.2 c2,gG.j0,if_pos rfl,aeo qo qo,Option.bind_some]
   have e:rq a+rq b=Rat.divInt (ival a.1 a.2.1+ival b.1 b.2.1) 1:=by
    rw[<- Tz ha hb,FQ c1,FQ c2,Int.mul_one,Int.mul_one,Int.mul_one];rfl
   rw[e,Uu]
  ·rw[beq_eq_false_iff_ne.2 c2]
   exact key
 ·rw[if_neg c1]
  exact key
theorem amr (k:Nat) (a b:RG) (ha:gZ a) (hb:gZ b) (h1:a.2.1.size<=400) (h2:a.2.2.size<=400) (h3:b.2.1.size<=400) (h4:b.2.2.size<=400) :
  gG.f (k+1) a.1 a.2.1 a.2.2 b.1 b.2.1 b.2.2=some (pq (rq a+rq b)):=Yv k 400 400 qd a b ha hb h1 h2 h3 h4
def LR (a:RG):RG:=(!a.1&&decide (0<a.2.1.size),a.2.1,a.2.2)
theorem ZT {a:RG} (h:gZ a):k9 (LR a) =-k9 a:=R8 h.kn
theorem apC {a:RG} (h:gZ a):gZ (LR a):=by
 refine⟨h.sn,h.sd,R7 h.kn,h.kd,h.nz,?_⟩;rw[ZT h,Int.neg_gcd];exact h.co
theorem apD {a:RG} (h:gZ a):rq (LR a) =-rq a:=by
 unfold rq;rw[ZT h,Rat.neg_divInt];rfl
theorem SE (k:Nat) (a b:RG) (ha:gZ a) (hb:gZ b) (h1:a.2.1.size<=400) (h2:a.2.2.size<=400) (h3:b.2.1.size<=400) (h4:b.2.2.size<=400) :
  vC.f (k+1) a.1 a.2.1 a.2.2 b.1 b.2.1 b.2.2=some (pq (rq a-rq b)):=by
 have e:Fm.f b.1 b.2.1 b.2.2=some (LR b):=rfl;have h:=amr k a (LR b) ha (apC hb) h1 h2 h3 h4;unfold vC.f;rw[e,Option.bind_some,h,Option.bind_some,apD hb,<- Rat.sub_eq_add_neg]
theorem alw {a:RG} (h:gZ a):CY.f a.1 a.2.1 a.2.2=some (El (rq a) 0):=by
 rw[abX h];unfold CY.f;by_cases n:a.1=true
 ·rw[if_pos n,if_pos n]
 ·rw[if_neg n,if_neg n]
  by_cases z:a.2.1.size=0
  ·rw[if_pos (BF.2 z),if_pos z]
  ·rw[if_neg (fun hc=>z (BF.1 hc)),if_neg z]
end Go.Proofs.YtcmepkhjggpmeaaGreat
