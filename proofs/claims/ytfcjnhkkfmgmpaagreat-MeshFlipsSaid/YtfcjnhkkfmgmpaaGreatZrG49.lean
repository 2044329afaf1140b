import Derived.Test.YtfcjnhkkfmgmpaaGreatZrG22
set_option linter.all false
set_option maxRecDepth 100000
set_option maxHeartbeats 8000000
namespace Go.Proofs.YtfcjnhkkfmgmpaaGreat
open Go.RowKit Num Go.Proofs.YtfcjnhkkfmgmpaaGreatH.R Go.Proofs.YtfcjnhkkfmgmpaaGreatW.PrintWords
theorem chkS {n:Bool} {s:ByteArray}:whole_Check.f n s=some (chk n s):=rfl
theorem gcdS {a b:Bool × ByteArray} (ha:okI a.1 a.2) (hb:okI b.1 b.2) (h1:a.2.size≤15000) (h2:b.2.size≤15000) :
  whole_Gcd.f a.1 a.2 b.1 b.2=some (false,(pv ((Int.gcd (ival a.1 a.2) (ival b.1 b.2):Nat):Int)).2,0):=by
 unfold whole_Gcd.f gcdF;rw[if_pos ⟨h1,h2⟩,if_neg (fun hc=>hc (bad2_ok.2 ⟨ha,hb⟩)),pv_neg1 (by omega)]
theorem divS {a b:Bool × ByteArray} (ha:okI a.1 a.2) (hb:okI b.1 b.2) (h1:a.2.size≤15000) (h2:b.2.size≤15000) (h0:ival b.1 b.2≠0) :
  whole_Div.f a.1 a.2 b.1 b.2=some ((pv (ival a.1 a.2 / ival b.1 b.2)).1,(pv (ival a.1 a.2 / ival b.1 b.2)).2,(pv (ival a.1 a.2%ival b.1 b.2)).1,(pv (ival a.1 a.2%ival b.1 b.2)).2,0):=by
 unfold whole_Div.f quoF;have h3:¬ nv b.2=0:=fun hc=>h0 (by unfold ival sgn;split <;> omega);simp only[if_pos (And.intro h1 h2),if_neg (fun hc=>hc (bad2_ok.2 ⟨ha,hb⟩):¬ bad2 a.1 a.2 b.1 b.2≠0),if_neg h3]
theorem binS {f:Int→Int→Int} {a b:Bool × ByteArray} (ha:okI a.1 a.2) (hb:okI b.1 b.2):binF f a b=(pv (f (ival a.1 a.2) (ival b.1 b.2)),0):=binF_ok (bad2_ok.2 ⟨ha,hb⟩)
theorem mulS {a b:Bool × ByteArray} (ha:okI a.1 a.2) (hb:okI b.1 b.2) (h1:a.2.size≤15000) (h2:b.2.size≤15000) :
  rat_do_of_whole_Mul.f a.1 a.2 b.1 b.2=some ((pv (ival a.1 a.2*ival b.1 b.2)).1,(pv (ival a.1 a.2*ival b.1 b.2)).2):=by
 unfold rat_do_of_whole_Mul.f whole_Mul.f;rw[if_pos ⟨h1,h2⟩,binS ha hb];rfl
theorem check_p (k:Nat) (a:RG) (h1:a.2.1.size≤15000) (h2:a.2.2.size≤15000):rat_Check.f (k+2) a.1 a.2.1 a.2.2=some (chkR a):=by
 obtain⟨a0,a1,a2⟩:=a;simp only at h1 h2;unfold rat_Check.f chkR;simp only;by_cases c1:8000<a1.size
 ·rw[if_pos (by omega),if_pos (.inl c1)]
  rfl
 ·rw[if_neg (by omega)]
  by_cases c2:8000<a2.size
  ·rw[if_pos (.inr c2)]
   simp only[rat_Check.j0];rw[if_pos (decide_eq_true (by omega))]
  ·rw[if_neg (by omega)]
   simp only[rat_Check.j0,chkS,Option.bind_some,rat_den.f];rw[if_neg (by rw[decide_eq_false (by omega)];decide)];by_cases d1:chk a0 a1=0
   ·by_cases d2:chk false a2=0
    ·rw[if_pos d1,if_pos d2]
     simp only[rat_Check.j1,rat_den.f,Option.bind_some];by_cases d3:a2.size=0
     ·rw[if_pos (by rw[beq_iff_eq];exact tl_nil.2 d3),if_pos (.inr (.inr (.inl d3)))]
     ·rw[if_neg (by rw[beq_iff_eq];exact fun hc=>d3 (tl_nil.1 hc))]
      have k1:=chk_ok.1 d1;have k2:=chk_ok.1 d2;have hg:=gcdS (a:=(a0,a1)) (b:=(false,a2)) k1 k2 h1 h2;simp only at hg;rw[hg];simp only[Option.bind_some];have hr:rden (a0,a1,a2)=ival false a2:=rfl;have hn:rnum (a0,a1,a2)=ival a0 a1:=rfl;rw[hr,hn];by_cases d4:a2.toList=([1]:List UInt8)
      ·have e:ival false a2=1:=by rw[tl_iff.1 d4];exact nv_1
       rw[if_pos d4,if_neg (fun hc=>by
        rcases hc with hc|hc|hc|hc
        ·exact hc d1
        ·exact hc d2
        ·exact d3 hc
        ·rw[e,Int.gcd_one_right]at hc;exact hc rfl)]
      ·rw[if_neg d4]
       by_cases d5:Int.gcd (ival a0 a1) (ival false a2)=1
       ·rw[if_pos (one_iff.2 d5),if_neg (fun hc=>by
         rcases hc with hc|hc|hc|hc
         ·exact hc d1
         ·exact hc d2
         ·exact d3 hc
         ·exact hc d5)]
       ·rw[if_neg (fun hc=>d5 (one_iff.1 hc)),if_pos (.inr (.inr (.inr d5)))]
    ·rw[if_pos d1,if_neg d2,if_pos (.inr (.inl d2))]
     rfl
   ·rw[if_neg d1,if_pos (.inl d1)]
    rfl
def badR (a b:RG):Int:=if chkR a=0 then chkR b else chkR a
theorem badR_ok {a b:RG}:badR a b=0↔okR a∧okR b:=by
 unfold badR;split
 ·rename_i h;rw[chkR_ok];exact⟨fun hb=>⟨chkR_ok.1 h,hb⟩,fun hb=>hb.2⟩
 ·rename_i h;exact⟨fun hc=>absurd hc h,fun hc=>absurd (chkR_ok.2 hc.1) h⟩
theorem both_p (k:Nat) (a b:RG) (h1:a.2.1.size≤15000) (h2:a.2.2.size≤15000) (h3:b.2.1.size≤15000) (h4:b.2.2.size≤15000) :
  rat_both.f (k+2) a.1 a.2.1 a.2.2 b.1 b.2.1 b.2.2=some (badR a b):=by
 unfold rat_both.f badR;rw[check_p k a h1 h2,Option.bind_some];split
 ·rw[check_p k b h3 h4,Option.bind_some]
 ·rfl
theorem low_p0 (k:Nat) (a b:Bool × ByteArray) (ha:okI a.1 a.2) (hb:okI b.1 b.2) (h1:a.2.size≤15000) (h2:b.2.size≤15000) (hp:0<ival b.1 b.2) :
  rat_lowest.j0 (k+1) a.1 a.2 b.1 b.2=some (pq (Rat.divInt (ival a.1 a.2) (ival b.1 b.2))):=by
 have hbf:b.1=false:=by
  cases hb1:b.1
  ·rfl
  ·exfalso
   have:=(nv_bd b.2).1;unfold ival sgn at hp;rw[hb1,if_pos rfl]at hp
   omega
 have hgp:=gcd_pos (n:=ival a.1 a.2) hp;simp only[rat_lowest.j0,rat_do_of_whole_Gcd.f];rw[gcdS ha hb h1 h2];simp only[Option.map_some,Option.bind_some];obtain⟨G,hG⟩:∃ G,Int.gcd (ival a.1 a.2) (ival b.1 b.2)=G:=⟨_,rfl⟩
 have hn:=low_num (n:=ival a.1 a.2) hp;have hd:=low_den (n:=ival a.1 a.2) hp;rw[hG]at hn hd hgp ⊢
 unfold pq;rw[hn,hd];by_cases h:G=1
 ·rw[if_pos (one_iff.2 h),h]
  have e1:ival a.1 a.2 / ((1:Nat):Int)=ival a.1 a.2:=Int.ediv_one _;have e2:ival b.1 b.2 / ((1:Nat):Int)=ival b.1 b.2:=Int.ediv_one _;rw[e1,e2,pv_ival ha,pv_ival hb]
 ·rw[if_neg (fun hc=>h (one_iff.1 hc))]
  have sG:(pv (G:Int)).2.size≤15000:=size_pv (by
   have:=size_pow h2;have h5:=Int.gcd_le_natAbs_right (ival a.1 a.2) (show ival b.1 b.2≠0 by omega);have h6:=ival_bd (n:=b.1) h2;rw[hG]at h5
   rw[Int.natAbs_natCast];omega)
  have kG:okI false (pv (G:Int)).2:=okI_pn (by omega) (by omega);have iG:ival false (pv (G:Int)).2=G:=ival_pn (by omega);have q1:=divS (a:=a) (b:=(false,(pv (G:Int)).2)) ha kG h1 sG (by simp only[iG];omega);have q2:=divS (a:=b) (b:=(false,(pv (G:Int)).2)) hb kG h2 sG (by simp only[iG];omega);simp only at q1 q2;rw[q1,q2];simp only[Option.bind_some,iG]
theorem low_p (k:Nat) (a b:Bool × ByteArray) (ha:okI a.1 a.2) (hb:okI b.1 b.2) (h1:a.2.size≤15000) (h2:b.2.size≤15000) (h0:ival b.1 b.2≠0) :
  rat_lowest.f (k+1) a.1 a.2 b.1 b.2=some (pq (Rat.divInt (ival a.1 a.2) (ival b.1 b.2))):=by
 unfold rat_lowest.f;have hv:=(nv_bd b.2).1;have hv2:=(nv_bd a.2).1;by_cases hb1:b.1=true
 ·rw[if_pos hb1]
  have hneg:ival b.1 b.2 =-ival false b.2:=by rw[hb1];rfl
  have hpos:0<ival false b.2:=by have:ival false b.2=nv b.2:=rfl;omega
  have kb:okI false b.2:=⟨hb.1,hb.2.1,fun hc=>by cases hc⟩
  have e:Rat.divInt (ival a.1 a.2) (ival b.1 b.2)=Rat.divInt (- ival a.1 a.2) (ival false b.2):=by rw[hneg,Rat.divInt_neg']
  rw[e,← ival_ng ha];by_cases ha1:a.1=true
  ·rw[if_pos ha1]
   have:=low_p0 k (false,a.2) (false,b.2) ⟨ha.1,ha.2.1,fun hc=>by cases hc⟩ kb h1 h2 hpos;simp only at this;rw[this,ha1];rfl
  ·rw[if_neg ha1]
   have ha2:a.1=false:=by cases h:a.1 <;> simp_all
   have e2:(a.2.toList != ([]:List UInt8))=(!a.1&&decide (0<a.2.size)):=by
    rw[ha2];by_cases hs:0<a.2.size
    ·rw[(toList_ne hs).2,decide_eq_true hs];rfl
    ·rw[(toList_nil (by omega)).2,decide_eq_false hs];rfl
   rw[e2];have:=low_p0 k (!a.1&&decide (0<a.2.size),a.2) (false,b.2) (okI_neg ha) kb h1 h2 hpos;simp only at this;rw[this]
 ·rw[if_neg hb1]
  have hb2:b.1=false:=by cases h:b.1 <;> simp_all
  have hv3:ival b.1 b.2=nv b.2:=by rw[hb2];rfl
  exact low_p0 k a b ha hb h1 h2 (by omega)
theorem wz01:wrap64 (0+1)=1:=by unfold wrap64;omega
theorem wz12:wrap64 (1+1)=2:=by unfold wrap64;omega
theorem lowv_p (k:Nat) (n d:Int) (hn:(pv n).2.size≤15000) (hd:(pv d).2.size≤15000) (h0:d≠0):rat_lowest.f (k+1) (pv n).1 (pv n).2 (pv d).1 (pv d).2=some (pq (Rat.divInt n d)):=by
 have:=low_p k (pv n) (pv d) (okI_pv (by omega)) (okI_pv (by omega)) hn hd (by rw[ival_pv];exact h0);rw[ival_pv,ival_pv]at this
 exact this
theorem muls (a0:Bool) (a1:ByteArray) (b0:Bool) (b1:ByteArray) (ha:okI a0 a1) (hb:okI b0 b1) (h1:a1.size≤15000) (h2:b1.size≤15000):rat_do_of_whole_Mul.f a0 a1 b0 b1=some (pv (ival a0 a1*ival b0 b1)):=mulS (a:=(a0,a1)) (b:=(b0,b1)) ha hb h1 h2
theorem szmul {x y:Int} {k l m:Nat} (hx:(x.natAbs:Int)<256^k) (hy:(y.natAbs:Int)<256^l) (hm:k+l≤m):(pv (x*y)).2.size≤m:=size_pv (mul_bd hx hy hm)
theorem mul_p (k:Nat) (a b:RG) (ha:okR a) (hb:okR b) (h1:a.2.1.size≤4000) (h2:a.2.2.size≤4000) (h3:b.2.1.size≤4000) (h4:b.2.2.size≤4000) :
  rat_Mul.f (k+2) a.1 a.2.1 a.2.2 b.1 b.2.1 b.2.2=some ((pq (rq a*rq b)).1,(pq (rq a*rq b)).2.1,(pq (rq a*rq b)).2.2,0):=by
 unfold rat_Mul.f;have e1:rat_den.f a.1 a.2.1 a.2.2=some (false,a.2.2):=rfl;have e2:rat_den.f b.1 b.2.1 b.2.2=some (false,b.2.2):=rfl;rw[both_p k a b (by omega) (by omega) (by omega) (by omega),Option.bind_some,if_pos (badR_ok.2 ⟨ha,hb⟩),muls _ _ _ _ ha.kn hb.kn (by omega) (by omega),Option.bind_some,e1,Option.bind_some,e2,Option.bind_some,muls _ _ _ _ ha.kd hb.kd (by omega) (by omega),Option.bind_some];have hp:ival false a.2.2*ival false b.2.2≠0:=by
  have:=Int.mul_pos ha.dp hb.dp;have e:ival false a.2.2*ival false b.2.2=rden a*rden b:=rfl;omega
 rw[lowv_p (k+1) _ _ (szmul (k:=4000) (l:=4000) (ival_bd h1) (ival_bd h3) (by omega)) (szmul (k:=4000) (l:=4000) (ival_bd h2) (ival_bd h4) (by omega)) hp,Option.bind_some];have e:Rat.divInt (ival a.1 a.2.1*ival b.1 b.2.1) (ival false a.2.2*ival false b.2.2)=rq a*rq b:=q_mul;rw[e]
theorem q_int (n:Int):pq (Rat.divInt n 1)=((pv n).1,(pv n).2,⟨#[1]⟩):=by
 have hn:=low_num (n:=n) (d:=1) (by decide);have hd:=low_den (n:=n) (d:=1) (by decide);rw[Int.gcd_one_right]at hn hd
 have e1:n / ((1:Nat):Int)=n:=Int.ediv_one n;have e2:(1:Int) / ((1:Nat):Int)=1:=Int.ediv_one 1;rw[e1]at hn
 rw[e2]at hd
 unfold pq;rw[hn,hd,pv_1]
theorem rden_one {a:RG} (h:a.2.2.toList=([1]:List UInt8)):rden a=1:=by
 unfold rden;rw[tl_iff.1 h];exact nv_1
theorem natB_chk {s:ByteArray} (h:s.size≤32000):natB s=true↔chk false s=0:=by
 unfold natB chk;rw[if_neg (by omega)];by_cases hc:0<s.size∧byt s (s.size-1)=0
 ·rw[decide_eq_true hc,if_pos hc]
  exact⟨fun h=>by simp at h,fun h=>absurd h (by decide)⟩
 ·rw[decide_eq_false hc,if_neg hc,if_neg (fun h=>by cases h.1)]
  exact⟨fun _=>rfl,fun _=>rfl⟩
theorem check3_p (k:Nat) (a:RG) (h1:a.2.1.size≤4000) (h2:a.2.2.size≤4000):gussetref03_Check.f (k+2) a.1 a.2.1 a.2.2=some (chkR a):=by
 obtain⟨a0,a1,a2⟩:=a;simp only at h1 h2;unfold gussetref03_Check.f chkR;simp only;rw[if_neg (by omega),if_neg (by omega),decide_eq_false (by omega:¬ (a2.size:Int) > 8000),show k+2=(k+1)+1 from rfl,gussetref03_Check.j0,if_neg (by decide)];have e1:gussetref02_Check.f a0 a1=some (chk a0 a1):=rfl;have e2:gussetref01_IsNat.f a2=some (natB a2):=rfl;rw[e1,Option.bind_some];have j1t:gussetref03_Check.j1 (k+1) true=some 1:=rfl;have j1f:gussetref03_Check.j1 (k+1) false=some 0:=rfl;by_cases d1:chk a0 a1=0
 ·rw[if_pos d1,e2,Option.bind_some]
  by_cases d2:chk false a2=0
  ·rw[if_pos ((natB_chk (by omega)).2 d2)]
   by_cases d3:a2.size=0
   ·rw[if_pos (tl_nil.2 d3),j1t,if_pos (.inr (.inr (.inl d3)))]
   ·rw[if_neg (fun hc=>d3 (tl_nil.1 hc))]
    have e3:gussetref03_den.f a0 a1 a2=some (false,a2):=rfl;rw[e3,Option.bind_some];have e4:gussetref02_Common.f a0 a1 false a2=some ((pv ((Nat.gcd (nv a1).toNat (nv a2).toNat:Nat):Int)).1,(pv ((Nat.gcd (nv a1).toNat (nv a2).toNat:Nat):Int)).2):=by
     unfold gussetref02_Common.f;rw[if_pos ⟨h1,h2⟩]
    rw[e4,Option.bind_some];have hg:Int.gcd (rnum (a0,a1,a2)) (rden (a0,a1,a2))=Nat.gcd (nv a1).toNat (nv a2).toNat:=int_gcd_nv a0 a1 false a2;rw[hg];by_cases d5:Nat.gcd (nv a1).toNat (nv a2).toNat=1
    ·have t:((pv ((Nat.gcd (nv a1).toNat (nv a2).toNat:Nat):Int)).2.toList != ([1]:List UInt8))=false:=bne_eq_false_iff_eq.2 (one_iff.2 d5)
     simp only[t];rw[j1f,if_neg (fun hc=>by
      rcases hc with hc|hc|hc|hc
      ·exact hc d1
      ·exact hc d2
      ·exact d3 hc
      ·exact hc d5)]
    ·have t:((pv ((Nat.gcd (nv a1).toNat (nv a2).toNat:Nat):Int)).2.toList != ([1]:List UInt8))=true:=bne_iff_ne.2 (fun hc=>d5 (one_iff.1 hc))
     simp only[t];rw[j1t,if_pos (.inr (.inr (.inr d5)))]
  ·rw[if_neg (fun hc=>d2 ((natB_chk (by omega)).1 hc)),j1t,if_pos (.inr (.inl d2))]
 ·rw[if_neg d1,j1t,if_pos (.inl d1)]
theorem both3_p (k:Nat) (a b:RG) (h1:a.2.1.size≤4000) (h2:a.2.2.size≤4000) (h3:b.2.1.size≤4000) (h4:b.2.2.size≤4000) :
  gussetref03_Both.f (k+2) a.1 a.2.1 a.2.2 b.1 b.2.1 b.2.2=some (badR a b):=by
 unfold gussetref03_Both.f badR;rw[check3_p k a h1 h2,Option.bind_some];split
 ·rw[check3_p k b h3 h4,Option.bind_some]
 ·rfl
theorem sgn_q {a:RG} (h:okR a):cmpQ (rq a) 0=(if a.1=true then -1 else if a.2.1.size=0 then 0 else 1):=by
 have hq:=h.q.1;have e1:rq a<0↔rnum a<0:=by rw[← hq,← Rat.not_le,← Rat.num_nonneg];omega
 have e2:0<rq a↔0<rnum a:=by rw[← hq,Rat.lt_iff];simp
 unfold cmpQ;simp only[e1,e2];have hk:=h.kn;have hr:rnum a=ival a.1 a.2.1:=rfl;rw[hr];by_cases hz:a.2.1.size=0
 ·have hn:¬ a.1=true:=fun hc=>by have:=hk.2.2 hc;omega
  have e:a.2.1=⟨#[]⟩:=ba_nil hz;have hv:ival a.1 a.2.1=0:=by unfold ival sgn;rw[if_neg hn,e];rfl
  rw[hv,if_neg (by omega),if_neg (by omega),if_neg hn,if_pos hz]
 ·have hp:0<nv a.2.1:=nv_pos hk.2.1 (Nat.pos_of_ne_zero hz)
  by_cases hn:a.1=true
  ·have hv:ival a.1 a.2.1 =-nv a.2.1:=by unfold ival sgn;rw[if_pos hn]
   rw[hv,if_pos (by omega),if_pos hn]
  ·have hv:ival a.1 a.2.1=nv a.2.1:=by unfold ival sgn;rw[if_neg hn]
   rw[hv,if_neg (by omega),if_pos (by omega),if_neg hn,if_neg hz]
theorem subsz {a b:RG} (ha:okR a) (hb:okR b) {k:Nat} (h1:a.2.1.size≤k) (h2:a.2.2.size≤k) (h3:b.2.1.size≤k) (h4:b.2.2.size≤k) :
  (pq (rq a-rq b)).2.1.size≤k+k+1∧(pq (rq a-rq b)).2.2.size≤k+k:=by
 rw[← q_sub ha hb];have d1:rden b=ival false b.2.2:=rfl;have d2:rden a=ival false a.2.2:=rfl;have hp:=Int.mul_pos ha.dp hb.dp;refine low_size hp (sub_bd (k:=k+k) (mul_bd (k:=k) (l:=k) (ival_bd h1) (ival_bd (n:=false) h4) (Nat.le_refl _)) (mul_bd (k:=k) (l:=k) (ival_bd h3) (ival_bd (n:=false) h2) (Nat.le_refl _)) (Nat.le_refl _)) ?_;have:=mul_bd (k:=k) (l:=k) (m:=k+k) (ival_bd (n:=false) h2) (ival_bd (n:=false) h4) (Nat.le_refl _);rw[← d1,← d2]at this
 omega
theorem mulsz {a b:RG} (ha:okR a) (hb:okR b) {k l:Nat} (h1:a.2.1.size≤k) (h2:a.2.2.size≤k) (h3:b.2.1.size≤l) (h4:b.2.2.size≤l) :
  (pq (rq a*rq b)).2.1.size≤k+l∧(pq (rq a*rq b)).2.2.size≤k+l:=by
 rw[← q_mul];have d1:rden b=ival false b.2.2:=rfl;have d2:rden a=ival false a.2.2:=rfl;have hp:=Int.mul_pos ha.dp hb.dp;refine low_size hp (mul_bd (k:=k) (l:=l) (ival_bd h1) (ival_bd h3) (Nat.le_refl _)) ?_;have:=mul_bd (k:=k) (l:=l) (m:=k+l) (ival_bd (n:=false) h2) (ival_bd (n:=false) h4) (Nat.le_refl _);rw[← d1,← d2]at this
 omega
theorem over_any (F:Bool→ByteArray→Bool→ByteArray→Option (Bool × ByteArray)) (op:Int→Int→Int) (oq:Rat→Rat→Rat)
  (hF:∀ a0 a1 b0 b1,okI a0 a1→okI b0 b1→a1.size≤15000→b1.size≤15000→F a0 a1 b0 b1=some (pv (op (ival a0 a1) (ival b0 b1))))
  (hB:∀ (x y:Int) (k m:Nat),(x.natAbs:Int)<256^k→(y.natAbs:Int)<256^k→k+1≤m→((op x y).natAbs:Int)<256^m)
  (hQ:∀ a b:RG,okR a→okR b→Rat.divInt (op (rnum a*rden b) (rnum b*rden a)) (rden a*rden b)=oq (rq a) (rq b))
  (k:Nat) (a b:RG) (h1:a.2.1.size≤4000) (h2:a.2.2.size≤4000) (h3:b.2.1.size≤4000) (h4:b.2.2.size≤4000) :
  ∃ r:RG,rat_over_gen.f F (k+2) a.1 a.2.1 a.2.2 b.1 b.2.1 b.2.2=some (r.1,r.2.1,r.2.2,badR a b)∧(badR a b=0→r=pq (oq (rq a) (rq b)))∧(badR a b≠0→r=nor):=by
 unfold rat_over_gen.f;rw[both_p k a b (by omega) (by omega) (by omega) (by omega),Option.bind_some];by_cases hb0:badR a b=0
 ·obtain⟨ha,hb⟩:=badR_ok.1 hb0
  rw[if_pos hb0,hb0];have e1:rat_den.f a.1 a.2.1 a.2.2=some (false,a.2.2):=rfl;have e2:rat_den.f b.1 b.2.1 b.2.2=some (false,b.2.2):=rfl;have key:rat_over_gen.j0 F (k+1+1) false a.1 a.2.1 a.2.2 b.1 b.2.1 b.2.2=some ((pq (oq (rq a) (rq b))).1,(pq (oq (rq a) (rq b))).2.1,(pq (oq (rq a) (rq b))).2.2,0):=by
   rw[rat_over_gen.j0,if_neg (by decide)];simp only[e1,e2,Option.bind_some];have hp:ival false a.2.2*ival false b.2.2≠0:=by
    have:=Int.mul_pos ha.dp hb.dp;have e:ival false a.2.2*ival false b.2.2=rden a*rden b:=rfl;omega
   have z1:=szmul (k:=4000) (l:=4000) (m:=8000) (ival_bd (n:=a.1) h1) (ival_bd (n:=false) h4) (by omega);have z2:=szmul (k:=4000) (l:=4000) (m:=8000) (ival_bd (n:=b.1) h3) (ival_bd (n:=false) h2) (by omega);have hf:=hF (pv (ival a.1 a.2.1*ival false b.2.2)).1 (pv (ival a.1 a.2.1*ival false b.2.2)).2 (pv (ival b.1 b.2.1*ival false a.2.2)).1 (pv (ival b.1 b.2.1*ival false a.2.2)).2 (okI_pv (by omega)) (okI_pv (by omega)) (by omega) (by omega);rw[ival_pv,ival_pv]at hf
   rw[muls _ _ _ _ ha.kn hb.kd (by omega) (by omega),Option.bind_some,muls _ _ _ _ hb.kn ha.kd (by omega) (by omega),Option.bind_some,
    hf,Option.bind_some,muls _ _ _ _ ha.kd hb.kd (by omega) (by omega),Option.bind_some,
    lowv_p k _ _ (size_pv (hB _ _ 8000 15000 (mul_bd (k:=4000) (l:=4000) (ival_bd h1) (ival_bd h4) (by omega)) (mul_bd (k:=4000) (l:=4000) (ival_bd h3) (ival_bd h2) (by omega)) (by omega))) (szmul (k:=4000) (l:=4000) (ival_bd h2) (ival_bd h4) (by omega)) hp,Option.bind_some]
   have e:Rat.divInt (op (ival a.1 a.2.1*ival false b.2.2) (ival b.1 b.2.1*ival false a.2.2)) (ival false a.2.2*ival false b.2.2)=oq (rq a) (rq b):=hQ a b ha hb;rw[e]
  by_cases c1:a.2.2.toList=([1]:List UInt8)
  ·rw[if_pos c1]
   by_cases c2:b.2.2.toList=([1]:List UInt8)
   ·rw[beq_iff_eq.2 c2]
    refine⟨pq (oq (rq a) (rq b)),?_,fun _=>rfl,fun hc=>absurd rfl hc⟩;have e:oq (rq a) (rq b)=Rat.divInt (op (ival a.1 a.2.1) (ival b.1 b.2.1)) 1:=by
     rw[← hQ a b ha hb,rden_one c1,rden_one c2,Int.mul_one,Int.mul_one,Int.mul_one];rfl
    rw[show k+2=(k+1)+1 from rfl,rat_over_gen.j0,if_pos rfl,hF _ _ _ _ ha.kn hb.kn (by omega) (by omega),Option.bind_some,e,q_int]
   ·rw[beq_eq_false_iff_ne.2 c2]
    exact⟨_,key,fun _=>rfl,fun hc=>absurd rfl hc⟩
  ·rw[if_neg c1]
   exact⟨_,key,fun _=>rfl,fun hc=>absurd rfl hc⟩
 ·rw[if_neg hb0]
  exact⟨(false,⟨#[]⟩,⟨#[]⟩),rfl,fun hc=>absurd hc hb0,fun _=>rfl⟩
theorem subs (a0:Bool) (a1:ByteArray) (b0:Bool) (b1:ByteArray) (ha:okI a0 a1) (hb:okI b0 b1) (h1:a1.size≤15000) (h2:b1.size≤15000):rat_do_of_whole_Sub.f a0 a1 b0 b1=some (pv (ival a0 a1-ival b0 b1)):=by
 unfold rat_do_of_whole_Sub.f whole_Sub.f;rw[if_pos ⟨h1,h2⟩,binS (f:=(·-·)) (a:=(a0,a1)) (b:=(b0,b1)) ha hb];rfl
theorem sub_any (k:Nat) (a b:RG) (h1:a.2.1.size≤4000) (h2:a.2.2.size≤4000) (h3:b.2.1.size≤4000) (h4:b.2.2.size≤4000) :
  ∃ r:RG,rat_Sub.f (k+2) a.1 a.2.1 a.2.2 b.1 b.2.1 b.2.2=some (r.1,r.2.1,r.2.2,badR a b)∧(badR a b=0→r=pq (rq a-rq b))∧(badR a b≠0→r=nor):=by
 obtain⟨r,hr,hf⟩:=over_any rat_do_of_whole_Sub.f (·-·) (·-·) subs (fun _ _ _ _=>sub_bd) (fun _ _ ha hb=>q_sub ha hb) k a b h1 h2 h3 h4;refine⟨r,?_,hf⟩;unfold rat_Sub.f rat_over_of_whole_Sub.f;rw[hr,Option.bind_some]
theorem mul_any (k:Nat) (a b:RG) (h1:a.2.1.size≤4000) (h2:a.2.2.size≤4000) (h3:b.2.1.size≤4000) (h4:b.2.2.size≤4000) :
  ∃ r:RG,rat_Mul.f (k+2) a.1 a.2.1 a.2.2 b.1 b.2.1 b.2.2=some (r.1,r.2.1,r.2.2,badR a b)∧(badR a b=0→r=pq (rq a*rq b))∧(badR a b≠0→r=nor):=by
 by_cases hb0:badR a b=0
 ·obtain⟨ha,hb⟩:=badR_ok.1 hb0
  rw[hb0];exact⟨_,mul_p k a b ha hb h1 h2 h3 h4,fun _=>rfl,fun hc=>absurd rfl hc⟩
 ·unfold rat_Mul.f
  rw[both_p k a b (by omega) (by omega) (by omega) (by omega),Option.bind_some,if_neg hb0];exact⟨(false,⟨#[]⟩,⟨#[]⟩),rfl,fun hc=>absurd hc hb0,fun _=>rfl⟩
theorem sign_any (k:Nat) (a:RG) (h1:a.2.1.size≤15000) (h2:a.2.2.size≤15000) :
  ∃ s,rat_Sign.f (k+2) a.1 a.2.1 a.2.2=some (s,chkR a)∧(chkR a=0→s=cmpQ (rq a) 0):=by
 unfold rat_Sign.f;rw[check_p k a h1 h2,Option.bind_some];by_cases hc:chkR a=0
 ·have e:=sgn_q (chkR_ok.1 hc)
  rw[if_pos hc,hc];by_cases n:a.1=true
  ·rw[if_pos n]
   rw[if_pos n]at e
   exact⟨_,rfl,fun _=>e.symm⟩
  ·rw[if_neg n]
   rw[if_neg n]at e
   by_cases z:a.2.1.size=0
   ·rw[if_pos (tl_nil.2 z)]
    rw[if_pos z]at e
    exact⟨_,rfl,fun _=>e.symm⟩
   ·rw[if_neg (fun h=>z (tl_nil.1 h))]
    rw[if_neg z]at e
    exact⟨_,rfl,fun _=>e.symm⟩
 ·rw[if_neg hc]
  exact⟨_,rfl,fun h=>absurd h hc⟩
theorem low3 {n d:Int} (hn:(pv n).2.size≤1000) (hd:(pv d).2.size≤1000) (h0:d≠0):gussetref03_Lowest.f (pv n).1 (pv n).2 (pv d).1 (pv d).2=some (pq (Rat.divInt n d)):=by
 unfold gussetref03_Lowest.f;rw[ival_pv,ival_pv,if_pos ⟨hn,hd,chk_ok.2 (okI_pv (by omega)),chk_ok.2 (okI_pv (by omega)),h0⟩]
theorem tim3 {a0:Bool} {a1:ByteArray} {b0:Bool} {b1:ByteArray} (h1:a1.size≤4000) (h2:b1.size≤4000):gussetref02_Times.f a0 a1 b0 b1=some (pv (ival a0 a1*ival b0 b1)):=by
 unfold gussetref02_Times.f;rw[if_pos ⟨h1,h2⟩]
theorem sum2 {a0:Bool} {a1:ByteArray} {b0:Bool} {b1:ByteArray} (h1:a1.size≤4000) (h2:b1.size≤4000):gussetref02_Sum.f a0 a1 b0 b1=some (pv (ival a0 a1+ival b0 b1)):=by
 unfold gussetref02_Sum.f;rw[if_pos ⟨h1,h2⟩]
theorem times3_p (k:Nat) (a b:RG) (ha:okR a) (hb:okR b) (h1:a.2.1.size≤500) (h2:a.2.2.size≤500) (h3:b.2.1.size≤500) (h4:b.2.2.size≤500) :
  gussetref03_Times.f (k+1) a.1 a.2.1 a.2.2 b.1 b.2.1 b.2.2=some (pq (rq a*rq b)):=by
 have key:gussetref03_Times.j0 (k+1) false a.1 a.2.1 a.2.2 b.1 b.2.1 b.2.2=some (pq (rq a*rq b)):=by
  have e1:gussetref03_den.f a.1 a.2.1 a.2.2=some (false,a.2.2):=rfl;have e2:gussetref03_den.f b.1 b.2.1 b.2.2=some (false,b.2.2):=rfl;rw[gussetref03_Times.j0,if_neg (by decide),tim3 (by first|omega|(dsimp only;omega)) (by first|omega|(dsimp only;omega)),Option.bind_some,e1,Option.bind_some,e2,Option.bind_some,tim3 (by first|omega|(dsimp only;omega)) (by first|omega|(dsimp only;omega)),Option.bind_some];have hp:ival false a.2.2*ival false b.2.2≠0:=by
   have:=Int.mul_pos ha.dp hb.dp;have e:ival false a.2.2*ival false b.2.2=rden a*rden b:=rfl;omega
  rw[low3 (szmul (k:=500) (l:=500) (ival_bd h1) (ival_bd h3) (by omega)) (szmul (k:=500) (l:=500) (ival_bd h2) (ival_bd h4) (by omega)) hp,Option.bind_some];have e:Rat.divInt (ival a.1 a.2.1*ival b.1 b.2.1) (ival false a.2.2*ival false b.2.2)=rq a*rq b:=q_mul;rw[e]
 unfold gussetref03_Times.f;by_cases c1:a.2.2.toList=([1]:List UInt8)
 ·rw[if_pos c1]
  by_cases c2:b.2.2.toList=([1]:List UInt8)
  ·rw[beq_iff_eq.2 c2,gussetref03_Times.j0,if_pos rfl,tim3 (by first|omega|(dsimp only;omega)) (by first|omega|(dsimp only;omega)),Option.bind_some]
   have e:rq a*rq b=Rat.divInt (ival a.1 a.2.1*ival b.1 b.2.1) 1:=by
    rw[← q_mul,rden_one c1,rden_one c2];rfl
   rw[e,q_int]
  ·rw[beq_eq_false_iff_ne.2 c2]
   exact key
 ·rw[if_neg c1]
  exact key
theorem sum3_p (k:Nat) (a b:RG) (ha:okR a) (hb:okR b) (h1:a.2.1.size≤400) (h2:a.2.2.size≤400) (h3:b.2.1.size≤400) (h4:b.2.2.size≤400) :
  gussetref03_Sum.f (k+1) a.1 a.2.1 a.2.2 b.1 b.2.1 b.2.2=some (pq (rq a+rq b)):=by
 have key:gussetref03_Sum.j0 (k+1) false a.1 a.2.1 a.2.2 b.1 b.2.1 b.2.2=some (pq (rq a+rq b)):=by
  have e1:gussetref03_den.f a.1 a.2.1 a.2.2=some (false,a.2.2):=rfl;have e2:gussetref03_den.f b.1 b.2.1 b.2.2=some (false,b.2.2):=rfl;have z1:=szmul (k:=400) (l:=400) (m:=800) (ival_bd (n:=a.1) h1) (ival_bd (n:=false) h4) (by omega);have z2:=szmul (k:=400) (l:=400) (m:=800) (ival_bd (n:=b.1) h3) (ival_bd (n:=false) h2) (by omega);have hp:ival false a.2.2*ival false b.2.2≠0:=by
   have:=Int.mul_pos ha.dp hb.dp;have e:ival false a.2.2*ival false b.2.2=rden a*rden b:=rfl;omega
  rw[gussetref03_Sum.j0,if_neg (by decide)];simp only[e1,e2,Option.bind_some]
  rw[tim3 (by omega) (by omega),Option.bind_some,tim3 (by omega) (by omega),Option.bind_some,sum2 (by omega) (by omega),Option.bind_some,ival_pv,ival_pv,tim3 (by omega) (by omega),Option.bind_some,
   low3 (size_pv (add_bd (k:=800) (mul_bd (k:=400) (l:=400) (ival_bd h1) (ival_bd h4) (by omega)) (mul_bd (k:=400) (l:=400) (ival_bd h3) (ival_bd h2) (by omega)) (by omega))) (szmul (k:=400) (l:=400) (ival_bd h2) (ival_bd h4) (by omega)) hp,Option.bind_some]
  have e:Rat.divInt (ival a.1 a.2.1*ival false b.2.2+ival b.1 b.2.1*ival false a.2.2) (ival false a.2.2*ival false b.2.2)=rq a+rq b:=q_add ha hb;rw[e]
 unfold gussetref03_Sum.f;by_cases c1:a.2.2.toList=([1]:List UInt8)
 ·rw[if_pos c1]
  by_cases c2:b.2.2.toList=([1]:List UInt8)
  ·rw[beq_iff_eq.2 c2,gussetref03_Sum.j0,if_pos rfl,sum2 (by omega) (by omega),Option.bind_some]
   have e:rq a+rq b=Rat.divInt (ival a.1 a.2.1+ival b.1 b.2.1) 1:=by
    rw[← q_add ha hb,rden_one c1,rden_one c2,Int.mul_one,Int.mul_one,Int.mul_one];rfl
   rw[e,q_int]
  ·rw[beq_eq_false_iff_ne.2 c2]
   exact key
 ·rw[if_neg c1]
  exact key
def ngR (a:RG):RG:=(!a.1&&decide (0<a.2.1.size),a.2.1,a.2.2)
theorem rnum_ng {a:RG} (h:okR a):rnum (ngR a) =-rnum a:=ival_ng h.kn
theorem ok_ng {a:RG} (h:okR a):okR (ngR a):=by
 refine⟨h.sn,h.sd,okI_neg h.kn,h.kd,h.nz,?_⟩;rw[rnum_ng h,Int.neg_gcd];exact h.co
theorem rq_ng {a:RG} (h:okR a):rq (ngR a) =-rq a:=by
 unfold rq;rw[rnum_ng h,Rat.neg_divInt];rfl
theorem less3_p (k:Nat) (a b:RG) (ha:okR a) (hb:okR b) (h1:a.2.1.size≤400) (h2:a.2.2.size≤400) (h3:b.2.1.size≤400) (h4:b.2.2.size≤400) :
  gussetref03_Less.f (k+1) a.1 a.2.1 a.2.2 b.1 b.2.1 b.2.2=some (pq (rq a-rq b)):=by
 have e:gussetref03_Negate.f b.1 b.2.1 b.2.2=some (ngR b):=rfl;have h:=sum3_p k a (ngR b) ha (ok_ng hb) h1 h2 h3 h4;unfold gussetref03_Less.f;rw[e,Option.bind_some,h,Option.bind_some,rq_ng hb,← Rat.sub_eq_add_neg]
theorem sign3_q {a:RG} (h:okR a):gussetref03_Sign.f a.1 a.2.1 a.2.2=some (cmpQ (rq a) 0):=by
 rw[sgn_q h];unfold gussetref03_Sign.f;by_cases n:a.1=true
 ·rw[if_pos n,if_pos n]
 ·rw[if_neg n,if_neg n]
  by_cases z:a.2.1.size=0
  ·rw[if_pos (tl_nil.2 z),if_pos z]
  ·rw[if_neg (fun hc=>z (tl_nil.1 hc)),if_neg z]
end Go.Proofs.YtfcjnhkkfmgmpaaGreat
