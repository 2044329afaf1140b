import Derived.Test.YtfcjnhkkfmgmpaaGreatZtG12
set_option linter.all false
set_option maxRecDepth 100000
set_option maxHeartbeats 8000000
namespace Go.Proofs.YtfcjnhkkfmgmpaaGreat
open Go.RowKit aS
def pv (v:Int):Bool × ByteArray:=(decide (v<0),eF (v.natAbs:Int))
def ag (x:Bool × ByteArray):Value := .agg #[.bool x.1,.string x.2]
theorem alB (v:Int):qC v=ag (pv v):=rfl
theorem ap_ {v:Int} {k:Nat} (h:v<256^k) (h0:0<=v):nb v<=k:=by
 rcases (show v=0\/0<v by omega) with h1|h1
 ·rw[h1,yN];exact Nat.zero_le _
 ·obtain⟨h2,h3,h4⟩:=EB h1
  refine Nat.le_of_not_lt fun h5=>?_;have:=ug (show k<=nb v-1 by omega);omega
theorem EC {v:Int} {k:Nat} (h:(v.natAbs:Int)<256^k):(pv v).2.size<=k:=by
 show(eF _).size<=k;rw[yH];exact ap_ h aD
theorem xj (v:Int):ival (pv v).1 (pv v).2=v:=by
 unfold ival pv bF;rw[Vb aD];by_cases h:v<0
 ·rw[if_pos (by simpa using h)];omega
 ·rw[if_neg (by simpa using h)];omega
theorem CQ {v:Int} (h:(pv v).2.size<=32000):fX (pv v).1 (pv v).2:=by
 refine⟨h,Th _ aD,fun hn=>?_⟩;have hn:v<0:=by simpa [pv] using hn
 show 0<(eF _).size;rw[yH];have:=(EB (v:=(v.natAbs:Int)) aD).2.2;omega
theorem abp {n:Bool} {s:ByteArray} (h:fX n s):pv (ival n s)=(n,s):=by
 have h0:=(jM s).1;unfold pv ival;have e:((bF n (nv s)).natAbs:Int)=nv s:=IE h0;rw[e,Vc h.2.1];cases n with
 | false=>simp[bF];omega
 | true =>
  have h1:=h.2.2 rfl;have h2:nv s≠0:=by
   intro hz;have:=Tb h.2.1;rw[hz,yN]at this
   omega
  simp[bF];omega
def mI (f:Int->Int->Int) (a b:Bool × ByteArray):(Bool × ByteArray) × Int:=if iz a.1 a.2 b.1 b.2=0 then (pv (f (ival a.1 a.2) (ival b.1 b.2)),0) else ((false,⟨#[]⟩),iz a.1 a.2 b.1 b.2)
theorem alC {f:Int->Int->Int} {a b:Bool × ByteArray} (h:iz a.1 a.2 b.1 b.2=0):mI f a b=(pv (f (ival a.1 a.2) (ival b.1 b.2)),0):=if_pos h
theorem V3 {f:Int->Int->Int} {a b:Bool × ByteArray} {w:World} {e:Ending} {w':World} (h:F6 f a.1 a.2 b.1 b.2 w e w'):e = .returned (.tuple #[ag (mI f a b).1,.int .i64 (mI f a b).2])/\Below w.heap.size w w':=by
 refine⟨?_,h.2.2⟩;unfold mI;split
 ·rename_i h0;exact h.2.1 h0
 ·rename_i h0;exact h.1 h0
theorem fD {n:Bool} {s:ByteArray} {k:Nat} (h:s.size<=k):((ival n s).natAbs:Int)<256^k:=by
 have h0:=(jM s).1;unfold ival;rw[IE h0];exact ou h
theorem V4 {a b:Int} {k m:Nat} (ha:(a.natAbs:Int)<256^k) (hb:(b.natAbs:Int)<256^k) (hm:k+1<=m):((a+b).natAbs:Int)<256^m:=by
 have h3:=ug hm;rw[Ys]at h3
 generalize (256:Int)^m=u at *;generalize (256:Int)^k=u at *;omega
theorem adj {a b:Int} {k m:Nat} (ha:(a.natAbs:Int)<256^k) (hb:(b.natAbs:Int)<256^k) (hm:k+1<=m):((a-b).natAbs:Int)<256^m:=by
 have h3:=ug hm;rw[Ys]at h3
 generalize (256:Int)^m=u at *;generalize (256:Int)^k=u at *;omega
theorem ue {a b:Int} {k l m:Nat} (ha:(a.natAbs:Int)<256^k) (hb:(b.natAbs:Int)<256^l) (hm:k+l<=m):((a*b).natAbs:Int)<256^m:=by
 have h3:=ug hm;rw[Int.pow_add]at h3
 have hp:=Yp k;rw[Int.natAbs_mul,Int.natCast_mul];generalize (256:Int)^m=u at *;generalize (256:Int)^k=y at *;generalize (256:Int)^l=z at *;have h5:(a.natAbs:Int)*(b.natAbs:Int)<=(a.natAbs:Int)*z:=Int.mul_le_mul_of_nonneg_left aD aD;have h6:(a.natAbs:Int)*z<y*z:=Int.mul_lt_mul_of_pos_right ha aD;omega
def sQ (s:ByteArray):Bool:=!decide (0<s.size/\gw s (s.size-1)=0)
theorem abq (s:ByteArray) (w:World):Calls Tryz.prog 85 #[.string s] w fun e w'=>e = .returned (.bool (sQ s))/\Below w.heap.size w w':=by
 by_cases h0:s.size=0
 ·obtain⟨t1,t2⟩:=toList_nil h0
  have HZ:=Lib.hid (show sQ s=true by unfold sQ;rw[decide_eq_false aD];rfl);clear h0;go_enter Tryz.func85,Tryz.ntmps85;go_wp2
  repeat(go_quiet (fail);try go_wp2)
  go_ret
  exact⟨by rw[HZ.out] <;> rfl,by first|exact Below.refl _ _|exact iy (Below.refl _ _) _⟩
 ·obtain⟨t1,t2⟩:=Ao (by omega:0<s.size)
  obtain⟨t0,BD⟩:∃ t0,gw s (s.size-1)=t0:=⟨_,rfl⟩
  have hx:∀ h:0<s.size,((s[0]'h).toNat:Int)=t0:=fun h=>by
   rw[<- BD];unfold gw;rw[dif_pos aD];congr 3
   omega
  have q1:=eq_true (show(0:Int)<(s.size:Int) by omega);have q2:=eq_true (show 0<s.size by omega);by_cases hz:t0=0
  ·have HZ:=Lib.hid (show sQ s=false by unfold sQ;rw[decide_eq_true ⟨by omega,by rw[BD];exact hz⟩];rfl)
   subst hz;clear h0 BD;go_enter Tryz.func85,Tryz.ntmps85;go_wp2
   repeat(go_quiet (fail);try go_wp2)
   go_ret
   exact⟨by rw[HZ.out] <;> rfl,by first|exact Below.refl _ _|exact iy (Below.refl _ _) _⟩
  ·have HZ:=Lib.hid (show sQ s=true by unfold sQ;rw[decide_eq_false (by rw[BD];exact fun h=>hz h.2)];rfl)
   have y1:(t0==0)=false:=beq_eq_false_iff_ne.mpr hz;have y2:(t0 != 0)=true:=bne_iff_ne.mpr hz;clear h0 BD hz;go_enter Tryz.func85,Tryz.ntmps85;go_wp2
   repeat(go_quiet (fail);try go_wp2)
   go_ret
   exact⟨by rw[HZ.out] <;> rfl,by first|exact Below.refl _ _|exact iy (Below.refl _ _) _⟩
theorem alD (n:Bool) (s:ByteArray) (w:World):Calls Tryz.prog 84 #[.agg #[.bool n,.string s]] w fun e w'=>e = .returned (.int .i64 (ij n s))/\Below w.heap.size w w':=by
 have hb0:Below w.heap.size w (w.alloc (.cells #[.bool n,.string s] 38)):=(Below.refl _ _).alloc (Nat.le_refl _) _;have HB:=Lib.hid hb0;clear hb0;by_cases h1:32000<s.size
 ·have HZ:=Lib.hid (show ij n s=5 by unfold ij;rw[if_pos h1])
  have t1:decide ((32000:Int)<(s.size:Int))=true:=decide_eq_true aD;clear h1;go_enter Tryz.func84,Tryz.ntmps84;go_wp2
  go_ret
  exact⟨by rw[HZ.out] <;> rfl,HB.out⟩
 ·have t1:decide ((32000:Int)<(s.size:Int))=false:=decide_eq_false aD
  have HC:=Lib.hid (abq s);by_cases h2:0<s.size/\gw s (s.size-1)=0
  ·have HZ:=Lib.hid (show ij n s=1 by unfold ij;rw[if_neg h1,if_pos h2])
   rw[show sQ s=false by unfold sQ;rw[decide_eq_true h2];rfl]at HC
   clear h1 h2;go_enter Tryz.func84,Tryz.ntmps84;go_wp2_with fail
   refine(HC.out _).mono ?_;rintro e w2 ⟨rfl,hb⟩;have cZ:=Lib.hid (HB.out.trans (hb.mono HB.out.size));clear hb;go_wp2
   repeat(go_quiet (fail);try go_wp2)
   go_ret
   exact⟨by rw[HZ.out] <;> rfl,by first|exact cZ.out|exact iy cZ.out _⟩
  ·rw[show sQ s=true by unfold sQ;rw[decide_eq_false h2];rfl]at HC
   cases n with
   | false =>
    have HZ:=Lib.hid (show ij false s=0 by unfold ij;rw[if_neg h1,if_neg h2,if_neg (by simp)]);clear h1 h2;go_enter Tryz.func84,Tryz.ntmps84;go_wp2_with fail
    refine(HC.out _).mono ?_;rintro e w2 ⟨rfl,hb⟩;have c0:=hb.cell (p:=⟨w.heap.size,0,none⟩) (by simp);have c1:=hb.cell (p:=⟨w.heap.size,1,none⟩) (by simp);rw[show(w.alloc (.cells #[.bool false,.string s] 38)).cell? ⟨w.heap.size,0,none⟩=some (.bool false) from by simp[go_sem]]at c0
    rw[show(w.alloc (.cells #[.bool false,.string s] 38)).cell? ⟨w.heap.size,1,none⟩=some (.string s) from by simp[go_sem]]at c1
    have cZ:=Lib.hid (HB.out.trans (hb.mono HB.out.size));clear hb;go_wp2
    repeat(go_quiet (fail);try go_wp2)
    go_ret
    exact⟨by rw[HZ.out] <;> rfl,by first|exact cZ.out|exact iy cZ.out _⟩
   | true =>
    by_cases h3:s.size=0
    ·have HZ:=Lib.hid (show ij true s=1 by unfold ij;rw[if_neg h1,if_neg h2,if_pos ⟨rfl,h3⟩])
     obtain⟨t2,t3⟩:=toList_nil h3;clear h1 h2 h3;go_enter Tryz.func84,Tryz.ntmps84;go_wp2_with fail
     refine(HC.out _).mono ?_;rintro e w2 ⟨rfl,hb⟩;have c0:=hb.cell (p:=⟨w.heap.size,0,none⟩) (by simp);have c1:=hb.cell (p:=⟨w.heap.size,1,none⟩) (by simp);rw[show(w.alloc (.cells #[.bool true,.string s] 38)).cell? ⟨w.heap.size,0,none⟩=some (.bool true) from by simp[go_sem]]at c0
     rw[show(w.alloc (.cells #[.bool true,.string s] 38)).cell? ⟨w.heap.size,1,none⟩=some (.string s) from by simp[go_sem]]at c1
     have cZ:=Lib.hid (HB.out.trans (hb.mono HB.out.size));clear hb;go_wp2
     repeat(go_quiet (fail);try go_wp2)
     go_ret
     exact⟨by rw[HZ.out] <;> rfl,by first|exact cZ.out|exact iy cZ.out _⟩
    ·have HZ:=Lib.hid (show ij true s=0 by unfold ij;rw[if_neg h1,if_neg h2,if_neg (fun h=>h3 h.2)])
     obtain⟨t2,t3⟩:=Ao (by omega:0<s.size);clear h1 h2 h3;go_enter Tryz.func84,Tryz.ntmps84;go_wp2_with fail
     refine(HC.out _).mono ?_;rintro e w2 ⟨rfl,hb⟩;have c0:=hb.cell (p:=⟨w.heap.size,0,none⟩) (by simp);have c1:=hb.cell (p:=⟨w.heap.size,1,none⟩) (by simp);rw[show(w.alloc (.cells #[.bool true,.string s] 38)).cell? ⟨w.heap.size,0,none⟩=some (.bool true) from by simp[go_sem]]at c0
     rw[show(w.alloc (.cells #[.bool true,.string s] 38)).cell? ⟨w.heap.size,1,none⟩=some (.string s) from by simp[go_sem]]at c1
     have cZ:=Lib.hid (HB.out.trans (hb.mono HB.out.size));clear hb;go_wp2
     repeat(go_quiet (fail);try go_wp2)
     go_ret
     exact⟨by rw[HZ.out] <;> rfl,by first|exact cZ.out|exact iy cZ.out _⟩
theorem ap' (a b:Bool × ByteArray) (h1:a.2.size<=15000) (h2:b.2.size<=15000):Hid (∀ w,Calls Tryz.prog 114 #[.agg #[.bool a.1,.string a.2],.agg #[.bool b.1,.string b.2]] w fun e w'=>e = .returned (.tuple #[.agg #[.bool (mI (·+·) a b).1.1,.string (mI (·+·) a b).1.2],.int .i64 (mI (·+·) a b).2])/\Below w.heap.size w w') :=
 Lib.hid fun w=>(ap6 a.1 a.2 b.1 b.2 h1 h2 w).mono fun e w' h=>V3 h
theorem aqa (a b:Bool × ByteArray) (h1:a.2.size<=15000) (h2:b.2.size<=15000):Hid (∀ w,Calls Tryz.prog 113 #[.agg #[.bool a.1,.string a.2],.agg #[.bool b.1,.string b.2]] w fun e w'=>e = .returned (.tuple #[.agg #[.bool (mI (·-·) a b).1.1,.string (mI (·-·) a b).1.2],.int .i64 (mI (·-·) a b).2])/\Below w.heap.size w w') :=
 Lib.hid fun w=>(ap7 a.1 a.2 b.1 b.2 h1 h2 w).mono fun e w' h=>V3 h
theorem aqb (a b:Bool × ByteArray) (h1:a.2.size<=15000) (h2:b.2.size<=15000):Hid (∀ w,Calls Tryz.prog 123 #[.agg #[.bool a.1,.string a.2],.agg #[.bool b.1,.string b.2]] w fun e w'=>e = .returned (.tuple #[.agg #[.bool (mI (·*·) a b).1.1,.string (mI (·*·) a b).1.2],.int .i64 (mI (·*·) a b).2])/\Below w.heap.size w w') :=
 Lib.hid fun w=>(ap8 a.1 a.2 b.1 b.2 h1 h2 w).mono fun e w' h=>V3 h
def NA:Bool × ByteArray:=(false,⟨#[]⟩)
def wC (a b:Bool × ByteArray):(Bool × ByteArray) × (Bool × ByteArray) × Int :=
 if iz a.1 a.2 b.1 b.2≠0 then (NA,NA,iz a.1 a.2 b.1 b.2) else if nv b.2=0 then (NA,NA,3) else (pv (ival a.1 a.2 / ival b.1 b.2),pv (ival a.1 a.2%ival b.1 b.2),0)
theorem api (a b:Bool × ByteArray) (h1:a.2.size<=15000) (h2:b.2.size<=15000) (w:World):Calls Tryz.prog 137 #[.agg #[.bool a.1,.string a.2],.agg #[.bool b.1,.string b.2]] w fun e w'=>e = .returned (.tuple #[.agg #[.bool (wC a b).1.1,.string (wC a b).1.2],.agg #[.bool (wC a b).2.1.1,.string (wC a b).2.1.2],.int .i64 (wC a b).2.2])/\Below w.heap.size w w' :=
 (ape a.1 a.2 b.1 b.2 h1 h2 w).mono fun e w' h=>by
  refine⟨?_,h.2.2.2⟩
  unfold wC
  split
  ·rename_i h0;exact h.1 h0
  ·rename_i h0
   split
   ·rename_i hz;exact h.2.1 (Decidable.not_not.mp h0) hz
   ·rename_i hz;exact h.2.2.1 (Decidable.not_not.mp h0) hz
def Dd (a b:Bool × ByteArray):(Bool × ByteArray) × Int :=
 if iz a.1 a.2 b.1 b.2≠0 then (NA,iz a.1 a.2 b.1 b.2) else (pv (Int.gcd (ival a.1 a.2) (ival b.1 b.2):Nat),0)
theorem Oo (n:Bool) (s:ByteArray):(ival n s).natAbs=(nv s).toNat:=by
 have h0:=(jM s).1;unfold ival bF;split <;> omega
theorem apj (a b:Bool × ByteArray) (h1:a.2.size<=15000) (h2:b.2.size<=15000) (w:World):Calls Tryz.prog 109 #[.agg #[.bool a.1,.string a.2],.agg #[.bool b.1,.string b.2]] w fun e w'=>e = .returned (.tuple #[.agg #[.bool (Dd a b).1.1,.string (Dd a b).1.2],.int .i64 (Dd a b).2])/\Below w.heap.size w w' :=
 (apf a.1 a.2 b.1 b.2 h1 h2 w).mono fun e w' h=>by
  refine⟨?_,h.2.2⟩
  unfold Dd
  split
  ·rename_i h0;exact h.1 h0
  ·rename_i h0
   rw[h.2.1 (Decidable.not_not.mp h0)]
   have e1:(pv ((Int.gcd (ival a.1 a.2) (ival b.1 b.2):Nat):Int))=(false,eF ((Nat.gcd (nv a.2).toNat (nv b.2).toNat:Nat):Int)):=by
    unfold pv Int.gcd;rw[Oo,Oo,Int.natAbs_natCast];exact congrArg (fun z=>(z,_)) (decide_eq_false aD)
   rw[e1]
abbrev RG:=Bool × ByteArray × ByteArray
def nJ (a:RG):Int:=ival a.1 a.2.1
def gH (a:RG):Int:=nv a.2.2
def rq (a:RG):Rat:=Rat.divInt (nJ a) (gH a)
def pq (q:Rat):RG:=((pv q.num).1,(pv q.num).2,(pv (q.den:Int)).2)
def nor:RG:=(false,⟨#[]⟩,⟨#[]⟩)
def rA (a:RG):Int :=
 if 8000<a.2.1.size\/8000<a.2.2.size then 5
 else if ij a.1 a.2.1≠0\/ij false a.2.2≠0\/a.2.2.size=0\/Int.gcd (nJ a) (gH a)≠1 then 1 else 0
structure i_ (a:RG):Prop where
 sn:a.2.1.size<=8000
 sd:a.2.2.size<=8000
 kn:fX a.1 a.2.1
 kd:fX false a.2.2
 nz:a.2.2.size≠0
 co:Int.gcd (nJ a) (gH a)=1
theorem Cs {a:RG}:rA a=0↔i_ a:=by
 unfold rA;constructor
 ·intro h
  split at h
  ·exact absurd h (by decide)
  ·rename_i h1
   split at h
   ·exact absurd h (by decide)
   ·rename_i h2
    have h3:ij a.1 a.2.1=0:=Decidable.byContradiction fun hc=>h2 (.inl hc);have h4:ij false a.2.2=0:=Decidable.byContradiction fun hc=>h2 (.inr (.inl hc));have h5:a.2.2.size≠0:=fun hc=>h2 (.inr (.inr (.inl hc)));have h6:Int.gcd (nJ a) (gH a)=1:=Decidable.byContradiction fun hc=>h2 (.inr (.inr (.inr hc)));exact⟨by omega,by omega,sw.1 h3,sw.1 h4,h5,h6⟩
 ·intro h
  rw[if_neg (by have:=h.sn;have:=h.sd;omega),if_neg (fun hc=>by
   rcases hc with hc|hc|hc|hc
   ·exact hc (sw.2 h.kn)
   ·exact hc (sw.2 h.kd)
   ·exact h.nz hc
   ·exact hc h.co)]
theorem P8 {s:ByteArray} (h:s.size=0):s=⟨#[]⟩:=by
 cases s with
 | mk d=>exact congrArg ByteArray.mk (Array.eq_empty_of_size_eq_zero h)
theorem Vf {v:Int} (h:0<=v):(pv v).1=false:=by
 show decide (v<0)=false;exact decide_eq_false aD
theorem aeb {v:Int} (h:0<=v):pv v=(false,(pv v).2):=by rw[<- Vf h]
theorem abr {v:Int} (h:0<=v):ival false (pv v).2=v:=by have e:=xj v;rw[aeb h]at e;exact e
theorem Ww {v:Int} (h:0<=v):nv (pv v).2=v:=abr h
theorem adk {v:Int} (h0:0<=v) (h:(pv v).2.size<=32000):fX false (pv v).2:=by
 have e:=CQ h;rw[Vf h0]at e
 exact e
theorem P9 {s:ByteArray} {l:List UInt8}:s.toList=l↔s=⟨l.toArray⟩:=by
 rw[ByteArray.toList_eq];constructor
 ·rintro rfl
  rfl
 ·rintro rfl
  rfl
theorem CT {s:ByteArray}:s.toList=([]:List UInt8)↔s.size=0:=by
 rw[P9];exact⟨fun h=>by rw[h];rfl,P8⟩
theorem agv:pv 1=(false,⟨#[1]⟩):=by decide +kernel
theorem XU:nv (⟨#[1]⟩:ByteArray)=1:=by decide +kernel
theorem yO {n:Nat}:(pv (n:Int)).2.toList=([1]:List UInt8)↔n=1:=by
 rw[P9];constructor
 ·intro h
  have e:=Ww (v:=(n:Int)) aD;rw[h]at e
  have:nv (⟨[1].toArray⟩:ByteArray)=1:=XU;omega
 ·rintro rfl
  exact congrArg Prod.snd agv
theorem Vg {n:Bool} {s:ByteArray} (h:fX n s):fX (!n&&decide (0<s.size)) s :=
 ⟨h.1,h.2.1,fun hc=>by simp at hc;exact hc.2⟩
theorem Vh {n:Bool} {s:ByteArray} (h:fX n s):ival (!n&&decide (0<s.size)) s =-ival n s:=by
 unfold ival bF;by_cases hs:0<s.size
 ·cases n <;> simp[hs]
 ·have e:s=⟨#[]⟩:=P8 aD
  have:nv s=0:=by rw[e];rfl
  have hn:n≠true:=fun hc=>hs (h.2.2 hc);cases n
  ·simp[hs,this]
  ·exact absurd rfl hn
theorem i_.dp {a:RG} (h:i_ a):0<gH a:=V2 h.kd.2.1 (Nat.pos_of_ne_zero h.nz)
theorem i_.q {a:RG} (h:i_ a):(rq a).num=nJ a/\((rq a).den:Int)=gH a:=by
 have hd:=h.dp;unfold rq;obtain⟨n,hn⟩:∃ n,nJ a=n:=⟨_,rfl⟩
 obtain⟨d,hd2⟩:∃ d:Nat,gH a=(d:Int):=⟨(gH a).toNat,by omega⟩
 have hc:=h.co;rw[hn,hd2]at hc ⊢
 rw[hd2]at hd
 rw[<- Rat.mk_eq_divInt (num:=n) (den:=d) (nz:=by omega) (c:=by
  have:n.natAbs.gcd d=1:=by rw[<- hc];unfold Int.gcd;rw[Int.natAbs_natCast]
  exact this)]
 exact⟨rfl,rfl⟩
theorem abt (q:Rat):nJ (pq q)=q.num:=xj _
theorem Vi (q:Rat):gH (pq q)=(q.den:Int):=Ww aD
theorem qX (q:Rat):rq (pq q)=q:=by
 unfold rq;rw[abt,Vi];exact Rat.num_divInt_den q
theorem V5 {q:Rat} (h1:(pq q).2.1.size<=8000) (h2:(pq q).2.2.size<=8000):i_ (pq q):=by
 refine⟨h1,h2,CQ (by have:(pv q.num).2.size<=8000:=h1;omega),adk aD (by have:(pv (q.den:Int)).2.size<=8000:=h2;omega),fun h=>?_,?_⟩
 ·have e:=Vi q
  have h3:nv (pq q).2.2=0:=by rw[P8 h];rfl
  have h4:gH (pq q)=0:=h3;have:=q.den_pos;omega
 ·rw[abt,Vi]
  have:=q.reduced;unfold Int.gcd;rw[Int.natAbs_natCast];exact this
theorem OS {n d:Int} (hd:0<d):(Rat.divInt n d).num=n / (Int.gcd n d:Nat):=by
 rw[Rat.num_divInt,Int.sign_eq_one_of_pos hd,Int.one_mul,Int.gcd_comm]
theorem OT {n d:Int} (hd:0<d):((Rat.divInt n d).den:Int)=d / (Int.gcd n d:Nat):=by
 rw[Rat.den_divInt,if_neg aD,Int.gcd_comm,Int.natCast_ediv];congr 1
 omega
theorem abu {n d:Int} (hd:0<d):0<Int.gcd n d:=Nat.pos_of_ne_zero fun h=>by have:=(Int.gcd_eq_zero_iff.1 h).2;omega
theorem ajo (n:Int) {d:Int} (hd:0<d):((Rat.divInt n d).num.natAbs:Int)<=(n.natAbs:Int):=by
 rw[OS hd];have:=Int.natAbs_ediv_le_natAbs n (Int.gcd n d:Nat);omega
theorem ajp (n:Int) {d:Int} (hd:0<d):((Rat.divInt n d).den:Int)<=d:=by
 rw[OT hd];exact Int.ediv_le_self _ aD
theorem UU {n d:Int} {k m:Nat} (hd:0<d) (h1:(n.natAbs:Int)<256^k) (h2:d<256^m):(pq (Rat.divInt n d)).2.1.size<=k/\(pq (Rat.divInt n d)).2.2.size<=m :=
 ⟨EC (Int.lt_of_le_of_lt (ajo n hd) h1),EC (by have:=ajp n hd;omega)⟩
theorem QC {a b:RG} (ha:i_ a) (hb:i_ b):Rat.divInt (nJ a*gH b+nJ b*gH a) (gH a*gH b)=rq a+rq b :=
 (Rat.divInt_add_divInt _ _ (by have:=ha.dp;omega) (by have:=hb.dp;omega)).symm
theorem aec {a b:RG} (ha:i_ a) (hb:i_ b):Rat.divInt (nJ a*gH b-nJ b*gH a) (gH a*gH b)=rq a-rq b :=
 (Rat.divInt_sub_divInt _ _ (by have:=ha.dp;omega) (by have:=hb.dp;omega)).symm
theorem QD {a b:RG}:Rat.divInt (nJ a*nJ b) (gH a*gH b)=rq a*rq b:=(Rat.divInt_mul_divInt _ _).symm
def De (p q:Rat):Int:=if p<q then -1 else if q<p then 1 else 0
theorem apC (a1:Bool) (a2:ByteArray) (b1:Bool) (b2:ByteArray) (r1:Bool) (r2:ByteArray) (x:Int)
  (H:Hid (∀ w,Calls Tryz.prog 123 #[.agg #[.bool a1,.string a2],.agg #[.bool b1,.string b2]] w fun e w'=>e = .returned (.tuple #[.agg #[.bool r1,.string r2],.int .i64 x])/\Below w.heap.size w w')) (w:World) :
  Calls Tryz.prog 122 #[.func (.func 123) #[] #[],.agg #[.bool a1,.string a2],.agg #[.bool b1,.string b2]] w fun e w'=>e = .returned (.agg #[.bool r1,.string r2])/\Below w.heap.size w w':=by
 obtain⟨W0,hW0⟩:∃ W0,W0=((w.alloc (.cells #[.bool a1,.string a2] 38)).alloc (.cells #[.bool b1,.string b2] 38)).alloc (.cells #[.bool false,.string ⟨#[]⟩] 38):=⟨_,rfl⟩
 have yg:Below w.heap.size w W0:=by rw[hW0];exact(((Below.refl _ _).alloc (by simp;try omega) _).alloc (by simp;try omega) _).alloc (by simp;try omega) _
 have sU:W0.cell? ⟨w.heap.size,0,none⟩=some (.bool a1):=by rw[hW0];simp[go_sem]
 have sV:W0.cell? ⟨w.heap.size,1,none⟩=some (.string a2):=by rw[hW0];simp[go_sem]
 have sW:W0.cell? ⟨w.heap.size+1,0,none⟩=some (.bool b1):=by rw[hW0];simp[go_sem]
 have sX:W0.cell? ⟨w.heap.size+1,1,none⟩=some (.string b2):=by rw[hW0];simp[go_sem]
 have oZ:W0.cell? ⟨w.heap.size+2,0,none⟩=some (.bool false):=by rw[hW0];simp[go_sem]
 have o7:W0.cell? ⟨w.heap.size+2,1,none⟩=some (.string ⟨#[]⟩):=by rw[hW0];simp[go_sem]
 have pK:W0.heap.size=w.heap.size+3:=by rw[hW0];simp
 have pL:=Lib.hid (show w.heap.size<W0.heap.size by rw[pK];omega);have lI:=Lib.hid (show w.heap.size+1<W0.heap.size by rw[pK];omega);have jz:=Lib.hid (show w.heap.size+2<W0.heap.size by rw[pK];omega);have n_:=Lib.hid hW0;have HB:=Lib.hid yg;clear yg pK hW0;have sF:W0.frozen? ⟨w.heap.size+2,0,none⟩=false:=by rw[n_.out];simp[go_sem]
 have sH:W0.frozen? ⟨w.heap.size+2,1,none⟩=false:=by rw[n_.out];simp[go_sem]
 go_enter Tryz.func122,Tryz.ntmps122;go_wp2_with fail
 rw[<- n_.out];refine(H.out _).mono ?_;rintro e w1 ⟨rfl,hb1⟩;have ey:Below W0.heap.size W0 (w1.alloc (.cells #[.bool r1,.string r2] 38)):=((hb1).alloc (by have:=hb1.size;simp;try omega) _)
 have sY:=(ey.cell (p:=⟨w.heap.size,0,none⟩) pL.out).trans sU;have sZ:=(ey.cell (p:=⟨w.heap.size,1,none⟩) pL.out).trans sV;have td:=(ey.cell (p:=⟨w.heap.size+1,0,none⟩) lI.out).trans sW;have th:=(ey.cell (p:=⟨w.heap.size+1,1,none⟩) lI.out).trans sX;have tj:=(ey.cell (p:=⟨w.heap.size+2,0,none⟩) jz.out).trans oZ;have tq:=(ey.cell (p:=⟨w.heap.size+2,1,none⟩) jz.out).trans o7;have o8:(w1.alloc (.cells #[.bool r1,.string r2] 38)).cell? ⟨w1.heap.size,0,none⟩=some (.bool r1):=by simp[go_sem]
 have o9:(w1.alloc (.cells #[.bool r1,.string r2] 38)).cell? ⟨w1.heap.size,1,none⟩=some (.string r2):=by simp[go_sem]
 have sI:=(ey.frozen (p:=⟨w.heap.size+2,0,none⟩) jz.out).trans sF;have sJ:=(ey.frozen (p:=⟨w.heap.size+2,1,none⟩) jz.out).trans sH;clear sU sV sW sX oZ o7 sF sH;have j7:=Lib.hid ey;have vM:=Lib.hid hb1.size;clear ey hb1;go_wp2
 obtain⟨W1,hW1⟩:∃ W1,W1=w1.alloc (.cells #[.bool r1,.string r2] 38):=⟨_,rfl⟩
 have tL:W1.heap.size=w1.heap.size+1:=by rw[hW1];simp
 rw[<- hW1]at j7 ⊢
 rw[<- hW1]at sY sZ
 rw[<- hW1]at td th
 rw[<- hW1]at tj tq
 rw[<- hW1]at o8 o9
 rw[<- hW1]at sI sJ
 obtain⟨g1,jE⟩:∃ g1,w1.heap.size=g1:=⟨_,rfl⟩
 rw[jE]at o8 o9
 rw[jE]at tL vM ⊢
 clear hW1 jE;have pL:=Lib.hid (Nat.lt_of_lt_of_le pL.out j7.out.size);have lI:=Lib.hid (Nat.lt_of_lt_of_le lI.out j7.out.size);have jz:=Lib.hid (Nat.lt_of_lt_of_le jz.out j7.out.size);have ZI:=Lib.hid (show g1<W1.heap.size by rw[tL];omega);clear tL vM;have HB:=Lib.hid (HB.out.trans (j7.out.mono HB.out.size));clear j7;have sU:=sY;have sV:=sZ;have sW:=td;have sX:=th;have oZ:=tj;have o7:=tq;have Yd:=o8;have Ye:=o9;have sF:=sI;have sH:=sJ;clear sY sZ td th tj tq o8 o9 sI sJ;refine bodyPost_ret (by simp[results,Tryz.results122,go_sem,oZ,o7];try rfl) rfl ?_;exact⟨rfl,(HB.out.setCell (by simp;try omega) _).setCell (by simp;try omega) _⟩
theorem apD (a1:Bool) (a2:ByteArray) (b1:Bool) (b2:ByteArray) (r1:Bool) (r2:ByteArray) (x:Int)
  (H:Hid (∀ w,Calls Tryz.prog 109 #[.agg #[.bool a1,.string a2],.agg #[.bool b1,.string b2]] w fun e w'=>e = .returned (.tuple #[.agg #[.bool r1,.string r2],.int .i64 x])/\Below w.heap.size w w')) (w:World) :
  Calls Tryz.prog 122 #[.func (.func 109) #[] #[],.agg #[.bool a1,.string a2],.agg #[.bool b1,.string b2]] w fun e w'=>e = .returned (.agg #[.bool r1,.string r2])/\Below w.heap.size w w':=by
 obtain⟨W0,hW0⟩:∃ W0,W0=((w.alloc (.cells #[.bool a1,.string a2] 38)).alloc (.cells #[.bool b1,.string b2] 38)).alloc (.cells #[.bool false,.string ⟨#[]⟩] 38):=⟨_,rfl⟩
 have yg:Below w.heap.size w W0:=by rw[hW0];exact(((Below.refl _ _).alloc (by simp;try omega) _).alloc (by simp;try omega) _).alloc (by simp;try omega) _
 have sU:W0.cell? ⟨w.heap.size,0,none⟩=some (.bool a1):=by rw[hW0];simp[go_sem]
 have sV:W0.cell? ⟨w.heap.size,1,none⟩=some (.string a2):=by rw[hW0];simp[go_sem]
 have sW:W0.cell? ⟨w.heap.size+1,0,none⟩=some (.bool b1):=by rw[hW0];simp[go_sem]
 have sX:W0.cell? ⟨w.heap.size+1,1,none⟩=some (.string b2):=by rw[hW0];simp[go_sem]
 have oZ:W0.cell? ⟨w.heap.size+2,0,none⟩=some (.bool false):=by rw[hW0];simp[go_sem]
 have o7:W0.cell? ⟨w.heap.size+2,1,none⟩=some (.string ⟨#[]⟩):=by rw[hW0];simp[go_sem]
 have pK:W0.heap.size=w.heap.size+3:=by rw[hW0];simp
 have pL:=Lib.hid (show w.heap.size<W0.heap.size by rw[pK];omega);have lI:=Lib.hid (show w.heap.size+1<W0.heap.size by rw[pK];omega);have jz:=Lib.hid (show w.heap.size+2<W0.heap.size by rw[pK];omega);have n_:=Lib.hid hW0;have HB:=Lib.hid yg;clear yg pK hW0;have sF:W0.frozen? ⟨w.heap.size+2,0,none⟩=false:=by rw[n_.out];simp[go_sem]
 have sH:W0.frozen? ⟨w.heap.size+2,1,none⟩=false:=by rw[n_.out];simp[go_sem]
 go_enter Tryz.func122,Tryz.ntmps122;go_wp2_with fail
 rw[<- n_.out];refine(H.out _).mono ?_;rintro e w1 ⟨rfl,hb1⟩;have ey:Below W0.heap.size W0 (w1.alloc (.cells #[.bool r1,.string r2] 38)):=((hb1).alloc (by have:=hb1.size;simp;try omega) _)
 have sY:=(ey.cell (p:=⟨w.heap.size,0,none⟩) pL.out).trans sU;have sZ:=(ey.cell (p:=⟨w.heap.size,1,none⟩) pL.out).trans sV;have td:=(ey.cell (p:=⟨w.heap.size+1,0,none⟩) lI.out).trans sW;have th:=(ey.cell (p:=⟨w.heap.size+1,1,none⟩) lI.out).trans sX;have tj:=(ey.cell (p:=⟨w.heap.size+2,0,none⟩) jz.out).trans oZ;have tq:=(ey.cell (p:=⟨w.heap.size+2,1,none⟩) jz.out).trans o7;have o8:(w1.alloc (.cells #[.bool r1,.string r2] 38)).cell? ⟨w1.heap.size,0,none⟩=some (.bool r1):=by simp[go_sem]
 have o9:(w1.alloc (.cells #[.bool r1,.string r2] 38)).cell? ⟨w1.heap.size,1,none⟩=some (.string r2):=by simp[go_sem]
 have sI:=(ey.frozen (p:=⟨w.heap.size+2,0,none⟩) jz.out).trans sF;have sJ:=(ey.frozen (p:=⟨w.heap.size+2,1,none⟩) jz.out).trans sH;clear sU sV sW sX oZ o7 sF sH;have j7:=Lib.hid ey;have vM:=Lib.hid hb1.size;clear ey hb1;go_wp2
 obtain⟨W1,hW1⟩:∃ W1,W1=w1.alloc (.cells #[.bool r1,.string r2] 38):=⟨_,rfl⟩
 have tL:W1.heap.size=w1.heap.size+1:=by rw[hW1];simp
 rw[<- hW1]at j7 ⊢
 rw[<- hW1]at sY sZ
 rw[<- hW1]at td th
 rw[<- hW1]at tj tq
 rw[<- hW1]at o8 o9
 rw[<- hW1]at sI sJ
 obtain⟨g1,jE⟩:∃ g1,w1.heap.size=g1:=⟨_,rfl⟩
 rw[jE]at o8 o9
 rw[jE]at tL vM ⊢
 clear hW1 jE;have pL:=Lib.hid (Nat.lt_of_lt_of_le pL.out j7.out.size);have lI:=Lib.hid (Nat.lt_of_lt_of_le lI.out j7.out.size);have jz:=Lib.hid (Nat.lt_of_lt_of_le jz.out j7.out.size);have ZI:=Lib.hid (show g1<W1.heap.size by rw[tL];omega);clear tL vM;have HB:=Lib.hid (HB.out.trans (j7.out.mono HB.out.size));clear j7;have sU:=sY;have sV:=sZ;have sW:=td;have sX:=th;have oZ:=tj;have o7:=tq;have Yd:=o8;have Ye:=o9;have sF:=sI;have sH:=sJ;clear sY sZ td th tj tq o8 o9 sI sJ;refine bodyPost_ret (by simp[results,Tryz.results122,go_sem,oZ,o7];try rfl) rfl ?_;exact⟨rfl,(HB.out.setCell (by simp;try omega) _).setCell (by simp;try omega) _⟩
theorem apE (a1:Bool) (a2:ByteArray) (b1:Bool) (b2:ByteArray) (r1:Bool) (r2:ByteArray) (x:Int)
  (H:Hid (∀ w,Calls Tryz.prog 114 #[.agg #[.bool a1,.string a2],.agg #[.bool b1,.string b2]] w fun e w'=>e = .returned (.tuple #[.agg #[.bool r1,.string r2],.int .i64 x])/\Below w.heap.size w w')) (w:World) :
  Calls Tryz.prog 122 #[.func (.func 114) #[] #[],.agg #[.bool a1,.string a2],.agg #[.bool b1,.string b2]] w fun e w'=>e = .returned (.agg #[.bool r1,.string r2])/\Below w.heap.size w w':=by
 obtain⟨W0,hW0⟩:∃ W0,W0=((w.alloc (.cells #[.bool a1,.string a2] 38)).alloc (.cells #[.bool b1,.string b2] 38)).alloc (.cells #[.bool false,.string ⟨#[]⟩] 38):=⟨_,rfl⟩
 have yg:Below w.heap.size w W0:=by rw[hW0];exact(((Below.refl _ _).alloc (by simp;try omega) _).alloc (by simp;try omega) _).alloc (by simp;try omega) _
 have sU:W0.cell? ⟨w.heap.size,0,none⟩=some (.bool a1):=by rw[hW0];simp[go_sem]
 have sV:W0.cell? ⟨w.heap.size,1,none⟩=some (.string a2):=by rw[hW0];simp[go_sem]
 have sW:W0.cell? ⟨w.heap.size+1,0,none⟩=some (.bool b1):=by rw[hW0];simp[go_sem]
 have sX:W0.cell? ⟨w.heap.size+1,1,none⟩=some (.string b2):=by rw[hW0];simp[go_sem]
 have oZ:W0.cell? ⟨w.heap.size+2,0,none⟩=some (.bool false):=by rw[hW0];simp[go_sem]
 have o7:W0.cell? ⟨w.heap.size+2,1,none⟩=some (.string ⟨#[]⟩):=by rw[hW0];simp[go_sem]
 have pK:W0.heap.size=w.heap.size+3:=by rw[hW0];simp
 have pL:=Lib.hid (show w.heap.size<W0.heap.size by rw[pK];omega);have lI:=Lib.hid (show w.heap.size+1<W0.heap.size by rw[pK];omega);have jz:=Lib.hid (show w.heap.size+2<W0.heap.size by rw[pK];omega);have n_:=Lib.hid hW0;have HB:=Lib.hid yg;clear yg pK hW0;have sF:W0.frozen? ⟨w.heap.size+2,0,none⟩=false:=by rw[n_.out];simp[go_sem]
 have sH:W0.frozen? ⟨w.heap.size+2,1,none⟩=false:=by rw[n_.out];simp[go_sem]
 go_enter Tryz.func122,Tryz.ntmps122;go_wp2_with fail
 rw[<- n_.out];refine(H.out _).mono ?_;rintro e w1 ⟨rfl,hb1⟩;have ey:Below W0.heap.size W0 (w1.alloc (.cells #[.bool r1,.string r2] 38)):=((hb1).alloc (by have:=hb1.size;simp;try omega) _)
 have sY:=(ey.cell (p:=⟨w.heap.size,0,none⟩) pL.out).trans sU;have sZ:=(ey.cell (p:=⟨w.heap.size,1,none⟩) pL.out).trans sV;have td:=(ey.cell (p:=⟨w.heap.size+1,0,none⟩) lI.out).trans sW;have th:=(ey.cell (p:=⟨w.heap.size+1,1,none⟩) lI.out).trans sX;have tj:=(ey.cell (p:=⟨w.heap.size+2,0,none⟩) jz.out).trans oZ;have tq:=(ey.cell (p:=⟨w.heap.size+2,1,none⟩) jz.out).trans o7;have o8:(w1.alloc (.cells #[.bool r1,.string r2] 38)).cell? ⟨w1.heap.size,0,none⟩=some (.bool r1):=by simp[go_sem]
 have o9:(w1.alloc (.cells #[.bool r1,.string r2] 38)).cell? ⟨w1.heap.size,1,none⟩=some (.string r2):=by simp[go_sem]
 have sI:=(ey.frozen (p:=⟨w.heap.size+2,0,none⟩) jz.out).trans sF;have sJ:=(ey.frozen (p:=⟨w.heap.size+2,1,none⟩) jz.out).trans sH;clear sU sV sW sX oZ o7 sF sH;have j7:=Lib.hid ey;have vM:=Lib.hid hb1.size;clear ey hb1;go_wp2
 obtain⟨W1,hW1⟩:∃ W1,W1=w1.alloc (.cells #[.bool r1,.string r2] 38):=⟨_,rfl⟩
 have tL:W1.heap.size=w1.heap.size+1:=by rw[hW1];simp
 rw[<- hW1]at j7 ⊢
 rw[<- hW1]at sY sZ
 rw[<- hW1]at td th
 rw[<- hW1]at tj tq
 rw[<- hW1]at o8 o9
 rw[<- hW1]at sI sJ
 obtain⟨g1,jE⟩:∃ g1,w1.heap.size=g1:=⟨_,rfl⟩
 rw[jE]at o8 o9
 rw[jE]at tL vM ⊢
 clear hW1 jE;have pL:=Lib.hid (Nat.lt_of_lt_of_le pL.out j7.out.size);have lI:=Lib.hid (Nat.lt_of_lt_of_le lI.out j7.out.size);have jz:=Lib.hid (Nat.lt_of_lt_of_le jz.out j7.out.size);have ZI:=Lib.hid (show g1<W1.heap.size by rw[tL];omega);clear tL vM;have HB:=Lib.hid (HB.out.trans (j7.out.mono HB.out.size));clear j7;have sU:=sY;have sV:=sZ;have sW:=td;have sX:=th;have oZ:=tj;have o7:=tq;have Yd:=o8;have Ye:=o9;have sF:=sI;have sH:=sJ;clear sY sZ td th tj tq o8 o9 sI sJ;refine bodyPost_ret (by simp[results,Tryz.results122,go_sem,oZ,o7];try rfl) rfl ?_;exact⟨rfl,(HB.out.setCell (by simp;try omega) _).setCell (by simp;try omega) _⟩
theorem apF (a1:Bool) (a2:ByteArray) (b1:Bool) (b2:ByteArray) (r1:Bool) (r2:ByteArray) (x:Int)
  (H:Hid (∀ w,Calls Tryz.prog 113 #[.agg #[.bool a1,.string a2],.agg #[.bool b1,.string b2]] w fun e w'=>e = .returned (.tuple #[.agg #[.bool r1,.string r2],.int .i64 x])/\Below w.heap.size w w')) (w:World) :
  Calls Tryz.prog 122 #[.func (.func 113) #[] #[],.agg #[.bool a1,.string a2],.agg #[.bool b1,.string b2]] w fun e w'=>e = .returned (.agg #[.bool r1,.string r2])/\Below w.heap.size w w':=by
 obtain⟨W0,hW0⟩:∃ W0,W0=((w.alloc (.cells #[.bool a1,.string a2] 38)).alloc (.cells #[.bool b1,.string b2] 38)).alloc (.cells #[.bool false,.string ⟨#[]⟩] 38):=⟨_,rfl⟩
 have yg:Below w.heap.size w W0:=by rw[hW0];exact(((Below.refl _ _).alloc (by simp;try omega) _).alloc (by simp;try omega) _).alloc (by simp;try omega) _
 have sU:W0.cell? ⟨w.heap.size,0,none⟩=some (.bool a1):=by rw[hW0];simp[go_sem]
 have sV:W0.cell? ⟨w.heap.size,1,none⟩=some (.string a2):=by rw[hW0];simp[go_sem]
 have sW:W0.cell? ⟨w.heap.size+1,0,none⟩=some (.bool b1):=by rw[hW0];simp[go_sem]
 have sX:W0.cell? ⟨w.heap.size+1,1,none⟩=some (.string b2):=by rw[hW0];simp[go_sem]
 have oZ:W0.cell? ⟨w.heap.size+2,0,none⟩=some (.bool false):=by rw[hW0];simp[go_sem]
 have o7:W0.cell? ⟨w.heap.size+2,1,none⟩=some (.string ⟨#[]⟩):=by rw[hW0];simp[go_sem]
 have pK:W0.heap.size=w.heap.size+3:=by rw[hW0];simp
 have pL:=Lib.hid (show w.heap.size<W0.heap.size by rw[pK];omega);have lI:=Lib.hid (show w.heap.size+1<W0.heap.size by rw[pK];omega);have jz:=Lib.hid (show w.heap.size+2<W0.heap.size by rw[pK];omega);have n_:=Lib.hid hW0;have HB:=Lib.hid yg;clear yg pK hW0;have sF:W0.frozen? ⟨w.heap.size+2,0,none⟩=false:=by rw[n_.out];simp[go_sem]
 have sH:W0.frozen? ⟨w.heap.size+2,1,none⟩=false:=by rw[n_.out];simp[go_sem]
 go_enter Tryz.func122,Tryz.ntmps122;go_wp2_with fail
 rw[<- n_.out];refine(H.out _).mono ?_;rintro e w1 ⟨rfl,hb1⟩;have ey:Below W0.heap.size W0 (w1.alloc (.cells #[.bool r1,.string r2] 38)):=((hb1).alloc (by have:=hb1.size;simp;try omega) _)
 have sY:=(ey.cell (p:=⟨w.heap.size,0,none⟩) pL.out).trans sU;have sZ:=(ey.cell (p:=⟨w.heap.size,1,none⟩) pL.out).trans sV;have td:=(ey.cell (p:=⟨w.heap.size+1,0,none⟩) lI.out).trans sW;have th:=(ey.cell (p:=⟨w.heap.size+1,1,none⟩) lI.out).trans sX;have tj:=(ey.cell (p:=⟨w.heap.size+2,0,none⟩) jz.out).trans oZ;have tq:=(ey.cell (p:=⟨w.heap.size+2,1,none⟩) jz.out).trans o7;have o8:(w1.alloc (.cells #[.bool r1,.string r2] 38)).cell? ⟨w1.heap.size,0,none⟩=some (.bool r1):=by simp[go_sem]
 have o9:(w1.alloc (.cells #[.bool r1,.string r2] 38)).cell? ⟨w1.heap.size,1,none⟩=some (.string r2):=by simp[go_sem]
 have sI:=(ey.frozen (p:=⟨w.heap.size+2,0,none⟩) jz.out).trans sF;have sJ:=(ey.frozen (p:=⟨w.heap.size+2,1,none⟩) jz.out).trans sH;clear sU sV sW sX oZ o7 sF sH;have j7:=Lib.hid ey;have vM:=Lib.hid hb1.size;clear ey hb1;go_wp2
 obtain⟨W1,hW1⟩:∃ W1,W1=w1.alloc (.cells #[.bool r1,.string r2] 38):=⟨_,rfl⟩
 have tL:W1.heap.size=w1.heap.size+1:=by rw[hW1];simp
 rw[<- hW1]at j7 ⊢
 rw[<- hW1]at sY sZ
 rw[<- hW1]at td th
 rw[<- hW1]at tj tq
 rw[<- hW1]at o8 o9
 rw[<- hW1]at sI sJ
 obtain⟨g1,jE⟩:∃ g1,w1.heap.size=g1:=⟨_,rfl⟩
 rw[jE]at o8 o9
 rw[jE]at tL vM ⊢
 clear hW1 jE;have pL:=Lib.hid (Nat.lt_of_lt_of_le pL.out j7.out.size);have lI:=Lib.hid (Nat.lt_of_lt_of_le lI.out j7.out.size);have jz:=Lib.hid (Nat.lt_of_lt_of_le jz.out j7.out.size);have ZI:=Lib.hid (show g1<W1.heap.size by rw[tL];omega);clear tL vM;have HB:=Lib.hid (HB.out.trans (j7.out.mono HB.out.size));clear j7;have sU:=sY;have sV:=sZ;have sW:=td;have sX:=th;have oZ:=tj;have o7:=tq;have Yd:=o8;have Ye:=o9;have sF:=sI;have sH:=sJ;clear sY sZ td th tj tq o8 o9 sI sJ;refine bodyPost_ret (by simp[results,Tryz.results122,go_sem,oZ,o7];try rfl) rfl ?_;exact⟨rfl,(HB.out.setCell (by simp;try omega) _).setCell (by simp;try omega) _⟩
end Go.Proofs.YtfcjnhkkfmgmpaaGreat
