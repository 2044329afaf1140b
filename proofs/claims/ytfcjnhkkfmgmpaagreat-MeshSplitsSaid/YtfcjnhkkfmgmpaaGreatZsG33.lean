import Derived.Test.YtfcjnhkkfmgmpaaGreatZsG13
set_option linter.all false
set_option maxRecDepth 100000
set_option maxHeartbeats 8000000
namespace Go.Proofs.YtfcjnhkkfmgmpaaGreat
open Go.RowKit aR
def pv (v:Int):Bool × ByteArray:=(decide (v<0),ey (v.natAbs:Int))
def ag (x:Bool × ByteArray):Value := .agg #[.bool x.1,.string x.2]
theorem ag' (v:Int):oU v=ag (pv v):=rfl
theorem alC {v:Int} {k:Nat} (h:v<256^k) (h0:0≤v):nb v≤k:=by
 rcases (show v=0∨0<v by omega) with h1|h1
 ·rw[h1,wH];exact Nat.zero_le _
 ·obtain⟨h2,h3,h4⟩:=Cl h1
  refine Nat.le_of_not_lt fun h5=>?_;have:=rD (show k≤nb v-1 by omega);omega
theorem Cn {v:Int} {k:Nat} (h:(v.natAbs:Int)<256^k):(pv v).2.size≤k:=by
 show(ey _).size≤k;rw[wC];exact alC h (by omega)
theorem uJ (v:Int):ival (pv v).1 (pv v).2=v:=by
 unfold ival pv bl;rw[Rk (by omega)];by_cases h:v<0
 ·rw[if_pos (by simpa using h)];omega
 ·rw[if_neg (by simpa using h)];omega
theorem Am {v:Int} (h:(pv v).2.size≤32000):fZ (pv v).1 (pv v).2:=by
 refine⟨h,P_ _ (by omega),fun hn=>?_⟩;have hn:v<0:=by simpa [pv] using hn
 show 0<(ey _).size;rw[wC];have:=(Cl (v:=(v.natAbs:Int)) (by omega)).2.2;omega
theorem Yz {n:Bool} {s:ByteArray} (h:fZ n s):pv (ival n s)=(n,s):=by
 have h0:=(jw s).1;unfold pv ival;have e:((bl n (nv s)).natAbs:Int)=nv s:=Fq h0;rw[e,Rl h.2.1];cases n with
 | false=>simp[bl];omega
 | true =>
  have h1:=h.2.2 rfl;have h2:nv s≠0:=by
   intro hz;have:=PZ h.2.1;rw[hz,wH]at this
   omega
  simp[bl];omega
def oV (f:Int→Int→Int) (a b:Bool × ByteArray):(Bool × ByteArray) × Int:=if iy a.1 a.2 b.1 b.2=0 then (pv (f (ival a.1 a.2) (ival b.1 b.2)),0) else ((false,⟨#[]⟩),iy a.1 a.2 b.1 b.2)
theorem aha {f:Int→Int→Int} {a b:Bool × ByteArray} (h:iy a.1 a.2 b.1 b.2=0):oV f a b=(pv (f (ival a.1 a.2) (ival b.1 b.2)),0):=if_pos h
theorem Z5 {f:Int→Int→Int} {a b:Bool × ByteArray} {w:World} {e:Ending} {w':World} (h:JZ f a.1 a.2 b.1 b.2 w e w'):e = .returned (.tuple #[ag (oV f a b).1,.int .i64 (oV f a b).2])∧Below w.heap.size w w':=by
 refine⟨?_,h.2.2⟩;unfold oV;split
 ·rename_i h0;exact h.2.1 h0
 ·rename_i h0;exact h.1 h0
theorem gJ {n:Bool} {s:ByteArray} {k:Nat} (h:s.size≤k):((ival n s).natAbs:Int)<256^k:=by
 have h0:=(jw s).1;unfold ival;rw[Fq h0];exact nD h
theorem akO {a b:Int} {k m:Nat} (ha:(a.natAbs:Int)<256^k) (hb:(b.natAbs:Int)<256^k) (hm:k+1≤m):((a+b).natAbs:Int)<256^m:=by
 have h3:=rD hm;rw[Ys]at h3
 generalize (256:Int)^m=u at *;generalize (256:Int)^k=u at *;omega
theorem Z6 {a b:Int} {k m:Nat} (ha:(a.natAbs:Int)<256^k) (hb:(b.natAbs:Int)<256^k) (hm:k+1≤m):((a-b).natAbs:Int)<256^m:=by
 have h3:=rD hm;rw[Ys]at h3
 generalize (256:Int)^m=u at *;generalize (256:Int)^k=u at *;omega
theorem uK {a b:Int} {k l m:Nat} (ha:(a.natAbs:Int)<256^k) (hb:(b.natAbs:Int)<256^l) (hm:k+l≤m):((a*b).natAbs:Int)<256^m:=by
 have h3:=rD hm;rw[Int.pow_add]at h3
 have hp:=Yp k;rw[Int.natAbs_mul,Int.natCast_mul];generalize (256:Int)^m=u at *;generalize (256:Int)^k=y at *;generalize (256:Int)^l=z at *;have h5:(a.natAbs:Int)*(b.natAbs:Int)≤(a.natAbs:Int)*z:=Int.mul_le_mul_of_nonneg_left (by omega) (by omega);have h6:(a.natAbs:Int)*z<y*z:=Int.mul_lt_mul_of_pos_right ha (by omega);omega
def qD (s:ByteArray):Bool:=!decide (0<s.size∧fP s (s.size-1)=0)
theorem YA (s:ByteArray) (w:World):Calls Tryz.prog 85 #[.string s] w fun e w'=>e = .returned (.bool (qD s))∧Below w.heap.size w w':=by
 by_cases h0:s.size=0
 ·obtain⟨t1,t2⟩:=toList_nil h0
  have HZ:=Lib.hid (show qD s=true by unfold qD;rw[decide_eq_false (by omega)];rfl);clear h0;go_enter Tryz.func85,Tryz.ntmps85;go_wp2
  repeat(go_quiet (fail);try go_wp2)
  go_ret
  exact⟨by rw[HZ.out] <;> rfl,by first|exact Below.refl _ _|exact gR (Below.refl _ _) _⟩
 ·obtain⟨t1,t2⟩:=xE (by omega:0<s.size)
  obtain⟨t0,yN⟩:∃ t0,fP s (s.size-1)=t0:=⟨_,rfl⟩
  have hx:∀ h:0<s.size,((s[0]'h).toNat:Int)=t0:=fun h=>by
   rw[← yN];unfold fP;rw[dif_pos (by omega)];congr 3
   omega
  have q1:=eq_true (show(0:Int)<(s.size:Int) by omega);have q2:=eq_true (show 0<s.size by omega);by_cases hz:t0=0
  ·have HZ:=Lib.hid (show qD s=false by unfold qD;rw[decide_eq_true ⟨by omega,by rw[yN];exact hz⟩];rfl)
   subst hz;clear h0 yN;go_enter Tryz.func85,Tryz.ntmps85;go_wp2
   repeat(go_quiet (fail);try go_wp2)
   go_ret
   exact⟨by rw[HZ.out] <;> rfl,by first|exact Below.refl _ _|exact gR (Below.refl _ _) _⟩
  ·have HZ:=Lib.hid (show qD s=true by unfold qD;rw[decide_eq_false (by rw[yN];exact fun h=>hz h.2)];rfl)
   have y1:(t0==0)=false:=beq_eq_false_iff_ne.mpr hz;have y2:(t0 != 0)=true:=bne_iff_ne.mpr hz;clear h0 yN hz;go_enter Tryz.func85,Tryz.ntmps85;go_wp2
   repeat(go_quiet (fail);try go_wp2)
   go_ret
   exact⟨by rw[HZ.out] <;> rfl,by first|exact Below.refl _ _|exact gR (Below.refl _ _) _⟩
theorem ahb (n:Bool) (s:ByteArray) (w:World):Calls Tryz.prog 84 #[.agg #[.bool n,.string s]] w fun e w'=>e = .returned (.int .i64 (gN n s))∧Below w.heap.size w w':=by
 have hb0:Below w.heap.size w (w.alloc (.cells #[.bool n,.string s] 38)):=(Below.refl _ _).alloc (Nat.le_refl _) _;have HB:=Lib.hid hb0;clear hb0;by_cases h1:32000<s.size
 ·have HZ:=Lib.hid (show gN n s=5 by unfold gN;rw[if_pos h1])
  have t1:decide ((32000:Int)<(s.size:Int))=true:=decide_eq_true (by omega);clear h1;go_enter Tryz.func84,Tryz.ntmps84;go_wp2
  go_ret
  exact⟨by rw[HZ.out] <;> rfl,HB.out⟩
 ·have t1:decide ((32000:Int)<(s.size:Int))=false:=decide_eq_false (by omega)
  have HC:=Lib.hid (YA s);by_cases h2:0<s.size∧fP s (s.size-1)=0
  ·have HZ:=Lib.hid (show gN n s=1 by unfold gN;rw[if_neg h1,if_pos h2])
   rw[show qD s=false by unfold qD;rw[decide_eq_true h2];rfl]at HC
   clear h1 h2;go_enter Tryz.func84,Tryz.ntmps84;go_wp2_with fail
   refine(HC.out _).mono ?_;rintro e w2 ⟨rfl,hb⟩;have dD:=Lib.hid (HB.out.trans (hb.mono HB.out.size));clear hb;go_wp2
   repeat(go_quiet (fail);try go_wp2)
   go_ret
   exact⟨by rw[HZ.out] <;> rfl,by first|exact dD.out|exact gR dD.out _⟩
  ·rw[show qD s=true by unfold qD;rw[decide_eq_false h2];rfl]at HC
   cases n with
   | false =>
    have HZ:=Lib.hid (show gN false s=0 by unfold gN;rw[if_neg h1,if_neg h2,if_neg (by simp)]);clear h1 h2;go_enter Tryz.func84,Tryz.ntmps84;go_wp2_with fail
    refine(HC.out _).mono ?_;rintro e w2 ⟨rfl,hb⟩;have c0:=hb.cell (p:=⟨w.heap.size,0,none⟩) (by simp);have c1:=hb.cell (p:=⟨w.heap.size,1,none⟩) (by simp);rw[show(w.alloc (.cells #[.bool false,.string s] 38)).cell? ⟨w.heap.size,0,none⟩=some (.bool false) from by simp[go_sem]]at c0
    rw[show(w.alloc (.cells #[.bool false,.string s] 38)).cell? ⟨w.heap.size,1,none⟩=some (.string s) from by simp[go_sem]]at c1
    have dD:=Lib.hid (HB.out.trans (hb.mono HB.out.size));clear hb;go_wp2
    repeat(go_quiet (fail);try go_wp2)
    go_ret
    exact⟨by rw[HZ.out] <;> rfl,by first|exact dD.out|exact gR dD.out _⟩
   | true =>
    by_cases h3:s.size=0
    ·have HZ:=Lib.hid (show gN true s=1 by unfold gN;rw[if_neg h1,if_neg h2,if_pos ⟨rfl,h3⟩])
     obtain⟨t2,t3⟩:=toList_nil h3;clear h1 h2 h3;go_enter Tryz.func84,Tryz.ntmps84;go_wp2_with fail
     refine(HC.out _).mono ?_;rintro e w2 ⟨rfl,hb⟩;have c0:=hb.cell (p:=⟨w.heap.size,0,none⟩) (by simp);have c1:=hb.cell (p:=⟨w.heap.size,1,none⟩) (by simp);rw[show(w.alloc (.cells #[.bool true,.string s] 38)).cell? ⟨w.heap.size,0,none⟩=some (.bool true) from by simp[go_sem]]at c0
     rw[show(w.alloc (.cells #[.bool true,.string s] 38)).cell? ⟨w.heap.size,1,none⟩=some (.string s) from by simp[go_sem]]at c1
     have dD:=Lib.hid (HB.out.trans (hb.mono HB.out.size));clear hb;go_wp2
     repeat(go_quiet (fail);try go_wp2)
     go_ret
     exact⟨by rw[HZ.out] <;> rfl,by first|exact dD.out|exact gR dD.out _⟩
    ·have HZ:=Lib.hid (show gN true s=0 by unfold gN;rw[if_neg h1,if_neg h2,if_neg (fun h=>h3 h.2)])
     obtain⟨t2,t3⟩:=xE (by omega:0<s.size);clear h1 h2 h3;go_enter Tryz.func84,Tryz.ntmps84;go_wp2_with fail
     refine(HC.out _).mono ?_;rintro e w2 ⟨rfl,hb⟩;have c0:=hb.cell (p:=⟨w.heap.size,0,none⟩) (by simp);have c1:=hb.cell (p:=⟨w.heap.size,1,none⟩) (by simp);rw[show(w.alloc (.cells #[.bool true,.string s] 38)).cell? ⟨w.heap.size,0,none⟩=some (.bool true) from by simp[go_sem]]at c0
     rw[show(w.alloc (.cells #[.bool true,.string s] 38)).cell? ⟨w.heap.size,1,none⟩=some (.string s) from by simp[go_sem]]at c1
     have dD:=Lib.hid (HB.out.trans (hb.mono HB.out.size));clear hb;go_wp2
     repeat(go_quiet (fail);try go_wp2)
     go_ret
     exact⟨by rw[HZ.out] <;> rfl,by first|exact dD.out|exact gR dD.out _⟩
theorem alD (a b:Bool × ByteArray) (h1:a.2.size≤15000) (h2:b.2.size≤15000):Hid (∀ w,Calls Tryz.prog 113 #[.agg #[.bool a.1,.string a.2],.agg #[.bool b.1,.string b.2]] w fun e w'=>e = .returned (.tuple #[.agg #[.bool (oV (·-·) a b).1.1,.string (oV (·-·) a b).1.2],.int .i64 (oV (·-·) a b).2])∧Below w.heap.size w w') :=
 Lib.hid fun w=>(alz a.1 a.2 b.1 b.2 h1 h2 w).mono fun e w' h=>Z5 h
theorem alE (a b:Bool × ByteArray) (h1:a.2.size≤15000) (h2:b.2.size≤15000):Hid (∀ w,Calls Tryz.prog 123 #[.agg #[.bool a.1,.string a.2],.agg #[.bool b.1,.string b.2]] w fun e w'=>e = .returned (.tuple #[.agg #[.bool (oV (·*·) a b).1.1,.string (oV (·*·) a b).1.2],.int .i64 (oV (·*·) a b).2])∧Below w.heap.size w w') :=
 Lib.hid fun w=>(alA a.1 a.2 b.1 b.2 h1 h2 w).mono fun e w' h=>Z5 h
def KU:Bool × ByteArray:=(false,⟨#[]⟩)
def tW (a b:Bool × ByteArray):(Bool × ByteArray) × (Bool × ByteArray) × Int :=
 if iy a.1 a.2 b.1 b.2≠0 then (KU,KU,iy a.1 a.2 b.1 b.2) else if nv b.2=0 then (KU,KU,3) else (pv (ival a.1 a.2 / ival b.1 b.2),pv (ival a.1 a.2%ival b.1 b.2),0)
theorem akP (a b:Bool × ByteArray) (h1:a.2.size≤15000) (h2:b.2.size≤15000) (w:World):Calls Tryz.prog 137 #[.agg #[.bool a.1,.string a.2],.agg #[.bool b.1,.string b.2]] w fun e w'=>e = .returned (.tuple #[.agg #[.bool (tW a b).1.1,.string (tW a b).1.2],.agg #[.bool (tW a b).2.1.1,.string (tW a b).2.1.2],.int .i64 (tW a b).2.2])∧Below w.heap.size w w' :=
 (akK a.1 a.2 b.1 b.2 h1 h2 w).mono fun e w' h=>by
  refine⟨?_,h.2.2.2⟩
  unfold tW
  split
  ·rename_i h0;exact h.1 h0
  ·rename_i h0
   split
   ·rename_i hz;exact h.2.1 (Decidable.not_not.mp h0) hz
   ·rename_i hz;exact h.2.2.1 (Decidable.not_not.mp h0) hz
def AJ (a b:Bool × ByteArray):(Bool × ByteArray) × Int :=
 if iy a.1 a.2 b.1 b.2≠0 then (KU,iy a.1 a.2 b.1 b.2) else (pv (Int.gcd (ival a.1 a.2) (ival b.1 b.2):Nat),0)
theorem LQ (n:Bool) (s:ByteArray):(ival n s).natAbs=(nv s).toNat:=by
 have h0:=(jw s).1;unfold ival bl;split <;> omega
theorem akQ (a b:Bool × ByteArray) (h1:a.2.size≤15000) (h2:b.2.size≤15000) (w:World):Calls Tryz.prog 109 #[.agg #[.bool a.1,.string a.2],.agg #[.bool b.1,.string b.2]] w fun e w'=>e = .returned (.tuple #[.agg #[.bool (AJ a b).1.1,.string (AJ a b).1.2],.int .i64 (AJ a b).2])∧Below w.heap.size w w' :=
 (akL a.1 a.2 b.1 b.2 h1 h2 w).mono fun e w' h=>by
  refine⟨?_,h.2.2⟩
  unfold AJ
  split
  ·rename_i h0;exact h.1 h0
  ·rename_i h0
   rw[h.2.1 (Decidable.not_not.mp h0)]
   have e1:(pv ((Int.gcd (ival a.1 a.2) (ival b.1 b.2):Nat):Int))=(false,ey ((Nat.gcd (nv a.2).toNat (nv b.2).toNat:Nat):Int)):=by
    unfold pv Int.gcd;rw[LQ,LQ,Int.natAbs_natCast];exact congrArg (fun z=>(z,_)) (decide_eq_false (by omega))
   rw[e1]
abbrev RG:=Bool × ByteArray × ByteArray
def mF (a:RG):Int:=ival a.1 a.2.1
def gH (a:RG):Int:=nv a.2.2
def rq (a:RG):Rat:=Rat.divInt (mF a) (gH a)
def pq (q:Rat):RG:=((pv q.num).1,(pv q.num).2,(pv (q.den:Int)).2)
def nor:RG:=(false,⟨#[]⟩,⟨#[]⟩)
def pM (a:RG):Int :=
 if 8000<a.2.1.size∨8000<a.2.2.size then 5
 else if gN a.1 a.2.1≠0∨gN false a.2.2≠0∨a.2.2.size=0∨Int.gcd (mF a) (gH a)≠1 then 1 else 0
structure jc (a:RG):Prop where
 sn:a.2.1.size≤8000
 sd:a.2.2.size≤8000
 kn:fZ a.1 a.2.1
 kd:fZ false a.2.2
 nz:a.2.2.size≠0
 co:Int.gcd (mF a) (gH a)=1
theorem zZ {a:RG}:pM a=0↔jc a:=by
 unfold pM;constructor
 ·intro h
  split at h
  ·exact absurd h (by decide)
  ·rename_i h1
   split at h
   ·exact absurd h (by decide)
   ·rename_i h2
    have h3:gN a.1 a.2.1=0:=Decidable.byContradiction fun hc=>h2 (.inl hc);have h4:gN false a.2.2=0:=Decidable.byContradiction fun hc=>h2 (.inr (.inl hc));have h5:a.2.2.size≠0:=fun hc=>h2 (.inr (.inr (.inl hc)));have h6:Int.gcd (mF a) (gH a)=1:=Decidable.byContradiction fun hc=>h2 (.inr (.inr (.inr hc)));exact⟨by omega,by omega,qw.1 h3,qw.1 h4,h5,h6⟩
 ·intro h
  rw[if_neg (by have:=h.sn;have:=h.sd;omega),if_neg (fun hc=>by
   rcases hc with hc|hc|hc|hc
   ·exact hc (qw.2 h.kn)
   ·exact hc (qw.2 h.kd)
   ·exact h.nz hc
   ·exact hc h.co)]
theorem MZ {s:ByteArray} (h:s.size=0):s=⟨#[]⟩:=by
 cases s with
 | mk d=>exact congrArg ByteArray.mk (Array.eq_empty_of_size_eq_zero h)
theorem Rn {v:Int} (h:0≤v):(pv v).1=false:=by
 show decide (v<0)=false;exact decide_eq_false (by omega)
theorem aa0 {v:Int} (h:0≤v):pv v=(false,(pv v).2):=by rw[← Rn h]
theorem YC {v:Int} (h:0≤v):ival false (pv v).2=v:=by have e:=uJ v;rw[aa0 h]at e;exact e
theorem S8 {v:Int} (h:0≤v):nv (pv v).2=v:=YC h
theorem Z7 {v:Int} (h0:0≤v) (h:(pv v).2.size≤32000):fZ false (pv v).2:=by
 have e:=Am h;rw[Rn h0]at e
 exact e
theorem M0 {s:ByteArray} {l:List UInt8}:s.toList=l↔s=⟨l.toArray⟩:=by
 rw[ByteArray.toList_eq];constructor
 ·rintro rfl
  rfl
 ·rintro rfl
  rfl
theorem Ao {s:ByteArray}:s.toList=([]:List UInt8)↔s.size=0:=by
 rw[M0];exact⟨fun h=>by rw[h];rfl,MZ⟩
theorem ac3:pv 1=(false,⟨#[1]⟩):=by decide +kernel
theorem Uq:nv (⟨#[1]⟩:ByteArray)=1:=by decide +kernel
theorem wI {n:Nat}:(pv (n:Int)).2.toList=([1]:List UInt8)↔n=1:=by
 rw[M0];constructor
 ·intro h
  have e:=S8 (v:=(n:Int)) (by omega);rw[h]at e
  have:nv (⟨[1].toArray⟩:ByteArray)=1:=Uq;omega
 ·rintro rfl
  exact congrArg Prod.snd ac3
theorem Ro {n:Bool} {s:ByteArray} (h:fZ n s):fZ (!n&&decide (0<s.size)) s :=
 ⟨h.1,h.2.1,fun hc=>by simp at hc;exact hc.2⟩
theorem Rp {n:Bool} {s:ByteArray} (h:fZ n s):ival (!n&&decide (0<s.size)) s =-ival n s:=by
 unfold ival bl;by_cases hs:0<s.size
 ·cases n <;> simp[hs]
 ·have e:s=⟨#[]⟩:=MZ (by omega)
  have:nv s=0:=by rw[e];rfl
  have hn:n≠true:=fun hc=>hs (h.2.2 hc);cases n
  ·simp[hs,this]
  ·exact absurd rfl hn
theorem jc.dp {a:RG} (h:jc a):0<gH a:=Sy h.kd.2.1 (Nat.pos_of_ne_zero h.nz)
theorem jc.q {a:RG} (h:jc a):(rq a).num=mF a∧((rq a).den:Int)=gH a:=by
 have hd:=h.dp;unfold rq;obtain⟨n,hn⟩:∃ n,mF a=n:=⟨_,rfl⟩
 obtain⟨d,hd2⟩:∃ d:Nat,gH a=(d:Int):=⟨(gH a).toNat,by omega⟩
 have hc:=h.co;rw[hn,hd2]at hc ⊢
 rw[hd2]at hd
 rw[← Rat.mk_eq_divInt (num:=n) (den:=d) (nz:=by omega) (c:=by
  have:n.natAbs.gcd d=1:=by rw[← hc];unfold Int.gcd;rw[Int.natAbs_natCast]
  exact this)]
 exact⟨rfl,rfl⟩
theorem YD (q:Rat):mF (pq q)=q.num:=uJ _
theorem Rq (q:Rat):gH (pq q)=(q.den:Int):=S8 (by omega)
theorem Av (q:Rat):rq (pq q)=q:=by
 unfold rq;rw[YD,Rq];exact Rat.num_divInt_den q
theorem Z8 {q:Rat} (h1:(pq q).2.1.size≤8000) (h2:(pq q).2.2.size≤8000):jc (pq q):=by
 refine⟨h1,h2,Am (by have:(pv q.num).2.size≤8000:=h1;omega),Z7 (by omega) (by have:(pv (q.den:Int)).2.size≤8000:=h2;omega),fun h=>?_,?_⟩
 ·have e:=Rq q
  have h3:nv (pq q).2.2=0:=by rw[MZ h];rfl
  have h4:gH (pq q)=0:=h3;have:=q.den_pos;omega
 ·rw[YD,Rq]
  have:=q.reduced;unfold Int.gcd;rw[Int.natAbs_natCast];exact this
theorem Mr {n d:Int} (hd:0<d):(Rat.divInt n d).num=n / (Int.gcd n d:Nat):=by
 rw[Rat.num_divInt,Int.sign_eq_one_of_pos hd,Int.one_mul,Int.gcd_comm]
theorem Ms {n d:Int} (hd:0<d):((Rat.divInt n d).den:Int)=d / (Int.gcd n d:Nat):=by
 rw[Rat.den_divInt,if_neg (by omega),Int.gcd_comm,Int.natCast_ediv];congr 1
 omega
theorem YE {n d:Int} (hd:0<d):0<Int.gcd n d:=Nat.pos_of_ne_zero fun h=>by have:=(Int.gcd_eq_zero_iff.1 h).2;omega
theorem aeU (n:Int) {d:Int} (hd:0<d):((Rat.divInt n d).num.natAbs:Int)≤(n.natAbs:Int):=by
 rw[Mr hd];have:=Int.natAbs_ediv_le_natAbs n (Int.gcd n d:Nat);omega
theorem aeV (n:Int) {d:Int} (hd:0<d):((Rat.divInt n d).den:Int)≤d:=by
 rw[Ms hd];exact Int.ediv_le_self _ (by omega)
theorem X7 {n d:Int} {k m:Nat} (hd:0<d) (h1:(n.natAbs:Int)<256^k) (h2:d<256^m):(pq (Rat.divInt n d)).2.1.size≤k∧(pq (Rat.divInt n d)).2.2.size≤m :=
 ⟨Cn (Int.lt_of_le_of_lt (aeU n hd) h1),Cn (by have:=aeV n hd;omega)⟩
theorem aa1 {a b:RG} (ha:jc a) (hb:jc b):Rat.divInt (mF a*gH b+mF b*gH a) (gH a*gH b)=rq a+rq b :=
 (Rat.divInt_add_divInt _ _ (by have:=ha.dp;omega) (by have:=hb.dp;omega)).symm
theorem aa2 {a b:RG} (ha:jc a) (hb:jc b):Rat.divInt (mF a*gH b-mF b*gH a) (gH a*gH b)=rq a-rq b :=
 (Rat.divInt_sub_divInt _ _ (by have:=ha.dp;omega) (by have:=hb.dp;omega)).symm
theorem Nx {a b:RG}:Rat.divInt (mF a*mF b) (gH a*gH b)=rq a*rq b:=(Rat.divInt_mul_divInt _ _).symm
def Dx (p q:Rat):Int:=if p<q then -1 else if q<p then 1 else 0
theorem ak8 (a1:Bool) (a2:ByteArray) (b1:Bool) (b2:ByteArray) (r1:Bool) (r2:ByteArray) (x:Int)
  (H:Hid (∀ w,Calls Tryz.prog 123 #[.agg #[.bool a1,.string a2],.agg #[.bool b1,.string b2]] w fun e w'=>e = .returned (.tuple #[.agg #[.bool r1,.string r2],.int .i64 x])∧Below w.heap.size w w')) (w:World) :
  Calls Tryz.prog 122 #[.func (.func 123) #[] #[],.agg #[.bool a1,.string a2],.agg #[.bool b1,.string b2]] w fun e w'=>e = .returned (.agg #[.bool r1,.string r2])∧Below w.heap.size w w':=by
 obtain⟨W0,hW0⟩:∃ W0,W0=((w.alloc (.cells #[.bool a1,.string a2] 38)).alloc (.cells #[.bool b1,.string b2] 38)).alloc (.cells #[.bool false,.string ⟨#[]⟩] 38):=⟨_,rfl⟩
 have BN:Below w.heap.size w W0:=by rw[hW0];exact(((Below.refl _ _).alloc (by simp;try omega) _).alloc (by simp;try omega) _).alloc (by simp;try omega) _
 have vB:W0.cell? ⟨w.heap.size,0,none⟩=some (.bool a1):=by rw[hW0];simp[go_sem]
 have vC:W0.cell? ⟨w.heap.size,1,none⟩=some (.string a2):=by rw[hW0];simp[go_sem]
 have vD:W0.cell? ⟨w.heap.size+1,0,none⟩=some (.bool b1):=by rw[hW0];simp[go_sem]
 have vE:W0.cell? ⟨w.heap.size+1,1,none⟩=some (.string b2):=by rw[hW0];simp[go_sem]
 have rN:W0.cell? ⟨w.heap.size+2,0,none⟩=some (.bool false):=by rw[hW0];simp[go_sem]
 have rO:W0.cell? ⟨w.heap.size+2,1,none⟩=some (.string ⟨#[]⟩):=by rw[hW0];simp[go_sem]
 have rZ:W0.heap.size=w.heap.size+3:=by rw[hW0];simp
 have r9:=Lib.hid (show w.heap.size<W0.heap.size by rw[rZ];omega);have ng:=Lib.hid (show w.heap.size+1<W0.heap.size by rw[rZ];omega);have kR:=Lib.hid (show w.heap.size+2<W0.heap.size by rw[rZ];omega);have qM:=Lib.hid hW0;have HB:=Lib.hid BN;clear BN rZ hW0;have uW:W0.frozen? ⟨w.heap.size+2,0,none⟩=false:=by rw[qM.out];simp[go_sem]
 have uX:W0.frozen? ⟨w.heap.size+2,1,none⟩=false:=by rw[qM.out];simp[go_sem]
 go_enter Tryz.func122,Tryz.ntmps122;go_wp2_with fail
 rw[← qM.out];refine(H.out _).mono ?_;rintro e w1 ⟨rfl,hb1⟩;have gu:Below W0.heap.size W0 (w1.alloc (.cells #[.bool r1,.string r2] 38)):=((hb1).alloc (by have:=hb1.size;simp;try omega) _)
 have vF:=(gu.cell (p:=⟨w.heap.size,0,none⟩) r9.out).trans vB;have vG:=(gu.cell (p:=⟨w.heap.size,1,none⟩) r9.out).trans vC;have vH:=(gu.cell (p:=⟨w.heap.size+1,0,none⟩) ng.out).trans vD;have vI:=(gu.cell (p:=⟨w.heap.size+1,1,none⟩) ng.out).trans vE;have vJ:=(gu.cell (p:=⟨w.heap.size+2,0,none⟩) kR.out).trans rN;have vK:=(gu.cell (p:=⟨w.heap.size+2,1,none⟩) kR.out).trans rO;have rP:(w1.alloc (.cells #[.bool r1,.string r2] 38)).cell? ⟨w1.heap.size,0,none⟩=some (.bool r1):=by simp[go_sem]
 have rQ:(w1.alloc (.cells #[.bool r1,.string r2] 38)).cell? ⟨w1.heap.size,1,none⟩=some (.string r2):=by simp[go_sem]
 have uY:=(gu.frozen (p:=⟨w.heap.size+2,0,none⟩) kR.out).trans uW;have uZ:=(gu.frozen (p:=⟨w.heap.size+2,1,none⟩) kR.out).trans uX;clear vB vC vD vE rN rO uW uX;have l6:=Lib.hid gu;have xw:=Lib.hid hb1.size;clear gu hb1;go_wp2
 obtain⟨W1,hW1⟩:∃ W1,W1=w1.alloc (.cells #[.bool r1,.string r2] 38):=⟨_,rfl⟩
 have wg:W1.heap.size=w1.heap.size+1:=by rw[hW1];simp
 rw[← hW1]at l6 ⊢
 rw[← hW1]at vF vG
 rw[← hW1]at vH vI
 rw[← hW1]at vJ vK
 rw[← hW1]at rP rQ
 rw[← hW1]at uY uZ
 obtain⟨g1,j5⟩:∃ g1,w1.heap.size=g1:=⟨_,rfl⟩
 rw[j5]at rP rQ
 rw[j5]at wg xw ⊢
 clear hW1 j5;have r9:=Lib.hid (Nat.lt_of_lt_of_le r9.out l6.out.size);have ng:=Lib.hid (Nat.lt_of_lt_of_le ng.out l6.out.size);have kR:=Lib.hid (Nat.lt_of_lt_of_le kR.out l6.out.size);have HL3:=Lib.hid (show g1<W1.heap.size by rw[wg];omega);clear wg xw;have HB:=Lib.hid (HB.out.trans (l6.out.mono HB.out.size));clear l6;have vB:=vF;have vC:=vG;have vD:=vH;have vE:=vI;have rN:=vJ;have rO:=vK;have adj:=rP;have adk:=rQ;have uW:=uY;have uX:=uZ;clear vF vG vH vI vJ vK rP rQ uY uZ;refine bodyPost_ret (by simp[results,Tryz.results122,go_sem,rN,rO];try rfl) rfl ?_;exact⟨rfl,(HB.out.setCell (by simp;try omega) _).setCell (by simp;try omega) _⟩
theorem ak9 (a1:Bool) (a2:ByteArray) (b1:Bool) (b2:ByteArray) (r1:Bool) (r2:ByteArray) (x:Int)
  (H:Hid (∀ w,Calls Tryz.prog 109 #[.agg #[.bool a1,.string a2],.agg #[.bool b1,.string b2]] w fun e w'=>e = .returned (.tuple #[.agg #[.bool r1,.string r2],.int .i64 x])∧Below w.heap.size w w')) (w:World) :
  Calls Tryz.prog 122 #[.func (.func 109) #[] #[],.agg #[.bool a1,.string a2],.agg #[.bool b1,.string b2]] w fun e w'=>e = .returned (.agg #[.bool r1,.string r2])∧Below w.heap.size w w':=by
 obtain⟨W0,hW0⟩:∃ W0,W0=((w.alloc (.cells #[.bool a1,.string a2] 38)).alloc (.cells #[.bool b1,.string b2] 38)).alloc (.cells #[.bool false,.string ⟨#[]⟩] 38):=⟨_,rfl⟩
 have BN:Below w.heap.size w W0:=by rw[hW0];exact(((Below.refl _ _).alloc (by simp;try omega) _).alloc (by simp;try omega) _).alloc (by simp;try omega) _
 have vB:W0.cell? ⟨w.heap.size,0,none⟩=some (.bool a1):=by rw[hW0];simp[go_sem]
 have vC:W0.cell? ⟨w.heap.size,1,none⟩=some (.string a2):=by rw[hW0];simp[go_sem]
 have vD:W0.cell? ⟨w.heap.size+1,0,none⟩=some (.bool b1):=by rw[hW0];simp[go_sem]
 have vE:W0.cell? ⟨w.heap.size+1,1,none⟩=some (.string b2):=by rw[hW0];simp[go_sem]
 have rN:W0.cell? ⟨w.heap.size+2,0,none⟩=some (.bool false):=by rw[hW0];simp[go_sem]
 have rO:W0.cell? ⟨w.heap.size+2,1,none⟩=some (.string ⟨#[]⟩):=by rw[hW0];simp[go_sem]
 have rZ:W0.heap.size=w.heap.size+3:=by rw[hW0];simp
 have r9:=Lib.hid (show w.heap.size<W0.heap.size by rw[rZ];omega);have ng:=Lib.hid (show w.heap.size+1<W0.heap.size by rw[rZ];omega);have kR:=Lib.hid (show w.heap.size+2<W0.heap.size by rw[rZ];omega);have qM:=Lib.hid hW0;have HB:=Lib.hid BN;clear BN rZ hW0;have uW:W0.frozen? ⟨w.heap.size+2,0,none⟩=false:=by rw[qM.out];simp[go_sem]
 have uX:W0.frozen? ⟨w.heap.size+2,1,none⟩=false:=by rw[qM.out];simp[go_sem]
 go_enter Tryz.func122,Tryz.ntmps122;go_wp2_with fail
 rw[← qM.out];refine(H.out _).mono ?_;rintro e w1 ⟨rfl,hb1⟩;have gu:Below W0.heap.size W0 (w1.alloc (.cells #[.bool r1,.string r2] 38)):=((hb1).alloc (by have:=hb1.size;simp;try omega) _)
 have vF:=(gu.cell (p:=⟨w.heap.size,0,none⟩) r9.out).trans vB;have vG:=(gu.cell (p:=⟨w.heap.size,1,none⟩) r9.out).trans vC;have vH:=(gu.cell (p:=⟨w.heap.size+1,0,none⟩) ng.out).trans vD;have vI:=(gu.cell (p:=⟨w.heap.size+1,1,none⟩) ng.out).trans vE;have vJ:=(gu.cell (p:=⟨w.heap.size+2,0,none⟩) kR.out).trans rN;have vK:=(gu.cell (p:=⟨w.heap.size+2,1,none⟩) kR.out).trans rO;have rP:(w1.alloc (.cells #[.bool r1,.string r2] 38)).cell? ⟨w1.heap.size,0,none⟩=some (.bool r1):=by simp[go_sem]
 have rQ:(w1.alloc (.cells #[.bool r1,.string r2] 38)).cell? ⟨w1.heap.size,1,none⟩=some (.string r2):=by simp[go_sem]
 have uY:=(gu.frozen (p:=⟨w.heap.size+2,0,none⟩) kR.out).trans uW;have uZ:=(gu.frozen (p:=⟨w.heap.size+2,1,none⟩) kR.out).trans uX;clear vB vC vD vE rN rO uW uX;have l6:=Lib.hid gu;have xw:=Lib.hid hb1.size;clear gu hb1;go_wp2
 obtain⟨W1,hW1⟩:∃ W1,W1=w1.alloc (.cells #[.bool r1,.string r2] 38):=⟨_,rfl⟩
 have wg:W1.heap.size=w1.heap.size+1:=by rw[hW1];simp
 rw[← hW1]at l6 ⊢
 rw[← hW1]at vF vG
 rw[← hW1]at vH vI
 rw[← hW1]at vJ vK
 rw[← hW1]at rP rQ
 rw[← hW1]at uY uZ
 obtain⟨g1,j5⟩:∃ g1,w1.heap.size=g1:=⟨_,rfl⟩
 rw[j5]at rP rQ
 rw[j5]at wg xw ⊢
 clear hW1 j5;have r9:=Lib.hid (Nat.lt_of_lt_of_le r9.out l6.out.size);have ng:=Lib.hid (Nat.lt_of_lt_of_le ng.out l6.out.size);have kR:=Lib.hid (Nat.lt_of_lt_of_le kR.out l6.out.size);have HL3:=Lib.hid (show g1<W1.heap.size by rw[wg];omega);clear wg xw;have HB:=Lib.hid (HB.out.trans (l6.out.mono HB.out.size));clear l6;have vB:=vF;have vC:=vG;have vD:=vH;have vE:=vI;have rN:=vJ;have rO:=vK;have adj:=rP;have adk:=rQ;have uW:=uY;have uX:=uZ;clear vF vG vH vI vJ vK rP rQ uY uZ;refine bodyPost_ret (by simp[results,Tryz.results122,go_sem,rN,rO];try rfl) rfl ?_;exact⟨rfl,(HB.out.setCell (by simp;try omega) _).setCell (by simp;try omega) _⟩
theorem ak_ (a1:Bool) (a2:ByteArray) (b1:Bool) (b2:ByteArray) (r1:Bool) (r2:ByteArray) (x:Int)
  (H:Hid (∀ w,Calls Tryz.prog 113 #[.agg #[.bool a1,.string a2],.agg #[.bool b1,.string b2]] w fun e w'=>e = .returned (.tuple #[.agg #[.bool r1,.string r2],.int .i64 x])∧Below w.heap.size w w')) (w:World) :
  Calls Tryz.prog 122 #[.func (.func 113) #[] #[],.agg #[.bool a1,.string a2],.agg #[.bool b1,.string b2]] w fun e w'=>e = .returned (.agg #[.bool r1,.string r2])∧Below w.heap.size w w':=by
 obtain⟨W0,hW0⟩:∃ W0,W0=((w.alloc (.cells #[.bool a1,.string a2] 38)).alloc (.cells #[.bool b1,.string b2] 38)).alloc (.cells #[.bool false,.string ⟨#[]⟩] 38):=⟨_,rfl⟩
 have BN:Below w.heap.size w W0:=by rw[hW0];exact(((Below.refl _ _).alloc (by simp;try omega) _).alloc (by simp;try omega) _).alloc (by simp;try omega) _
 have vB:W0.cell? ⟨w.heap.size,0,none⟩=some (.bool a1):=by rw[hW0];simp[go_sem]
 have vC:W0.cell? ⟨w.heap.size,1,none⟩=some (.string a2):=by rw[hW0];simp[go_sem]
 have vD:W0.cell? ⟨w.heap.size+1,0,none⟩=some (.bool b1):=by rw[hW0];simp[go_sem]
 have vE:W0.cell? ⟨w.heap.size+1,1,none⟩=some (.string b2):=by rw[hW0];simp[go_sem]
 have rN:W0.cell? ⟨w.heap.size+2,0,none⟩=some (.bool false):=by rw[hW0];simp[go_sem]
 have rO:W0.cell? ⟨w.heap.size+2,1,none⟩=some (.string ⟨#[]⟩):=by rw[hW0];simp[go_sem]
 have rZ:W0.heap.size=w.heap.size+3:=by rw[hW0];simp
 have r9:=Lib.hid (show w.heap.size<W0.heap.size by rw[rZ];omega);have ng:=Lib.hid (show w.heap.size+1<W0.heap.size by rw[rZ];omega);have kR:=Lib.hid (show w.heap.size+2<W0.heap.size by rw[rZ];omega);have qM:=Lib.hid hW0;have HB:=Lib.hid BN;clear BN rZ hW0;have uW:W0.frozen? ⟨w.heap.size+2,0,none⟩=false:=by rw[qM.out];simp[go_sem]
 have uX:W0.frozen? ⟨w.heap.size+2,1,none⟩=false:=by rw[qM.out];simp[go_sem]
 go_enter Tryz.func122,Tryz.ntmps122;go_wp2_with fail
 rw[← qM.out];refine(H.out _).mono ?_;rintro e w1 ⟨rfl,hb1⟩;have gu:Below W0.heap.size W0 (w1.alloc (.cells #[.bool r1,.string r2] 38)):=((hb1).alloc (by have:=hb1.size;simp;try omega) _)
 have vF:=(gu.cell (p:=⟨w.heap.size,0,none⟩) r9.out).trans vB;have vG:=(gu.cell (p:=⟨w.heap.size,1,none⟩) r9.out).trans vC;have vH:=(gu.cell (p:=⟨w.heap.size+1,0,none⟩) ng.out).trans vD;have vI:=(gu.cell (p:=⟨w.heap.size+1,1,none⟩) ng.out).trans vE;have vJ:=(gu.cell (p:=⟨w.heap.size+2,0,none⟩) kR.out).trans rN;have vK:=(gu.cell (p:=⟨w.heap.size+2,1,none⟩) kR.out).trans rO;have rP:(w1.alloc (.cells #[.bool r1,.string r2] 38)).cell? ⟨w1.heap.size,0,none⟩=some (.bool r1):=by simp[go_sem]
 have rQ:(w1.alloc (.cells #[.bool r1,.string r2] 38)).cell? ⟨w1.heap.size,1,none⟩=some (.string r2):=by simp[go_sem]
 have uY:=(gu.frozen (p:=⟨w.heap.size+2,0,none⟩) kR.out).trans uW;have uZ:=(gu.frozen (p:=⟨w.heap.size+2,1,none⟩) kR.out).trans uX;clear vB vC vD vE rN rO uW uX;have l6:=Lib.hid gu;have xw:=Lib.hid hb1.size;clear gu hb1;go_wp2
 obtain⟨W1,hW1⟩:∃ W1,W1=w1.alloc (.cells #[.bool r1,.string r2] 38):=⟨_,rfl⟩
 have wg:W1.heap.size=w1.heap.size+1:=by rw[hW1];simp
 rw[← hW1]at l6 ⊢
 rw[← hW1]at vF vG
 rw[← hW1]at vH vI
 rw[← hW1]at vJ vK
 rw[← hW1]at rP rQ
 rw[← hW1]at uY uZ
 obtain⟨g1,j5⟩:∃ g1,w1.heap.size=g1:=⟨_,rfl⟩
 rw[j5]at rP rQ
 rw[j5]at wg xw ⊢
 clear hW1 j5;have r9:=Lib.hid (Nat.lt_of_lt_of_le r9.out l6.out.size);have ng:=Lib.hid (Nat.lt_of_lt_of_le ng.out l6.out.size);have kR:=Lib.hid (Nat.lt_of_lt_of_le kR.out l6.out.size);have HL3:=Lib.hid (show g1<W1.heap.size by rw[wg];omega);clear wg xw;have HB:=Lib.hid (HB.out.trans (l6.out.mono HB.out.size));clear l6;have vB:=vF;have vC:=vG;have vD:=vH;have vE:=vI;have rN:=vJ;have rO:=vK;have adj:=rP;have adk:=rQ;have uW:=uY;have uX:=uZ;clear vF vG vH vI vJ vK rP rQ uY uZ;refine bodyPost_ret (by simp[results,Tryz.results122,go_sem,rN,rO];try rfl) rfl ?_;exact⟨rfl,(HB.out.setCell (by simp;try omega) _).setCell (by simp;try omega) _⟩
structure BW (w0:World) where
 w:World
 h:Below w0.heap.size w0 w
instance (w0:World):Inhabited (BW w0):=⟨⟨w0,Below.refl _ _⟩⟩
theorem Ma {P:Program} {id:Nat} {Q:Exit→Act→World→Prop} {a:Act} (w:World) {l:List Oper} (hm:P.follows .mixedOrders=true) (hB:Region.lexB .any l.toArray=true)
  (h:wpQuiet P l.toArray (fun w'=>∃ p:BW w,w'=p.w) (fun a'=>∀ w',(∃ p:BW w,w'=p.w)→Q .normal a' w') l a):(Code.region id l.toArray true).wp P Q a w :=
 wp_region_quiet (C:=fun w'=>∃ p:BW w,w'=p.w) hm hB ⟨⟨_,(Below.refl w.heap.size w).drew⟩,rfl⟩ (by simpa using h)
theorem cO {w:World} {a:Addr} {v:Value} (h:w.cell? a=some v) (p:BW w):p.w.cell? a=some v:=(p.h.cell (World.block_lt_of_cell? _ _ h)).trans h
theorem ZP {w:World} {P:Program} {f:FuncId} {args:Array Value} {v:Value} (h:∀ W,Below w.heap.size w W→Calls P f args W fun e w'=>e = .returned v∧Below W.heap.size W w') (p:BW w) :
  Calls P f args p.w fun e w''=>e = .returned v∧∃ q:BW w,w''=q.w :=
 (h p.w p.h).mono fun _ w' ⟨he,hb⟩=>⟨he,⟨w',p.h.trans (hb.mono p.h.size)⟩,rfl⟩
end Go.Proofs.YtfcjnhkkfmgmpaaGreat
