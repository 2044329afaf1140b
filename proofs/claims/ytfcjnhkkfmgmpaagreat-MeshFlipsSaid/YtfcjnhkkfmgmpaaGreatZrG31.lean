import Derived.Test.YtfcjnhkkfmgmpaaGreatZrG13
set_option linter.all false
set_option maxRecDepth 100000
set_option maxHeartbeats 8000000
namespace Go.Proofs.YtfcjnhkkfmgmpaaGreat
open Go.RowKit Num
def pv (v:Int):Bool × ByteArray:=(decide (v<0),encN (v.natAbs:Int))
def ag (x:Bool × ByteArray):Value := .agg #[.bool x.1,.string x.2]
theorem putV_pv (v:Int):putV v=ag (pv v):=rfl
theorem nb_le {v:Int} {k:Nat} (h:v<256^k) (h0:0≤v):nb v≤k:=by
 rcases (show v=0∨0<v by omega) with h1|h1
 ·rw[h1,nb_zero];exact Nat.zero_le _
 ·obtain⟨h2,h3,h4⟩:=nb_spec h1
  refine Nat.le_of_not_lt fun h5=>?_;have:=Ymono (show k≤nb v-1 by omega);omega
theorem size_pv {v:Int} {k:Nat} (h:(v.natAbs:Int)<256^k):(pv v).2.size≤k:=by
 show(encN _).size≤k;rw[encN_size];exact nb_le h (by omega)
theorem ival_pv (v:Int):ival (pv v).1 (pv v).2=v:=by
 unfold ival pv sgn;rw[nv_encN (by omega)];by_cases h:v<0
 ·rw[if_pos (by simpa using h)];omega
 ·rw[if_neg (by simpa using h)];omega
theorem okI_pv {v:Int} (h:(pv v).2.size≤32000):okI (pv v).1 (pv v).2:=by
 refine⟨h,canon_encN _ (by omega),fun hn=>?_⟩;have hn:v<0:=by simpa [pv] using hn
 show 0<(encN _).size;rw[encN_size];have:=(nb_spec (v:=(v.natAbs:Int)) (by omega)).2.2;omega
theorem pv_ival {n:Bool} {s:ByteArray} (h:okI n s):pv (ival n s)=(n,s):=by
 have h0:=(nv_bd s).1;unfold pv ival;have e:((sgn n (nv s)).natAbs:Int)=nv s:=sgn_abs h0;rw[e,encN_nv h.2.1];cases n with
 | false=>simp[sgn];omega
 | true =>
  have h1:=h.2.2 rfl;have h2:nv s≠0:=by
   intro hz;have:=size_of_canon h.2.1;rw[hz,nb_zero]at this
   omega
  simp[sgn];omega
def binF (f:Int→Int→Int) (a b:Bool × ByteArray):(Bool × ByteArray) × Int:=if bad2 a.1 a.2 b.1 b.2=0 then (pv (f (ival a.1 a.2) (ival b.1 b.2)),0) else ((false,⟨#[]⟩),bad2 a.1 a.2 b.1 b.2)
theorem binF_ok {f:Int→Int→Int} {a b:Bool × ByteArray} (h:bad2 a.1 a.2 b.1 b.2=0):binF f a b=(pv (f (ival a.1 a.2) (ival b.1 b.2)),0):=if_pos h
theorem bin_of {f:Int→Int→Int} {a b:Bool × ByteArray} {w:World} {e:Ending} {w':World} (h:BinP f a.1 a.2 b.1 b.2 w e w'):e = .returned (.tuple #[ag (binF f a b).1,.int .i64 (binF f a b).2])∧Below w.heap.size w w':=by
 refine⟨?_,h.2.2⟩;unfold binF;split
 ·rename_i h0;exact h.2.1 h0
 ·rename_i h0;exact h.1 h0
theorem ival_bd {n:Bool} {s:ByteArray} {k:Nat} (h:s.size≤k):((ival n s).natAbs:Int)<256^k:=by
 have h0:=(nv_bd s).1;unfold ival;rw[sgn_abs h0];exact size_pow h
theorem add_bd {a b:Int} {k m:Nat} (ha:(a.natAbs:Int)<256^k) (hb:(b.natAbs:Int)<256^k) (hm:k+1≤m):((a+b).natAbs:Int)<256^m:=by
 have h3:=Ymono hm;rw[Ys]at h3
 generalize (256:Int)^m=u at *;generalize (256:Int)^k=u at *;omega
theorem sub_bd {a b:Int} {k m:Nat} (ha:(a.natAbs:Int)<256^k) (hb:(b.natAbs:Int)<256^k) (hm:k+1≤m):((a-b).natAbs:Int)<256^m:=by
 have h3:=Ymono hm;rw[Ys]at h3
 generalize (256:Int)^m=u at *;generalize (256:Int)^k=u at *;omega
theorem mul_bd {a b:Int} {k l m:Nat} (ha:(a.natAbs:Int)<256^k) (hb:(b.natAbs:Int)<256^l) (hm:k+l≤m):((a*b).natAbs:Int)<256^m:=by
 have h3:=Ymono hm;rw[Int.pow_add]at h3
 have hp:=Yp k;rw[Int.natAbs_mul,Int.natCast_mul];generalize (256:Int)^m=u at *;generalize (256:Int)^k=y at *;generalize (256:Int)^l=z at *;have h5:(a.natAbs:Int)*(b.natAbs:Int)≤(a.natAbs:Int)*z:=Int.mul_le_mul_of_nonneg_left (by omega) (by omega);have h6:(a.natAbs:Int)*z<y*z:=Int.mul_lt_mul_of_pos_right ha (by omega);omega
def natB (s:ByteArray):Bool:=!decide (0<s.size∧byt s (s.size-1)=0)
theorem isnat_r (s:ByteArray) (w:World):Calls Tryz.prog 85 #[.string s] w fun e w'=>e = .returned (.bool (natB s))∧Below w.heap.size w w':=by
 by_cases h0:s.size=0
 ·obtain⟨t1,t2⟩:=toList_nil h0
  have HZ:=Lib.hid (show natB s=true by unfold natB;rw[decide_eq_false (by omega)];rfl);clear h0;go_enter Tryz.func85,Tryz.ntmps85;go_wp2
  repeat(go_quiet (fail);try go_wp2)
  go_ret
  exact⟨by rw[HZ.out] <;> rfl,by first|exact Below.refl _ _|exact bdrN (Below.refl _ _) _⟩
 ·obtain⟨t1,t2⟩:=toList_ne (by omega:0<s.size)
  obtain⟨t0,ht0⟩:∃ t0,byt s (s.size-1)=t0:=⟨_,rfl⟩
  have hx:∀ h:0<s.size,((s[0]'h).toNat:Int)=t0:=fun h=>by
   rw[← ht0];unfold byt;rw[dif_pos (by omega)];congr 3
   omega
  have q1:=eq_true (show(0:Int)<(s.size:Int) by omega);have q2:=eq_true (show 0<s.size by omega);by_cases hz:t0=0
  ·have HZ:=Lib.hid (show natB s=false by unfold natB;rw[decide_eq_true ⟨by omega,by rw[ht0];exact hz⟩];rfl)
   subst hz;clear h0 ht0;go_enter Tryz.func85,Tryz.ntmps85;go_wp2
   repeat(go_quiet (fail);try go_wp2)
   go_ret
   exact⟨by rw[HZ.out] <;> rfl,by first|exact Below.refl _ _|exact bdrN (Below.refl _ _) _⟩
  ·have HZ:=Lib.hid (show natB s=true by unfold natB;rw[decide_eq_false (by rw[ht0];exact fun h=>hz h.2)];rfl)
   have y1:(t0==0)=false:=beq_eq_false_iff_ne.mpr hz;have y2:(t0 != 0)=true:=bne_iff_ne.mpr hz;clear h0 ht0 hz;go_enter Tryz.func85,Tryz.ntmps85;go_wp2
   repeat(go_quiet (fail);try go_wp2)
   go_ret
   exact⟨by rw[HZ.out] <;> rfl,by first|exact Below.refl _ _|exact bdrN (Below.refl _ _) _⟩
theorem check_r (n:Bool) (s:ByteArray) (w:World):Calls Tryz.prog 84 #[.agg #[.bool n,.string s]] w fun e w'=>e = .returned (.int .i64 (chk n s))∧Below w.heap.size w w':=by
 have hb0:Below w.heap.size w (w.alloc (.cells #[.bool n,.string s] 38)):=(Below.refl _ _).alloc (Nat.le_refl _) _;have HB:=Lib.hid hb0;clear hb0;by_cases h1:32000<s.size
 ·have HZ:=Lib.hid (show chk n s=5 by unfold chk;rw[if_pos h1])
  have t1:decide ((32000:Int)<(s.size:Int))=true:=decide_eq_true (by omega);clear h1;go_enter Tryz.func84,Tryz.ntmps84;go_wp2
  go_ret
  exact⟨by rw[HZ.out] <;> rfl,HB.out⟩
 ·have t1:decide ((32000:Int)<(s.size:Int))=false:=decide_eq_false (by omega)
  have HC:=Lib.hid (isnat_r s);by_cases h2:0<s.size∧byt s (s.size-1)=0
  ·have HZ:=Lib.hid (show chk n s=1 by unfold chk;rw[if_neg h1,if_pos h2])
   rw[show natB s=false by unfold natB;rw[decide_eq_true h2];rfl]at HC
   clear h1 h2;go_enter Tryz.func84,Tryz.ntmps84;go_wp2_with fail
   refine(HC.out _).mono ?_;rintro e w2 ⟨rfl,hb⟩;have HB2:=Lib.hid (HB.out.trans (hb.mono HB.out.size));clear hb;go_wp2
   repeat(go_quiet (fail);try go_wp2)
   go_ret
   exact⟨by rw[HZ.out] <;> rfl,by first|exact HB2.out|exact bdrN HB2.out _⟩
  ·rw[show natB s=true by unfold natB;rw[decide_eq_false h2];rfl]at HC
   cases n with
   | false =>
    have HZ:=Lib.hid (show chk false s=0 by unfold chk;rw[if_neg h1,if_neg h2,if_neg (by simp)]);clear h1 h2;go_enter Tryz.func84,Tryz.ntmps84;go_wp2_with fail
    refine(HC.out _).mono ?_;rintro e w2 ⟨rfl,hb⟩;have c0:=hb.cell (p:=⟨w.heap.size,0,none⟩) (by simp);have c1:=hb.cell (p:=⟨w.heap.size,1,none⟩) (by simp);rw[show(w.alloc (.cells #[.bool false,.string s] 38)).cell? ⟨w.heap.size,0,none⟩=some (.bool false) from by simp[go_sem]]at c0
    rw[show(w.alloc (.cells #[.bool false,.string s] 38)).cell? ⟨w.heap.size,1,none⟩=some (.string s) from by simp[go_sem]]at c1
    have HB2:=Lib.hid (HB.out.trans (hb.mono HB.out.size));clear hb;go_wp2
    repeat(go_quiet (fail);try go_wp2)
    go_ret
    exact⟨by rw[HZ.out] <;> rfl,by first|exact HB2.out|exact bdrN HB2.out _⟩
   | true =>
    by_cases h3:s.size=0
    ·have HZ:=Lib.hid (show chk true s=1 by unfold chk;rw[if_neg h1,if_neg h2,if_pos ⟨rfl,h3⟩])
     obtain⟨t2,t3⟩:=toList_nil h3;clear h1 h2 h3;go_enter Tryz.func84,Tryz.ntmps84;go_wp2_with fail
     refine(HC.out _).mono ?_;rintro e w2 ⟨rfl,hb⟩;have c0:=hb.cell (p:=⟨w.heap.size,0,none⟩) (by simp);have c1:=hb.cell (p:=⟨w.heap.size,1,none⟩) (by simp);rw[show(w.alloc (.cells #[.bool true,.string s] 38)).cell? ⟨w.heap.size,0,none⟩=some (.bool true) from by simp[go_sem]]at c0
     rw[show(w.alloc (.cells #[.bool true,.string s] 38)).cell? ⟨w.heap.size,1,none⟩=some (.string s) from by simp[go_sem]]at c1
     have HB2:=Lib.hid (HB.out.trans (hb.mono HB.out.size));clear hb;go_wp2
     repeat(go_quiet (fail);try go_wp2)
     go_ret
     exact⟨by rw[HZ.out] <;> rfl,by first|exact HB2.out|exact bdrN HB2.out _⟩
    ·have HZ:=Lib.hid (show chk true s=0 by unfold chk;rw[if_neg h1,if_neg h2,if_neg (fun h=>h3 h.2)])
     obtain⟨t2,t3⟩:=toList_ne (by omega:0<s.size);clear h1 h2 h3;go_enter Tryz.func84,Tryz.ntmps84;go_wp2_with fail
     refine(HC.out _).mono ?_;rintro e w2 ⟨rfl,hb⟩;have c0:=hb.cell (p:=⟨w.heap.size,0,none⟩) (by simp);have c1:=hb.cell (p:=⟨w.heap.size,1,none⟩) (by simp);rw[show(w.alloc (.cells #[.bool true,.string s] 38)).cell? ⟨w.heap.size,0,none⟩=some (.bool true) from by simp[go_sem]]at c0
     rw[show(w.alloc (.cells #[.bool true,.string s] 38)).cell? ⟨w.heap.size,1,none⟩=some (.string s) from by simp[go_sem]]at c1
     have HB2:=Lib.hid (HB.out.trans (hb.mono HB.out.size));clear hb;go_wp2
     repeat(go_quiet (fail);try go_wp2)
     go_ret
     exact⟨by rw[HZ.out] <;> rfl,by first|exact HB2.out|exact bdrN HB2.out _⟩
theorem sub_f (a b:Bool × ByteArray) (h1:a.2.size≤15000) (h2:b.2.size≤15000):Hid (∀ w,Calls Tryz.prog 113 #[.agg #[.bool a.1,.string a.2],.agg #[.bool b.1,.string b.2]] w fun e w'=>e = .returned (.tuple #[.agg #[.bool (binF (·-·) a b).1.1,.string (binF (·-·) a b).1.2],.int .i64 (binF (·-·) a b).2])∧Below w.heap.size w w') :=
 Lib.hid fun w=>(sub_w a.1 a.2 b.1 b.2 h1 h2 w).mono fun e w' h=>bin_of h
theorem mul_f (a b:Bool × ByteArray) (h1:a.2.size≤15000) (h2:b.2.size≤15000):Hid (∀ w,Calls Tryz.prog 123 #[.agg #[.bool a.1,.string a.2],.agg #[.bool b.1,.string b.2]] w fun e w'=>e = .returned (.tuple #[.agg #[.bool (binF (·*·) a b).1.1,.string (binF (·*·) a b).1.2],.int .i64 (binF (·*·) a b).2])∧Below w.heap.size w w') :=
 Lib.hid fun w=>(mul_w a.1 a.2 b.1 b.2 h1 h2 w).mono fun e w' h=>bin_of h
def no0:Bool × ByteArray:=(false,⟨#[]⟩)
def quoF (a b:Bool × ByteArray):(Bool × ByteArray) × (Bool × ByteArray) × Int :=
 if bad2 a.1 a.2 b.1 b.2≠0 then (no0,no0,bad2 a.1 a.2 b.1 b.2) else if nv b.2=0 then (no0,no0,3) else (pv (ival a.1 a.2 / ival b.1 b.2),pv (ival a.1 a.2%ival b.1 b.2),0)
theorem quo_f2 (a b:Bool × ByteArray) (h1:a.2.size≤15000) (h2:b.2.size≤15000) (w:World):Calls Tryz.prog 137 #[.agg #[.bool a.1,.string a.2],.agg #[.bool b.1,.string b.2]] w fun e w'=>e = .returned (.tuple #[.agg #[.bool (quoF a b).1.1,.string (quoF a b).1.2],.agg #[.bool (quoF a b).2.1.1,.string (quoF a b).2.1.2],.int .i64 (quoF a b).2.2])∧Below w.heap.size w w' :=
 (divw_c a.1 a.2 b.1 b.2 h1 h2 w).mono fun e w' h=>by
  refine⟨?_,h.2.2.2⟩
  unfold quoF
  split
  ·rename_i h0;exact h.1 h0
  ·rename_i h0
   split
   ·rename_i hz;exact h.2.1 (Decidable.not_not.mp h0) hz
   ·rename_i hz;exact h.2.2.1 (Decidable.not_not.mp h0) hz
def gcdF (a b:Bool × ByteArray):(Bool × ByteArray) × Int :=
 if bad2 a.1 a.2 b.1 b.2≠0 then (no0,bad2 a.1 a.2 b.1 b.2) else (pv (Int.gcd (ival a.1 a.2) (ival b.1 b.2):Nat),0)
theorem natAbs_ival (n:Bool) (s:ByteArray):(ival n s).natAbs=(nv s).toNat:=by
 have h0:=(nv_bd s).1;unfold ival sgn;split <;> omega
theorem gcd_f2 (a b:Bool × ByteArray) (h1:a.2.size≤15000) (h2:b.2.size≤15000) (w:World):Calls Tryz.prog 109 #[.agg #[.bool a.1,.string a.2],.agg #[.bool b.1,.string b.2]] w fun e w'=>e = .returned (.tuple #[.agg #[.bool (gcdF a b).1.1,.string (gcdF a b).1.2],.int .i64 (gcdF a b).2])∧Below w.heap.size w w' :=
 (gcdw_c a.1 a.2 b.1 b.2 h1 h2 w).mono fun e w' h=>by
  refine⟨?_,h.2.2⟩
  unfold gcdF
  split
  ·rename_i h0;exact h.1 h0
  ·rename_i h0
   rw[h.2.1 (Decidable.not_not.mp h0)]
   have e1:(pv ((Int.gcd (ival a.1 a.2) (ival b.1 b.2):Nat):Int))=(false,encN ((Nat.gcd (nv a.2).toNat (nv b.2).toNat:Nat):Int)):=by
    unfold pv Int.gcd;rw[natAbs_ival,natAbs_ival,Int.natAbs_natCast];exact congrArg (fun z=>(z,_)) (decide_eq_false (by omega))
   rw[e1]
abbrev RG:=Bool × ByteArray × ByteArray
def rnum (a:RG):Int:=ival a.1 a.2.1
def rden (a:RG):Int:=nv a.2.2
def rq (a:RG):Rat:=Rat.divInt (rnum a) (rden a)
def pq (q:Rat):RG:=((pv q.num).1,(pv q.num).2,(pv (q.den:Int)).2)
def nor:RG:=(false,⟨#[]⟩,⟨#[]⟩)
def chkR (a:RG):Int :=
 if 8000<a.2.1.size∨8000<a.2.2.size then 5
 else if chk a.1 a.2.1≠0∨chk false a.2.2≠0∨a.2.2.size=0∨Int.gcd (rnum a) (rden a)≠1 then 1 else 0
structure okR (a:RG):Prop where
 sn:a.2.1.size≤8000
 sd:a.2.2.size≤8000
 kn:okI a.1 a.2.1
 kd:okI false a.2.2
 nz:a.2.2.size≠0
 co:Int.gcd (rnum a) (rden a)=1
theorem chkR_ok {a:RG}:chkR a=0↔okR a:=by
 unfold chkR;constructor
 ·intro h
  split at h
  ·exact absurd h (by decide)
  ·rename_i h1
   split at h
   ·exact absurd h (by decide)
   ·rename_i h2
    have h3:chk a.1 a.2.1=0:=Decidable.byContradiction fun hc=>h2 (.inl hc);have h4:chk false a.2.2=0:=Decidable.byContradiction fun hc=>h2 (.inr (.inl hc));have h5:a.2.2.size≠0:=fun hc=>h2 (.inr (.inr (.inl hc)));have h6:Int.gcd (rnum a) (rden a)=1:=Decidable.byContradiction fun hc=>h2 (.inr (.inr (.inr hc)));exact⟨by omega,by omega,chk_ok.1 h3,chk_ok.1 h4,h5,h6⟩
 ·intro h
  rw[if_neg (by have:=h.sn;have:=h.sd;omega),if_neg (fun hc=>by
   rcases hc with hc|hc|hc|hc
   ·exact hc (chk_ok.2 h.kn)
   ·exact hc (chk_ok.2 h.kd)
   ·exact h.nz hc
   ·exact hc h.co)]
theorem ba_nil {s:ByteArray} (h:s.size=0):s=⟨#[]⟩:=by
 cases s with
 | mk d=>exact congrArg ByteArray.mk (Array.eq_empty_of_size_eq_zero h)
theorem pv_neg1 {v:Int} (h:0≤v):(pv v).1=false:=by
 show decide (v<0)=false;exact decide_eq_false (by omega)
theorem pv_nn {v:Int} (h:0≤v):pv v=(false,(pv v).2):=by rw[← pv_neg1 h]
theorem ival_pn {v:Int} (h:0≤v):ival false (pv v).2=v:=by have e:=ival_pv v;rw[pv_nn h]at e;exact e
theorem nv_pn {v:Int} (h:0≤v):nv (pv v).2=v:=ival_pn h
theorem okI_pn {v:Int} (h0:0≤v) (h:(pv v).2.size≤32000):okI false (pv v).2:=by
 have e:=okI_pv h;rw[pv_neg1 h0]at e
 exact e
theorem tl_iff {s:ByteArray} {l:List UInt8}:s.toList=l↔s=⟨l.toArray⟩:=by
 rw[ByteArray.toList_eq];constructor
 ·rintro rfl
  rfl
 ·rintro rfl
  rfl
theorem tl_nil {s:ByteArray}:s.toList=([]:List UInt8)↔s.size=0:=by
 rw[tl_iff];exact⟨fun h=>by rw[h];rfl,ba_nil⟩
theorem pv_1:pv 1=(false,⟨#[1]⟩):=by decide +kernel
theorem nv_1:nv (⟨#[1]⟩:ByteArray)=1:=by decide +kernel
theorem one_iff {n:Nat}:(pv (n:Int)).2.toList=([1]:List UInt8)↔n=1:=by
 rw[tl_iff];constructor
 ·intro h
  have e:=nv_pn (v:=(n:Int)) (by omega);rw[h]at e
  have:nv (⟨[1].toArray⟩:ByteArray)=1:=nv_1;omega
 ·rintro rfl
  exact congrArg Prod.snd pv_1
theorem okI_neg {n:Bool} {s:ByteArray} (h:okI n s):okI (!n&&decide (0<s.size)) s :=
 ⟨h.1,h.2.1,fun hc=>by simp at hc;exact hc.2⟩
theorem ival_ng {n:Bool} {s:ByteArray} (h:okI n s):ival (!n&&decide (0<s.size)) s =-ival n s:=by
 unfold ival sgn;by_cases hs:0<s.size
 ·cases n <;> simp[hs]
 ·have e:s=⟨#[]⟩:=ba_nil (by omega)
  have:nv s=0:=by rw[e];rfl
  have hn:n≠true:=fun hc=>hs (h.2.2 hc);cases n
  ·simp[hs,this]
  ·exact absurd rfl hn
theorem okR.dp {a:RG} (h:okR a):0<rden a:=nv_pos h.kd.2.1 (Nat.pos_of_ne_zero h.nz)
theorem okR.q {a:RG} (h:okR a):(rq a).num=rnum a∧((rq a).den:Int)=rden a:=by
 have hd:=h.dp;unfold rq;obtain⟨n,hn⟩:∃ n,rnum a=n:=⟨_,rfl⟩
 obtain⟨d,hd2⟩:∃ d:Nat,rden a=(d:Int):=⟨(rden a).toNat,by omega⟩
 have hc:=h.co;rw[hn,hd2]at hc ⊢
 rw[hd2]at hd
 rw[← Rat.mk_eq_divInt (num:=n) (den:=d) (nz:=by omega) (c:=by
  have:n.natAbs.gcd d=1:=by rw[← hc];unfold Int.gcd;rw[Int.natAbs_natCast]
  exact this)]
 exact⟨rfl,rfl⟩
theorem rnum_pq (q:Rat):rnum (pq q)=q.num:=ival_pv _
theorem rden_pq (q:Rat):rden (pq q)=(q.den:Int):=nv_pn (by omega)
theorem rq_pq (q:Rat):rq (pq q)=q:=by
 unfold rq;rw[rnum_pq,rden_pq];exact Rat.num_divInt_den q
theorem okR_pq {q:Rat} (h1:(pq q).2.1.size≤8000) (h2:(pq q).2.2.size≤8000):okR (pq q):=by
 refine⟨h1,h2,okI_pv (by have:(pv q.num).2.size≤8000:=h1;omega),okI_pn (by omega) (by have:(pv (q.den:Int)).2.size≤8000:=h2;omega),fun h=>?_,?_⟩
 ·have e:=rden_pq q
  have h3:nv (pq q).2.2=0:=by rw[ba_nil h];rfl
  have h4:rden (pq q)=0:=h3;have:=q.den_pos;omega
 ·rw[rnum_pq,rden_pq]
  have:=q.reduced;unfold Int.gcd;rw[Int.natAbs_natCast];exact this
theorem low_num {n d:Int} (hd:0<d):(Rat.divInt n d).num=n / (Int.gcd n d:Nat):=by
 rw[Rat.num_divInt,Int.sign_eq_one_of_pos hd,Int.one_mul,Int.gcd_comm]
theorem low_den {n d:Int} (hd:0<d):((Rat.divInt n d).den:Int)=d / (Int.gcd n d:Nat):=by
 rw[Rat.den_divInt,if_neg (by omega),Int.gcd_comm,Int.natCast_ediv];congr 1
 omega
theorem gcd_pos {n d:Int} (hd:0<d):0<Int.gcd n d:=Nat.pos_of_ne_zero fun h=>by have:=(Int.gcd_eq_zero_iff.1 h).2;omega
theorem low_num_le (n:Int) {d:Int} (hd:0<d):((Rat.divInt n d).num.natAbs:Int)≤(n.natAbs:Int):=by
 rw[low_num hd];have:=Int.natAbs_ediv_le_natAbs n (Int.gcd n d:Nat);omega
theorem low_den_le (n:Int) {d:Int} (hd:0<d):((Rat.divInt n d).den:Int)≤d:=by
 rw[low_den hd];exact Int.ediv_le_self _ (by omega)
theorem low_size {n d:Int} {k m:Nat} (hd:0<d) (h1:(n.natAbs:Int)<256^k) (h2:d<256^m):(pq (Rat.divInt n d)).2.1.size≤k∧(pq (Rat.divInt n d)).2.2.size≤m :=
 ⟨size_pv (Int.lt_of_le_of_lt (low_num_le n hd) h1),size_pv (by have:=low_den_le n hd;omega)⟩
theorem q_add {a b:RG} (ha:okR a) (hb:okR b):Rat.divInt (rnum a*rden b+rnum b*rden a) (rden a*rden b)=rq a+rq b :=
 (Rat.divInt_add_divInt _ _ (by have:=ha.dp;omega) (by have:=hb.dp;omega)).symm
theorem q_sub {a b:RG} (ha:okR a) (hb:okR b):Rat.divInt (rnum a*rden b-rnum b*rden a) (rden a*rden b)=rq a-rq b :=
 (Rat.divInt_sub_divInt _ _ (by have:=ha.dp;omega) (by have:=hb.dp;omega)).symm
theorem q_mul {a b:RG}:Rat.divInt (rnum a*rnum b) (rden a*rden b)=rq a*rq b:=(Rat.divInt_mul_divInt _ _).symm
def cmpQ (p q:Rat):Int:=if p<q then -1 else if q<p then 1 else 0
theorem do_Mul (a1:Bool) (a2:ByteArray) (b1:Bool) (b2:ByteArray) (r1:Bool) (r2:ByteArray) (x:Int)
  (H:Hid (∀ w,Calls Tryz.prog 123 #[.agg #[.bool a1,.string a2],.agg #[.bool b1,.string b2]] w fun e w'=>e = .returned (.tuple #[.agg #[.bool r1,.string r2],.int .i64 x])∧Below w.heap.size w w')) (w:World) :
  Calls Tryz.prog 122 #[.func (.func 123) #[] #[],.agg #[.bool a1,.string a2],.agg #[.bool b1,.string b2]] w fun e w'=>e = .returned (.agg #[.bool r1,.string r2])∧Below w.heap.size w w':=by
 obtain⟨W0,hW0⟩:∃ W0,W0=((w.alloc (.cells #[.bool a1,.string a2] 38)).alloc (.cells #[.bool b1,.string b2] 38)).alloc (.cells #[.bool false,.string ⟨#[]⟩] 38):=⟨_,rfl⟩
 have hB0:Below w.heap.size w W0:=by rw[hW0];exact(((Below.refl _ _).alloc (by simp;try omega) _).alloc (by simp;try omega) _).alloc (by simp;try omega) _
 have f0_0:W0.cell? ⟨w.heap.size,0,none⟩=some (.bool a1):=by rw[hW0];simp[go_sem]
 have f0_1:W0.cell? ⟨w.heap.size,1,none⟩=some (.string a2):=by rw[hW0];simp[go_sem]
 have f1_0:W0.cell? ⟨w.heap.size+1,0,none⟩=some (.bool b1):=by rw[hW0];simp[go_sem]
 have f1_1:W0.cell? ⟨w.heap.size+1,1,none⟩=some (.string b2):=by rw[hW0];simp[go_sem]
 have f2_0:W0.cell? ⟨w.heap.size+2,0,none⟩=some (.bool false):=by rw[hW0];simp[go_sem]
 have f2_1:W0.cell? ⟨w.heap.size+2,1,none⟩=some (.string ⟨#[]⟩):=by rw[hW0];simp[go_sem]
 have hZ0:W0.heap.size=w.heap.size+3:=by rw[hW0];simp
 have HL0:=Lib.hid (show w.heap.size<W0.heap.size by rw[hZ0];omega);have HL1:=Lib.hid (show w.heap.size+1<W0.heap.size by rw[hZ0];omega);have HL2:=Lib.hid (show w.heap.size+2<W0.heap.size by rw[hZ0];omega);have HW0:=Lib.hid hW0;have HB:=Lib.hid hB0;clear hB0 hZ0 hW0;have fz2_0:W0.frozen? ⟨w.heap.size+2,0,none⟩=false:=by rw[HW0.out];simp[go_sem]
 have fz2_1:W0.frozen? ⟨w.heap.size+2,1,none⟩=false:=by rw[HW0.out];simp[go_sem]
 go_enter Tryz.func122,Tryz.ntmps122;go_wp2_with fail
 rw[← HW0.out];refine(H.out _).mono ?_;rintro e w1 ⟨rfl,hb1⟩;have hB1:Below W0.heap.size W0 (w1.alloc (.cells #[.bool r1,.string r2] 38)):=((hb1).alloc (by have:=hb1.size;simp;try omega) _)
 have n0_0:=(hB1.cell (p:=⟨w.heap.size,0,none⟩) HL0.out).trans f0_0;have n0_1:=(hB1.cell (p:=⟨w.heap.size,1,none⟩) HL0.out).trans f0_1;have n1_0:=(hB1.cell (p:=⟨w.heap.size+1,0,none⟩) HL1.out).trans f1_0;have n1_1:=(hB1.cell (p:=⟨w.heap.size+1,1,none⟩) HL1.out).trans f1_1;have n2_0:=(hB1.cell (p:=⟨w.heap.size+2,0,none⟩) HL2.out).trans f2_0;have n2_1:=(hB1.cell (p:=⟨w.heap.size+2,1,none⟩) HL2.out).trans f2_1;have n3_0:(w1.alloc (.cells #[.bool r1,.string r2] 38)).cell? ⟨w1.heap.size,0,none⟩=some (.bool r1):=by simp[go_sem]
 have n3_1:(w1.alloc (.cells #[.bool r1,.string r2] 38)).cell? ⟨w1.heap.size,1,none⟩=some (.string r2):=by simp[go_sem]
 have nz2_0:=(hB1.frozen (p:=⟨w.heap.size+2,0,none⟩) HL2.out).trans fz2_0;have nz2_1:=(hB1.frozen (p:=⟨w.heap.size+2,1,none⟩) HL2.out).trans fz2_1;clear f0_0 f0_1 f1_0 f1_1 f2_0 f2_1 fz2_0 fz2_1;have HX1:=Lib.hid hB1;have HY1:=Lib.hid hb1.size;clear hB1 hb1;go_wp2
 obtain⟨W1,hW1⟩:∃ W1,W1=w1.alloc (.cells #[.bool r1,.string r2] 38):=⟨_,rfl⟩
 have hZ1:W1.heap.size=w1.heap.size+1:=by rw[hW1];simp
 rw[← hW1]at HX1 ⊢
 rw[← hW1]at n0_0 n0_1
 rw[← hW1]at n1_0 n1_1
 rw[← hW1]at n2_0 n2_1
 rw[← hW1]at n3_0 n3_1
 rw[← hW1]at nz2_0 nz2_1
 obtain⟨g1,hg1⟩:∃ g1,w1.heap.size=g1:=⟨_,rfl⟩
 rw[hg1]at n3_0 n3_1
 rw[hg1]at hZ1 HY1 ⊢
 clear hW1 hg1;have HL0:=Lib.hid (Nat.lt_of_lt_of_le HL0.out HX1.out.size);have HL1:=Lib.hid (Nat.lt_of_lt_of_le HL1.out HX1.out.size);have HL2:=Lib.hid (Nat.lt_of_lt_of_le HL2.out HX1.out.size);have HL3:=Lib.hid (show g1<W1.heap.size by rw[hZ1];omega);clear hZ1 HY1;have HB:=Lib.hid (HB.out.trans (HX1.out.mono HB.out.size));clear HX1;have f0_0:=n0_0;have f0_1:=n0_1;have f1_0:=n1_0;have f1_1:=n1_1;have f2_0:=n2_0;have f2_1:=n2_1;have f3_0:=n3_0;have f3_1:=n3_1;have fz2_0:=nz2_0;have fz2_1:=nz2_1;clear n0_0 n0_1 n1_0 n1_1 n2_0 n2_1 n3_0 n3_1 nz2_0 nz2_1;refine bodyPost_ret (by simp[results,Tryz.results122,go_sem,f2_0,f2_1];try rfl) rfl ?_;exact⟨rfl,(HB.out.setCell (by simp;try omega) _).setCell (by simp;try omega) _⟩
theorem do_Gcd (a1:Bool) (a2:ByteArray) (b1:Bool) (b2:ByteArray) (r1:Bool) (r2:ByteArray) (x:Int)
  (H:Hid (∀ w,Calls Tryz.prog 109 #[.agg #[.bool a1,.string a2],.agg #[.bool b1,.string b2]] w fun e w'=>e = .returned (.tuple #[.agg #[.bool r1,.string r2],.int .i64 x])∧Below w.heap.size w w')) (w:World) :
  Calls Tryz.prog 122 #[.func (.func 109) #[] #[],.agg #[.bool a1,.string a2],.agg #[.bool b1,.string b2]] w fun e w'=>e = .returned (.agg #[.bool r1,.string r2])∧Below w.heap.size w w':=by
 obtain⟨W0,hW0⟩:∃ W0,W0=((w.alloc (.cells #[.bool a1,.string a2] 38)).alloc (.cells #[.bool b1,.string b2] 38)).alloc (.cells #[.bool false,.string ⟨#[]⟩] 38):=⟨_,rfl⟩
 have hB0:Below w.heap.size w W0:=by rw[hW0];exact(((Below.refl _ _).alloc (by simp;try omega) _).alloc (by simp;try omega) _).alloc (by simp;try omega) _
 have f0_0:W0.cell? ⟨w.heap.size,0,none⟩=some (.bool a1):=by rw[hW0];simp[go_sem]
 have f0_1:W0.cell? ⟨w.heap.size,1,none⟩=some (.string a2):=by rw[hW0];simp[go_sem]
 have f1_0:W0.cell? ⟨w.heap.size+1,0,none⟩=some (.bool b1):=by rw[hW0];simp[go_sem]
 have f1_1:W0.cell? ⟨w.heap.size+1,1,none⟩=some (.string b2):=by rw[hW0];simp[go_sem]
 have f2_0:W0.cell? ⟨w.heap.size+2,0,none⟩=some (.bool false):=by rw[hW0];simp[go_sem]
 have f2_1:W0.cell? ⟨w.heap.size+2,1,none⟩=some (.string ⟨#[]⟩):=by rw[hW0];simp[go_sem]
 have hZ0:W0.heap.size=w.heap.size+3:=by rw[hW0];simp
 have HL0:=Lib.hid (show w.heap.size<W0.heap.size by rw[hZ0];omega);have HL1:=Lib.hid (show w.heap.size+1<W0.heap.size by rw[hZ0];omega);have HL2:=Lib.hid (show w.heap.size+2<W0.heap.size by rw[hZ0];omega);have HW0:=Lib.hid hW0;have HB:=Lib.hid hB0;clear hB0 hZ0 hW0;have fz2_0:W0.frozen? ⟨w.heap.size+2,0,none⟩=false:=by rw[HW0.out];simp[go_sem]
 have fz2_1:W0.frozen? ⟨w.heap.size+2,1,none⟩=false:=by rw[HW0.out];simp[go_sem]
 go_enter Tryz.func122,Tryz.ntmps122;go_wp2_with fail
 rw[← HW0.out];refine(H.out _).mono ?_;rintro e w1 ⟨rfl,hb1⟩;have hB1:Below W0.heap.size W0 (w1.alloc (.cells #[.bool r1,.string r2] 38)):=((hb1).alloc (by have:=hb1.size;simp;try omega) _)
 have n0_0:=(hB1.cell (p:=⟨w.heap.size,0,none⟩) HL0.out).trans f0_0;have n0_1:=(hB1.cell (p:=⟨w.heap.size,1,none⟩) HL0.out).trans f0_1;have n1_0:=(hB1.cell (p:=⟨w.heap.size+1,0,none⟩) HL1.out).trans f1_0;have n1_1:=(hB1.cell (p:=⟨w.heap.size+1,1,none⟩) HL1.out).trans f1_1;have n2_0:=(hB1.cell (p:=⟨w.heap.size+2,0,none⟩) HL2.out).trans f2_0;have n2_1:=(hB1.cell (p:=⟨w.heap.size+2,1,none⟩) HL2.out).trans f2_1;have n3_0:(w1.alloc (.cells #[.bool r1,.string r2] 38)).cell? ⟨w1.heap.size,0,none⟩=some (.bool r1):=by simp[go_sem]
 have n3_1:(w1.alloc (.cells #[.bool r1,.string r2] 38)).cell? ⟨w1.heap.size,1,none⟩=some (.string r2):=by simp[go_sem]
 have nz2_0:=(hB1.frozen (p:=⟨w.heap.size+2,0,none⟩) HL2.out).trans fz2_0;have nz2_1:=(hB1.frozen (p:=⟨w.heap.size+2,1,none⟩) HL2.out).trans fz2_1;clear f0_0 f0_1 f1_0 f1_1 f2_0 f2_1 fz2_0 fz2_1;have HX1:=Lib.hid hB1;have HY1:=Lib.hid hb1.size;clear hB1 hb1;go_wp2
 obtain⟨W1,hW1⟩:∃ W1,W1=w1.alloc (.cells #[.bool r1,.string r2] 38):=⟨_,rfl⟩
 have hZ1:W1.heap.size=w1.heap.size+1:=by rw[hW1];simp
 rw[← hW1]at HX1 ⊢
 rw[← hW1]at n0_0 n0_1
 rw[← hW1]at n1_0 n1_1
 rw[← hW1]at n2_0 n2_1
 rw[← hW1]at n3_0 n3_1
 rw[← hW1]at nz2_0 nz2_1
 obtain⟨g1,hg1⟩:∃ g1,w1.heap.size=g1:=⟨_,rfl⟩
 rw[hg1]at n3_0 n3_1
 rw[hg1]at hZ1 HY1 ⊢
 clear hW1 hg1;have HL0:=Lib.hid (Nat.lt_of_lt_of_le HL0.out HX1.out.size);have HL1:=Lib.hid (Nat.lt_of_lt_of_le HL1.out HX1.out.size);have HL2:=Lib.hid (Nat.lt_of_lt_of_le HL2.out HX1.out.size);have HL3:=Lib.hid (show g1<W1.heap.size by rw[hZ1];omega);clear hZ1 HY1;have HB:=Lib.hid (HB.out.trans (HX1.out.mono HB.out.size));clear HX1;have f0_0:=n0_0;have f0_1:=n0_1;have f1_0:=n1_0;have f1_1:=n1_1;have f2_0:=n2_0;have f2_1:=n2_1;have f3_0:=n3_0;have f3_1:=n3_1;have fz2_0:=nz2_0;have fz2_1:=nz2_1;clear n0_0 n0_1 n1_0 n1_1 n2_0 n2_1 n3_0 n3_1 nz2_0 nz2_1;refine bodyPost_ret (by simp[results,Tryz.results122,go_sem,f2_0,f2_1];try rfl) rfl ?_;exact⟨rfl,(HB.out.setCell (by simp;try omega) _).setCell (by simp;try omega) _⟩
theorem do_Sub (a1:Bool) (a2:ByteArray) (b1:Bool) (b2:ByteArray) (r1:Bool) (r2:ByteArray) (x:Int)
  (H:Hid (∀ w,Calls Tryz.prog 113 #[.agg #[.bool a1,.string a2],.agg #[.bool b1,.string b2]] w fun e w'=>e = .returned (.tuple #[.agg #[.bool r1,.string r2],.int .i64 x])∧Below w.heap.size w w')) (w:World) :
  Calls Tryz.prog 122 #[.func (.func 113) #[] #[],.agg #[.bool a1,.string a2],.agg #[.bool b1,.string b2]] w fun e w'=>e = .returned (.agg #[.bool r1,.string r2])∧Below w.heap.size w w':=by
 obtain⟨W0,hW0⟩:∃ W0,W0=((w.alloc (.cells #[.bool a1,.string a2] 38)).alloc (.cells #[.bool b1,.string b2] 38)).alloc (.cells #[.bool false,.string ⟨#[]⟩] 38):=⟨_,rfl⟩
 have hB0:Below w.heap.size w W0:=by rw[hW0];exact(((Below.refl _ _).alloc (by simp;try omega) _).alloc (by simp;try omega) _).alloc (by simp;try omega) _
 have f0_0:W0.cell? ⟨w.heap.size,0,none⟩=some (.bool a1):=by rw[hW0];simp[go_sem]
 have f0_1:W0.cell? ⟨w.heap.size,1,none⟩=some (.string a2):=by rw[hW0];simp[go_sem]
 have f1_0:W0.cell? ⟨w.heap.size+1,0,none⟩=some (.bool b1):=by rw[hW0];simp[go_sem]
 have f1_1:W0.cell? ⟨w.heap.size+1,1,none⟩=some (.string b2):=by rw[hW0];simp[go_sem]
 have f2_0:W0.cell? ⟨w.heap.size+2,0,none⟩=some (.bool false):=by rw[hW0];simp[go_sem]
 have f2_1:W0.cell? ⟨w.heap.size+2,1,none⟩=some (.string ⟨#[]⟩):=by rw[hW0];simp[go_sem]
 have hZ0:W0.heap.size=w.heap.size+3:=by rw[hW0];simp
 have HL0:=Lib.hid (show w.heap.size<W0.heap.size by rw[hZ0];omega);have HL1:=Lib.hid (show w.heap.size+1<W0.heap.size by rw[hZ0];omega);have HL2:=Lib.hid (show w.heap.size+2<W0.heap.size by rw[hZ0];omega);have HW0:=Lib.hid hW0;have HB:=Lib.hid hB0;clear hB0 hZ0 hW0;have fz2_0:W0.frozen? ⟨w.heap.size+2,0,none⟩=false:=by rw[HW0.out];simp[go_sem]
 have fz2_1:W0.frozen? ⟨w.heap.size+2,1,none⟩=false:=by rw[HW0.out];simp[go_sem]
 go_enter Tryz.func122,Tryz.ntmps122;go_wp2_with fail
 rw[← HW0.out];refine(H.out _).mono ?_;rintro e w1 ⟨rfl,hb1⟩;have hB1:Below W0.heap.size W0 (w1.alloc (.cells #[.bool r1,.string r2] 38)):=((hb1).alloc (by have:=hb1.size;simp;try omega) _)
 have n0_0:=(hB1.cell (p:=⟨w.heap.size,0,none⟩) HL0.out).trans f0_0;have n0_1:=(hB1.cell (p:=⟨w.heap.size,1,none⟩) HL0.out).trans f0_1;have n1_0:=(hB1.cell (p:=⟨w.heap.size+1,0,none⟩) HL1.out).trans f1_0;have n1_1:=(hB1.cell (p:=⟨w.heap.size+1,1,none⟩) HL1.out).trans f1_1;have n2_0:=(hB1.cell (p:=⟨w.heap.size+2,0,none⟩) HL2.out).trans f2_0;have n2_1:=(hB1.cell (p:=⟨w.heap.size+2,1,none⟩) HL2.out).trans f2_1;have n3_0:(w1.alloc (.cells #[.bool r1,.string r2] 38)).cell? ⟨w1.heap.size,0,none⟩=some (.bool r1):=by simp[go_sem]
 have n3_1:(w1.alloc (.cells #[.bool r1,.string r2] 38)).cell? ⟨w1.heap.size,1,none⟩=some (.string r2):=by simp[go_sem]
 have nz2_0:=(hB1.frozen (p:=⟨w.heap.size+2,0,none⟩) HL2.out).trans fz2_0;have nz2_1:=(hB1.frozen (p:=⟨w.heap.size+2,1,none⟩) HL2.out).trans fz2_1;clear f0_0 f0_1 f1_0 f1_1 f2_0 f2_1 fz2_0 fz2_1;have HX1:=Lib.hid hB1;have HY1:=Lib.hid hb1.size;clear hB1 hb1;go_wp2
 obtain⟨W1,hW1⟩:∃ W1,W1=w1.alloc (.cells #[.bool r1,.string r2] 38):=⟨_,rfl⟩
 have hZ1:W1.heap.size=w1.heap.size+1:=by rw[hW1];simp
 rw[← hW1]at HX1 ⊢
 rw[← hW1]at n0_0 n0_1
 rw[← hW1]at n1_0 n1_1
 rw[← hW1]at n2_0 n2_1
 rw[← hW1]at n3_0 n3_1
 rw[← hW1]at nz2_0 nz2_1
 obtain⟨g1,hg1⟩:∃ g1,w1.heap.size=g1:=⟨_,rfl⟩
 rw[hg1]at n3_0 n3_1
 rw[hg1]at hZ1 HY1 ⊢
 clear hW1 hg1;have HL0:=Lib.hid (Nat.lt_of_lt_of_le HL0.out HX1.out.size);have HL1:=Lib.hid (Nat.lt_of_lt_of_le HL1.out HX1.out.size);have HL2:=Lib.hid (Nat.lt_of_lt_of_le HL2.out HX1.out.size);have HL3:=Lib.hid (show g1<W1.heap.size by rw[hZ1];omega);clear hZ1 HY1;have HB:=Lib.hid (HB.out.trans (HX1.out.mono HB.out.size));clear HX1;have f0_0:=n0_0;have f0_1:=n0_1;have f1_0:=n1_0;have f1_1:=n1_1;have f2_0:=n2_0;have f2_1:=n2_1;have f3_0:=n3_0;have f3_1:=n3_1;have fz2_0:=nz2_0;have fz2_1:=nz2_1;clear n0_0 n0_1 n1_0 n1_1 n2_0 n2_1 n3_0 n3_1 nz2_0 nz2_1;refine bodyPost_ret (by simp[results,Tryz.results122,go_sem,f2_0,f2_1];try rfl) rfl ?_;exact⟨rfl,(HB.out.setCell (by simp;try omega) _).setCell (by simp;try omega) _⟩
structure BW (w0:World) where
 w:World
 h:Below w0.heap.size w0 w
instance (w0:World):Inhabited (BW w0):=⟨⟨w0,Below.refl _ _⟩⟩
theorem region_bw {P:Program} {id:Nat} {Q:Exit→Act→World→Prop} {a:Act} (w:World) {l:List Oper} (hm:P.follows .mixedOrders=true) (hB:Region.lexB .any l.toArray=true)
  (h:wpQuiet P l.toArray (fun w'=>∃ p:BW w,w'=p.w) (fun a'=>∀ w',(∃ p:BW w,w'=p.w)→Q .normal a' w') l a):(Code.region id l.toArray true).wp P Q a w :=
 wp_region_quiet (C:=fun w'=>∃ p:BW w,w'=p.w) hm hB ⟨⟨_,(Below.refl w.heap.size w).drew⟩,rfl⟩ (by simpa using h)
theorem bw_cell {w:World} {a:Addr} {v:Value} (h:w.cell? a=some v) (p:BW w):p.w.cell? a=some v:=(p.h.cell (World.block_lt_of_cell? _ _ h)).trans h
theorem bw_call {w:World} {P:Program} {f:FuncId} {args:Array Value} {v:Value} (h:∀ W,Below w.heap.size w W→Calls P f args W fun e w'=>e = .returned v∧Below W.heap.size W w') (p:BW w) :
  Calls P f args p.w fun e w''=>e = .returned v∧∃ q:BW w,w''=q.w :=
 (h p.w p.h).mono fun _ w' ⟨he,hb⟩=>⟨he,⟨w',p.h.trans (hb.mono p.h.size)⟩,rfl⟩
end Go.Proofs.YtfcjnhkkfmgmpaaGreat
