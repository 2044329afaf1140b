import Derived.Test.YtcmepkhjggpmeaaGreatZuG14
set_option linter.all false
set_option maxRecDepth 100000
set_option maxHeartbeats 8000000
namespace Go.Proofs.YtcmepkhjggpmeaaGreat
open Go.RowKit aP
def rG (s:ByteArray):Bool:=!decide (0<s.size/\fF s (s.size-1)=0)
theorem YJ (s:ByteArray) (w:World):Calls Tryz.prog 151 #[.string s] w fun e w'=>e = .returned (.bool (rG s))/\Below w.heap.size w w':=by
 by_cases h0:s.size=0
 ·obtain⟨t1,t2⟩:=toList_nil h0
  have HZ:=Lib.hid (show rG s=true by unfold rG;rw[decide_eq_false aC];rfl);clear h0;go_enter Tryz.func151,Tryz.ntmps151;go_wp2
  repeat(go_quiet (fail);try go_wp2)
  go_ret
  exact⟨by rw[HZ.out] <;> rfl,by first|exact Below.refl _ _|exact gI (Below.refl _ _) _⟩
 ·obtain⟨t1,t2⟩:=yt (by omega:0<s.size)
  obtain⟨t0,Ai⟩:∃ t0,fF s (s.size-1)=t0:=⟨_,rfl⟩
  have hx:∀ h:0<s.size,((s[0]'h).toNat:Int)=t0:=fun h=>by
   rw[<- Ai];unfold fF;rw[dif_pos aC];congr 3
   omega
  have q1:=eq_true (show(0:Int)<(s.size:Int) by omega);have q2:=eq_true (show 0<s.size by omega);by_cases hz:t0=0
  ·have HZ:=Lib.hid (show rG s=false by unfold rG;rw[decide_eq_true ⟨by omega,by rw[Ai];exact hz⟩];rfl)
   subst hz;clear h0 Ai;go_enter Tryz.func151,Tryz.ntmps151;go_wp2
   repeat(go_quiet (fail);try go_wp2)
   go_ret
   exact⟨by rw[HZ.out] <;> rfl,by first|exact Below.refl _ _|exact gI (Below.refl _ _) _⟩
  ·have HZ:=Lib.hid (show rG s=true by unfold rG;rw[decide_eq_false (by rw[Ai];exact fun h=>hz h.2)];rfl)
   have y1:(t0==0)=false:=beq_eq_false_iff_ne.mpr hz;have y2:(t0 != 0)=true:=bne_iff_ne.mpr hz;clear h0 Ai hz;go_enter Tryz.func151,Tryz.ntmps151;go_wp2
   repeat(go_quiet (fail);try go_wp2)
   go_ret
   exact⟨by rw[HZ.out] <;> rfl,by first|exact Below.refl _ _|exact gI (Below.refl _ _) _⟩
theorem ail (n:Bool) (s:ByteArray) (w:World):Calls Tryz.prog 150 #[.agg #[.bool n,.string s]] w fun e w'=>e = .returned (.int .i64 (gF n s))/\Below w.heap.size w w':=by
 have hb0:Below w.heap.size w (w.alloc (.cells #[.bool n,.string s] 38)):=(Below.refl _ _).alloc (Nat.le_refl _) _;have HB:=Lib.hid hb0;clear hb0;by_cases h1:32000<s.size
 ·have HZ:=Lib.hid (show gF n s=5 by unfold gF;rw[if_pos h1])
  have t1:decide ((32000:Int)<(s.size:Int))=true:=decide_eq_true aC;clear h1;go_enter Tryz.func150,Tryz.ntmps150;go_wp2
  go_ret
  exact⟨by rw[HZ.out] <;> rfl,HB.out⟩
 ·have t1:decide ((32000:Int)<(s.size:Int))=false:=decide_eq_false aC
  have HC:=Lib.hid (YJ s);by_cases h2:0<s.size/\fF s (s.size-1)=0
  ·have HZ:=Lib.hid (show gF n s=1 by unfold gF;rw[if_neg h1,if_pos h2])
   rw[show rG s=false by unfold rG;rw[decide_eq_true h2];rfl]at HC
   clear h1 h2;go_enter Tryz.func150,Tryz.ntmps150;go_wp2_with fail
   refine(HC.out _).mono ?_;rintro e w2 ⟨rfl,hb⟩;have bV:=Lib.hid (HB.out.trans (hb.mono HB.out.size));clear hb;go_wp2
   repeat(go_quiet (fail);try go_wp2)
   go_ret
   exact⟨by rw[HZ.out] <;> rfl,by first|exact bV.out|exact gI bV.out _⟩
  ·rw[show rG s=true by unfold rG;rw[decide_eq_false h2];rfl]at HC
   cases n with
   | false =>
    have HZ:=Lib.hid (show gF false s=0 by unfold gF;rw[if_neg h1,if_neg h2,if_neg (by simp)]);clear h1 h2;go_enter Tryz.func150,Tryz.ntmps150;go_wp2_with fail
    refine(HC.out _).mono ?_;rintro e w2 ⟨rfl,hb⟩;have c0:=hb.cell (p:=⟨w.heap.size,0,none⟩) (by simp);have c1:=hb.cell (p:=⟨w.heap.size,1,none⟩) (by simp);rw[show(w.alloc (.cells #[.bool false,.string s] 38)).cell? ⟨w.heap.size,0,none⟩=some (.bool false) from by simp[go_sem]]at c0
    rw[show(w.alloc (.cells #[.bool false,.string s] 38)).cell? ⟨w.heap.size,1,none⟩=some (.string s) from by simp[go_sem]]at c1
    have bV:=Lib.hid (HB.out.trans (hb.mono HB.out.size));clear hb;go_wp2
    repeat(go_quiet (fail);try go_wp2)
    go_ret
    exact⟨by rw[HZ.out] <;> rfl,by first|exact bV.out|exact gI bV.out _⟩
   | true =>
    by_cases h3:s.size=0
    ·have HZ:=Lib.hid (show gF true s=1 by unfold gF;rw[if_neg h1,if_neg h2,if_pos ⟨rfl,h3⟩])
     obtain⟨t2,t3⟩:=toList_nil h3;clear h1 h2 h3;go_enter Tryz.func150,Tryz.ntmps150;go_wp2_with fail
     refine(HC.out _).mono ?_;rintro e w2 ⟨rfl,hb⟩;have c0:=hb.cell (p:=⟨w.heap.size,0,none⟩) (by simp);have c1:=hb.cell (p:=⟨w.heap.size,1,none⟩) (by simp);rw[show(w.alloc (.cells #[.bool true,.string s] 38)).cell? ⟨w.heap.size,0,none⟩=some (.bool true) from by simp[go_sem]]at c0
     rw[show(w.alloc (.cells #[.bool true,.string s] 38)).cell? ⟨w.heap.size,1,none⟩=some (.string s) from by simp[go_sem]]at c1
     have bV:=Lib.hid (HB.out.trans (hb.mono HB.out.size));clear hb;go_wp2
     repeat(go_quiet (fail);try go_wp2)
     go_ret
     exact⟨by rw[HZ.out] <;> rfl,by first|exact bV.out|exact gI bV.out _⟩
    ·have HZ:=Lib.hid (show gF true s=0 by unfold gF;rw[if_neg h1,if_neg h2,if_neg (fun h=>h3 h.2)])
     obtain⟨t2,t3⟩:=yt (by omega:0<s.size);clear h1 h2 h3;go_enter Tryz.func150,Tryz.ntmps150;go_wp2_with fail
     refine(HC.out _).mono ?_;rintro e w2 ⟨rfl,hb⟩;have c0:=hb.cell (p:=⟨w.heap.size,0,none⟩) (by simp);have c1:=hb.cell (p:=⟨w.heap.size,1,none⟩) (by simp);rw[show(w.alloc (.cells #[.bool true,.string s] 38)).cell? ⟨w.heap.size,0,none⟩=some (.bool true) from by simp[go_sem]]at c0
     rw[show(w.alloc (.cells #[.bool true,.string s] 38)).cell? ⟨w.heap.size,1,none⟩=some (.string s) from by simp[go_sem]]at c1
     have bV:=Lib.hid (HB.out.trans (hb.mono HB.out.size));clear hb;go_wp2
     repeat(go_quiet (fail);try go_wp2)
     go_ret
     exact⟨by rw[HZ.out] <;> rfl,by first|exact bV.out|exact gI bV.out _⟩
theorem amV (a b:Bool × ByteArray) (h1:a.2.size<=15000) (h2:b.2.size<=15000):Hid (∀ w,Calls Tryz.prog 67 #[.agg #[.bool a.1,.string a.2],.agg #[.bool b.1,.string b.2]] w fun e w'=>e = .returned (.tuple #[.agg #[.bool (lJ (·+·) a b).1.1,.string (lJ (·+·) a b).1.2],.int .i64 (lJ (·+·) a b).2])/\Below w.heap.size w w') :=
 Lib.hid fun w=>(amQ a.1 a.2 b.1 b.2 h1 h2 w).mono fun e w' h=>SX h
theorem amW (a b:Bool × ByteArray) (h1:a.2.size<=15000) (h2:b.2.size<=15000):Hid (∀ w,Calls Tryz.prog 164 #[.agg #[.bool a.1,.string a.2],.agg #[.bool b.1,.string b.2]] w fun e w'=>e = .returned (.tuple #[.agg #[.bool (lJ (·-·) a b).1.1,.string (lJ (·-·) a b).1.2],.int .i64 (lJ (·-·) a b).2])/\Below w.heap.size w w') :=
 Lib.hid fun w=>(amR a.1 a.2 b.1 b.2 h1 h2 w).mono fun e w' h=>SX h
theorem amX (a b:Bool × ByteArray) (h1:a.2.size<=15000) (h2:b.2.size<=15000):Hid (∀ w,Calls Tryz.prog 100 #[.agg #[.bool a.1,.string a.2],.agg #[.bool b.1,.string b.2]] w fun e w'=>e = .returned (.tuple #[.agg #[.bool (lJ (·*·) a b).1.1,.string (lJ (·*·) a b).1.2],.int .i64 (lJ (·*·) a b).2])/\Below w.heap.size w w') :=
 Lib.hid fun w=>(amS a.1 a.2 b.1 b.2 h1 h2 w).mono fun e w' h=>SX h
def K6:Bool × ByteArray:=(false,⟨#[]⟩)
def uO (a b:Bool × ByteArray):(Bool × ByteArray) × (Bool × ByteArray) × Int :=
 if gJ a.1 a.2 b.1 b.2≠0 then (K6,K6,gJ a.1 a.2 b.1 b.2) else if nv b.2=0 then (K6,K6,3) else (pv (ival a.1 a.2 / ival b.1 b.2),pv (ival a.1 a.2%ival b.1 b.2),0)
theorem al4 (a b:Bool × ByteArray) (h1:a.2.size<=15000) (h2:b.2.size<=15000) (w:World):Calls Tryz.prog 138 #[.agg #[.bool a.1,.string a.2],.agg #[.bool b.1,.string b.2]] w fun e w'=>e = .returned (.tuple #[.agg #[.bool (uO a b).1.1,.string (uO a b).1.2],.agg #[.bool (uO a b).2.1.1,.string (uO a b).2.1.2],.int .i64 (uO a b).2.2])/\Below w.heap.size w w' :=
 (al0 a.1 a.2 b.1 b.2 h1 h2 w).mono fun e w' h=>by
  refine⟨?_,h.2.2.2⟩
  unfold uO
  split
  ·rename_i h0;exact h.1 h0
  ·rename_i h0
   split
   ·rename_i hz;exact h.2.1 (Decidable.not_not.mp h0) hz
   ·rename_i hz;exact h.2.2.1 (Decidable.not_not.mp h0) hz
def BZ (a b:Bool × ByteArray):(Bool × ByteArray) × Int :=
 if gJ a.1 a.2 b.1 b.2≠0 then (K6,gJ a.1 a.2 b.1 b.2) else (pv (Int.gcd (ival a.1 a.2) (ival b.1 b.2):Nat),0)
theorem Mb (n:Bool) (s:ByteArray):(ival n s).natAbs=(nv s).toNat:=by
 have h0:=(jg s).1;unfold ival bk;split <;> omega
theorem al5 (a b:Bool × ByteArray) (h1:a.2.size<=15000) (h2:b.2.size<=15000) (w:World):Calls Tryz.prog 137 #[.agg #[.bool a.1,.string a.2],.agg #[.bool b.1,.string b.2]] w fun e w'=>e = .returned (.tuple #[.agg #[.bool (BZ a b).1.1,.string (BZ a b).1.2],.int .i64 (BZ a b).2])/\Below w.heap.size w w' :=
 (al1 a.1 a.2 b.1 b.2 h1 h2 w).mono fun e w' h=>by
  refine⟨?_,h.2.2⟩
  unfold BZ
  split
  ·rename_i h0;exact h.1 h0
  ·rename_i h0
   rw[h.2.1 (Decidable.not_not.mp h0)]
   have e1:(pv ((Int.gcd (ival a.1 a.2) (ival b.1 b.2):Nat):Int))=(false,dW ((Nat.gcd (nv a.2).toNat (nv b.2).toNat:Nat):Int)):=by
    unfold pv Int.gcd;rw[Mb,Mb,Int.natAbs_natCast];exact congrArg (fun z=>(z,_)) (decide_eq_false aC)
   rw[e1]
abbrev RG:=Bool × ByteArray × ByteArray
def k9 (a:RG):Int:=ival a.1 a.2.1
def eV (a:RG):Int:=nv a.2.2
def rq (a:RG):Rat:=Rat.divInt (k9 a) (eV a)
def pq (q:Rat):RG:=((pv q.num).1,(pv q.num).2,(pv (q.den:Int)).2)
def nor:RG:=(false,⟨#[]⟩,⟨#[]⟩)
def sU (a:RG):Int :=
 if 8000<a.2.1.size\/8000<a.2.2.size then 5
 else if gF a.1 a.2.1≠0\/gF false a.2.2≠0\/a.2.2.size=0\/Int.gcd (k9 a) (eV a)≠1 then 1 else 0
structure gZ (a:RG):Prop where
 sn:a.2.1.size<=8000
 sd:a.2.2.size<=8000
 kn:fC a.1 a.2.1
 kd:fC false a.2.2
 nz:a.2.2.size≠0
 co:Int.gcd (k9 a) (eV a)=1
theorem Bf {a:RG}:sU a=0↔gZ a:=by
 unfold sU;constructor
 ·intro h
  split at h
  ·exact absurd h (by decide)
  ·rename_i h1
   split at h
   ·exact absurd h (by decide)
   ·rename_i h2
    have h3:gF a.1 a.2.1=0:=Decidable.byContradiction fun hc=>h2 (.inl hc);have h4:gF false a.2.2=0:=Decidable.byContradiction fun hc=>h2 (.inr (.inl hc));have h5:a.2.2.size≠0:=fun hc=>h2 (.inr (.inr (.inl hc)));have h6:Int.gcd (k9 a) (eV a)=1:=Decidable.byContradiction fun hc=>h2 (.inr (.inr (.inr hc)));exact⟨by omega,by omega,q9.1 h3,q9.1 h4,h5,h6⟩
 ·intro h
  rw[if_neg (by have:=h.sn;have:=h.sd;omega),if_neg (fun hc=>by
   rcases hc with hc|hc|hc|hc
   ·exact hc (q9.2 h.kn)
   ·exact hc (q9.2 h.kd)
   ·exact h.nz hc
   ·exact hc h.co)]
theorem Nn {s:ByteArray} (h:s.size=0):s=⟨#[]⟩:=by
 cases s with
 | mk d=>exact congrArg ByteArray.mk (Array.eq_empty_of_size_eq_zero h)
theorem YK:pv 0=(false,⟨#[]⟩):=by
 unfold pv dW;rw[show(((0:Int).natAbs:Nat):Int)=0 from rfl,vN];rfl
theorem R6 {v:Int} (h:0<=v):(pv v).1=false:=by
 show decide (v<0)=false;exact decide_eq_false aC
theorem aaR {v:Int} (h:0<=v):pv v=(false,(pv v).2):=by rw[<- R6 h]
theorem YL {v:Int} (h:0<=v):ival false (pv v).2=v:=by have e:=vO v;rw[aaR h]at e;exact e
theorem Ty {v:Int} (h:0<=v):nv (pv v).2=v:=YL h
theorem Z9 {v:Int} (h0:0<=v) (h:(pv v).2.size<=32000):fC false (pv v).2:=by
 have e:=BD h;rw[R6 h0]at e
 exact e
theorem Np {s:ByteArray} {l:List UInt8}:s.toList=l↔s=⟨l.toArray⟩:=by
 rw[ByteArray.toList_eq];constructor
 ·rintro rfl
  rfl
 ·rintro rfl
  rfl
theorem BF {s:ByteArray}:s.toList=([]:List UInt8)↔s.size=0:=by
 rw[Np];exact⟨fun h=>by rw[h];rfl,Nn⟩
theorem acO:pv 1=(false,⟨#[1]⟩):=by decide +kernel
theorem UY:nv (⟨#[1]⟩:ByteArray)=1:=by decide +kernel
theorem xu {n:Nat}:(pv (n:Int)).2.toList=([1]:List UInt8)↔n=1:=by
 rw[Np];constructor
 ·intro h
  have e:=Ty (v:=(n:Int)) aC;rw[h]at e
  have:nv (⟨[1].toArray⟩:ByteArray)=1:=UY;omega
 ·rintro rfl
  exact congrArg Prod.snd acO
theorem R7 {n:Bool} {s:ByteArray} (h:fC n s):fC (!n&&decide (0<s.size)) s :=
 ⟨h.1,h.2.1,fun hc=>by simp at hc;exact hc.2⟩
theorem R8 {n:Bool} {s:ByteArray} (h:fC n s):ival (!n&&decide (0<s.size)) s =-ival n s:=by
 unfold ival bk;by_cases hs:0<s.size
 ·cases n <;> simp[hs]
 ·have e:s=⟨#[]⟩:=Nn aC
  have:nv s=0:=by rw[e];rfl
  have hn:n≠true:=fun hc=>hs (h.2.2 hc);cases n
  ·simp[hs,this]
  ·exact absurd rfl hn
theorem gZ.dp {a:RG} (h:gZ a):0<eV a:=SR h.kd.2.1 (Nat.pos_of_ne_zero h.nz)
theorem gZ.q {a:RG} (h:gZ a):(rq a).num=k9 a/\((rq a).den:Int)=eV a:=by
 have hd:=h.dp;unfold rq;obtain⟨n,hn⟩:∃ n,k9 a=n:=⟨_,rfl⟩
 obtain⟨d,hd2⟩:∃ d:Nat,eV a=(d:Int):=⟨(eV a).toNat,by omega⟩
 have hc:=h.co;rw[hn,hd2]at hc ⊢
 rw[hd2]at hd
 rw[<- Rat.mk_eq_divInt (num:=n) (den:=d) (nz:=by omega) (c:=by
  have:n.natAbs.gcd d=1:=by rw[<- hc];unfold Int.gcd;rw[Int.natAbs_natCast]
  exact this)]
 exact⟨rfl,rfl⟩
theorem R9 (q:Rat):k9 (pq q)=q.num:=vO _
theorem R_ (q:Rat):eV (pq q)=(q.den:Int):=Ty aC
theorem rj (q:Rat):rq (pq q)=q:=by
 unfold rq;rw[R9,R_];exact Rat.num_divInt_den q
theorem SY {q:Rat} (h1:(pq q).2.1.size<=8000) (h2:(pq q).2.2.size<=8000):gZ (pq q):=by
 refine⟨h1,h2,BD (by have:(pv q.num).2.size<=8000:=h1;omega),Z9 aC (by have:(pv (q.den:Int)).2.size<=8000:=h2;omega),fun h=>?_,?_⟩
 ·have e:=R_ q
  have h3:nv (pq q).2.2=0:=by rw[Nn h];rfl
  have h4:eV (pq q)=0:=h3;have:=q.den_pos;omega
 ·rw[R9,R_]
  have:=q.reduced;unfold Int.gcd;rw[Int.natAbs_natCast];exact this
theorem Mz {n d:Int} (hd:0<d):(Rat.divInt n d).num=n / (Int.gcd n d:Nat):=by
 rw[Rat.num_divInt,Int.sign_eq_one_of_pos hd,Int.one_mul,Int.gcd_comm]
theorem MA {n d:Int} (hd:0<d):((Rat.divInt n d).den:Int)=d / (Int.gcd n d:Nat):=by
 rw[Rat.den_divInt,if_neg aC,Int.gcd_comm,Int.natCast_ediv];congr 1
 omega
theorem YM {n d:Int} (hd:0<d):0<Int.gcd n d:=Nat.pos_of_ne_zero fun h=>by have:=(Int.gcd_eq_zero_iff.1 h).2;omega
theorem afJ (n:Int) {d:Int} (hd:0<d):((Rat.divInt n d).num.natAbs:Int)<=(n.natAbs:Int):=by
 rw[Mz hd];have:=Int.natAbs_ediv_le_natAbs n (Int.gcd n d:Nat);omega
theorem afK (n:Int) {d:Int} (hd:0<d):((Rat.divInt n d).den:Int)<=d:=by
 rw[MA hd];exact Int.ediv_le_self _ aC
theorem RD {n d:Int} {k m:Nat} (hd:0<d) (h1:(n.natAbs:Int)<256^k) (h2:d<256^m):(pq (Rat.divInt n d)).2.1.size<=k/\(pq (Rat.divInt n d)).2.2.size<=m :=
 ⟨Dd (Int.lt_of_le_of_lt (afJ n hd) h1),Dd (by have:=afK n hd;omega)⟩
theorem Tz {a b:RG} (ha:gZ a) (hb:gZ b):Rat.divInt (k9 a*eV b+k9 b*eV a) (eV a*eV b)=rq a+rq b :=
 (Rat.divInt_add_divInt _ _ (by have:=ha.dp;omega) (by have:=hb.dp;omega)).symm
theorem aaS {a b:RG} (ha:gZ a) (hb:gZ b):Rat.divInt (k9 a*eV b-k9 b*eV a) (eV a*eV b)=rq a-rq b :=
 (Rat.divInt_sub_divInt _ _ (by have:=ha.dp;omega) (by have:=hb.dp;omega)).symm
theorem NY {a b:RG}:Rat.divInt (k9 a*k9 b) (eV a*eV b)=rq a*rq b:=(Rat.divInt_mul_divInt _ _).symm
def El (p q:Rat):Int:=if p<q then -1 else if q<p then 1 else 0
theorem aml (a1:Bool) (a2:ByteArray) (b1:Bool) (b2:ByteArray) (r1:Bool) (r2:ByteArray) (x:Int)
  (H:Hid (∀ w,Calls Tryz.prog 100 #[.agg #[.bool a1,.string a2],.agg #[.bool b1,.string b2]] w fun e w'=>e = .returned (.tuple #[.agg #[.bool r1,.string r2],.int .i64 x])/\Below w.heap.size w w')) (w:World) :
  Calls Tryz.prog 99 #[.func (.func 100) #[] #[],.agg #[.bool a1,.string a2],.agg #[.bool b1,.string b2]] w fun e w'=>e = .returned (.agg #[.bool r1,.string r2])/\Below w.heap.size w w':=by
 obtain⟨W0,hW0⟩:∃ W0,W0=((w.alloc (.cells #[.bool a1,.string a2] 38)).alloc (.cells #[.bool b1,.string b2] 38)).alloc (.cells #[.bool false,.string ⟨#[]⟩] 38):=⟨_,rfl⟩
 have wT:Below w.heap.size w W0:=by rw[hW0];exact(((Below.refl _ _).alloc (by simp;try omega) _).alloc (by simp;try omega) _).alloc (by simp;try omega) _
 have rJ:W0.cell? ⟨w.heap.size,0,none⟩=some (.bool a1):=by rw[hW0];simp[go_sem]
 have rK:W0.cell? ⟨w.heap.size,1,none⟩=some (.string a2):=by rw[hW0];simp[go_sem]
 have rL:W0.cell? ⟨w.heap.size+1,0,none⟩=some (.bool b1):=by rw[hW0];simp[go_sem]
 have rM:W0.cell? ⟨w.heap.size+1,1,none⟩=some (.string b2):=by rw[hW0];simp[go_sem]
 have oz:W0.cell? ⟨w.heap.size+2,0,none⟩=some (.bool false):=by rw[hW0];simp[go_sem]
 have oA:W0.cell? ⟨w.heap.size+2,1,none⟩=some (.string ⟨#[]⟩):=by rw[hW0];simp[go_sem]
 have oN:W0.heap.size=w.heap.size+3:=by rw[hW0];simp
 have oO:=Lib.hid (show w.heap.size<W0.heap.size by rw[oN];omega);have kC:=Lib.hid (show w.heap.size+1<W0.heap.size by rw[oN];omega);have iU:=Lib.hid (show w.heap.size+2<W0.heap.size by rw[oN];omega);have oG:=Lib.hid hW0;have HB:=Lib.hid wT;clear wT oN hW0;have rz:W0.frozen? ⟨w.heap.size+2,0,none⟩=false:=by rw[oG.out];simp[go_sem]
 have rB:W0.frozen? ⟨w.heap.size+2,1,none⟩=false:=by rw[oG.out];simp[go_sem]
 go_enter Tryz.func99,Tryz.ntmps99;go_wp2_with fail
 rw[<- oG.out];refine(H.out _).mono ?_;rintro e w1 ⟨rfl,hb1⟩;have dX:Below W0.heap.size W0 (w1.alloc (.cells #[.bool r1,.string r2] 38)):=((hb1).alloc (by have:=hb1.size;simp;try omega) _)
 have rN:=(dX.cell (p:=⟨w.heap.size,0,none⟩) oO.out).trans rJ;have rO:=(dX.cell (p:=⟨w.heap.size,1,none⟩) oO.out).trans rK;have rP:=(dX.cell (p:=⟨w.heap.size+1,0,none⟩) kC.out).trans rL;have rQ:=(dX.cell (p:=⟨w.heap.size+1,1,none⟩) kC.out).trans rM;have rR:=(dX.cell (p:=⟨w.heap.size+2,0,none⟩) iU.out).trans oz;have rS:=(dX.cell (p:=⟨w.heap.size+2,1,none⟩) iU.out).trans oA;have oB:(w1.alloc (.cells #[.bool r1,.string r2] 38)).cell? ⟨w1.heap.size,0,none⟩=some (.bool r1):=by simp[go_sem]
 have oC:(w1.alloc (.cells #[.bool r1,.string r2] 38)).cell? ⟨w1.heap.size,1,none⟩=some (.string r2):=by simp[go_sem]
 have rC:=(dX.frozen (p:=⟨w.heap.size+2,0,none⟩) iU.out).trans rz;have rD:=(dX.frozen (p:=⟨w.heap.size+2,1,none⟩) iU.out).trans rB;clear rJ rK rL rM oz oA rz rB;have jC:=Lib.hid dX;have uh:=Lib.hid hb1.size;clear dX hb1;go_wp2
 obtain⟨W1,hW1⟩:∃ W1,W1=w1.alloc (.cells #[.bool r1,.string r2] 38):=⟨_,rfl⟩
 have sx:W1.heap.size=w1.heap.size+1:=by rw[hW1];simp
 rw[<- hW1]at jC ⊢
 rw[<- hW1]at rN rO
 rw[<- hW1]at rP rQ
 rw[<- hW1]at rR rS
 rw[<- hW1]at oB oC
 rw[<- hW1]at rC rD
 obtain⟨g1,hg1⟩:∃ g1,w1.heap.size=g1:=⟨_,rfl⟩
 rw[hg1]at oB oC
 rw[hg1]at sx uh ⊢
 clear hW1 hg1;have oO:=Lib.hid (Nat.lt_of_lt_of_le oO.out jC.out.size);have kC:=Lib.hid (Nat.lt_of_lt_of_le kC.out jC.out.size);have iU:=Lib.hid (Nat.lt_of_lt_of_le iU.out jC.out.size);have Ff:=Lib.hid (show g1<W1.heap.size by rw[sx];omega);clear sx uh;have HB:=Lib.hid (HB.out.trans (jC.out.mono HB.out.size));clear jC;have rJ:=rN;have rK:=rO;have rL:=rP;have rM:=rQ;have oz:=rR;have oA:=rS;have Vp:=oB;have Vq:=oC;have rz:=rC;have rB:=rD;clear rN rO rP rQ rR rS oB oC rC rD;refine bodyPost_ret (by simp[results,Tryz.results99,go_sem,oz,oA];try rfl) rfl ?_;exact⟨rfl,(HB.out.setCell (by simp;try omega) _).setCell (by simp;try omega) _⟩
theorem amm (a1:Bool) (a2:ByteArray) (b1:Bool) (b2:ByteArray) (r1:Bool) (r2:ByteArray) (x:Int)
  (H:Hid (∀ w,Calls Tryz.prog 137 #[.agg #[.bool a1,.string a2],.agg #[.bool b1,.string b2]] w fun e w'=>e = .returned (.tuple #[.agg #[.bool r1,.string r2],.int .i64 x])/\Below w.heap.size w w')) (w:World) :
  Calls Tryz.prog 99 #[.func (.func 137) #[] #[],.agg #[.bool a1,.string a2],.agg #[.bool b1,.string b2]] w fun e w'=>e = .returned (.agg #[.bool r1,.string r2])/\Below w.heap.size w w':=by
 obtain⟨W0,hW0⟩:∃ W0,W0=((w.alloc (.cells #[.bool a1,.string a2] 38)).alloc (.cells #[.bool b1,.string b2] 38)).alloc (.cells #[.bool false,.string ⟨#[]⟩] 38):=⟨_,rfl⟩
 have wT:Below w.heap.size w W0:=by rw[hW0];exact(((Below.refl _ _).alloc (by simp;try omega) _).alloc (by simp;try omega) _).alloc (by simp;try omega) _
 have rJ:W0.cell? ⟨w.heap.size,0,none⟩=some (.bool a1):=by rw[hW0];simp[go_sem]
 have rK:W0.cell? ⟨w.heap.size,1,none⟩=some (.string a2):=by rw[hW0];simp[go_sem]
 have rL:W0.cell? ⟨w.heap.size+1,0,none⟩=some (.bool b1):=by rw[hW0];simp[go_sem]
 have rM:W0.cell? ⟨w.heap.size+1,1,none⟩=some (.string b2):=by rw[hW0];simp[go_sem]
 have oz:W0.cell? ⟨w.heap.size+2,0,none⟩=some (.bool false):=by rw[hW0];simp[go_sem]
 have oA:W0.cell? ⟨w.heap.size+2,1,none⟩=some (.string ⟨#[]⟩):=by rw[hW0];simp[go_sem]
 have oN:W0.heap.size=w.heap.size+3:=by rw[hW0];simp
 have oO:=Lib.hid (show w.heap.size<W0.heap.size by rw[oN];omega);have kC:=Lib.hid (show w.heap.size+1<W0.heap.size by rw[oN];omega);have iU:=Lib.hid (show w.heap.size+2<W0.heap.size by rw[oN];omega);have oG:=Lib.hid hW0;have HB:=Lib.hid wT;clear wT oN hW0;have rz:W0.frozen? ⟨w.heap.size+2,0,none⟩=false:=by rw[oG.out];simp[go_sem]
 have rB:W0.frozen? ⟨w.heap.size+2,1,none⟩=false:=by rw[oG.out];simp[go_sem]
 go_enter Tryz.func99,Tryz.ntmps99;go_wp2_with fail
 rw[<- oG.out];refine(H.out _).mono ?_;rintro e w1 ⟨rfl,hb1⟩;have dX:Below W0.heap.size W0 (w1.alloc (.cells #[.bool r1,.string r2] 38)):=((hb1).alloc (by have:=hb1.size;simp;try omega) _)
 have rN:=(dX.cell (p:=⟨w.heap.size,0,none⟩) oO.out).trans rJ;have rO:=(dX.cell (p:=⟨w.heap.size,1,none⟩) oO.out).trans rK;have rP:=(dX.cell (p:=⟨w.heap.size+1,0,none⟩) kC.out).trans rL;have rQ:=(dX.cell (p:=⟨w.heap.size+1,1,none⟩) kC.out).trans rM;have rR:=(dX.cell (p:=⟨w.heap.size+2,0,none⟩) iU.out).trans oz;have rS:=(dX.cell (p:=⟨w.heap.size+2,1,none⟩) iU.out).trans oA;have oB:(w1.alloc (.cells #[.bool r1,.string r2] 38)).cell? ⟨w1.heap.size,0,none⟩=some (.bool r1):=by simp[go_sem]
 have oC:(w1.alloc (.cells #[.bool r1,.string r2] 38)).cell? ⟨w1.heap.size,1,none⟩=some (.string r2):=by simp[go_sem]
 have rC:=(dX.frozen (p:=⟨w.heap.size+2,0,none⟩) iU.out).trans rz;have rD:=(dX.frozen (p:=⟨w.heap.size+2,1,none⟩) iU.out).trans rB;clear rJ rK rL rM oz oA rz rB;have jC:=Lib.hid dX;have uh:=Lib.hid hb1.size;clear dX hb1;go_wp2
 obtain⟨W1,hW1⟩:∃ W1,W1=w1.alloc (.cells #[.bool r1,.string r2] 38):=⟨_,rfl⟩
 have sx:W1.heap.size=w1.heap.size+1:=by rw[hW1];simp
 rw[<- hW1]at jC ⊢
 rw[<- hW1]at rN rO
 rw[<- hW1]at rP rQ
 rw[<- hW1]at rR rS
 rw[<- hW1]at oB oC
 rw[<- hW1]at rC rD
 obtain⟨g1,hg1⟩:∃ g1,w1.heap.size=g1:=⟨_,rfl⟩
 rw[hg1]at oB oC
 rw[hg1]at sx uh ⊢
 clear hW1 hg1;have oO:=Lib.hid (Nat.lt_of_lt_of_le oO.out jC.out.size);have kC:=Lib.hid (Nat.lt_of_lt_of_le kC.out jC.out.size);have iU:=Lib.hid (Nat.lt_of_lt_of_le iU.out jC.out.size);have Ff:=Lib.hid (show g1<W1.heap.size by rw[sx];omega);clear sx uh;have HB:=Lib.hid (HB.out.trans (jC.out.mono HB.out.size));clear jC;have rJ:=rN;have rK:=rO;have rL:=rP;have rM:=rQ;have oz:=rR;have oA:=rS;have Vp:=oB;have Vq:=oC;have rz:=rC;have rB:=rD;clear rN rO rP rQ rR rS oB oC rC rD;refine bodyPost_ret (by simp[results,Tryz.results99,go_sem,oz,oA];try rfl) rfl ?_;exact⟨rfl,(HB.out.setCell (by simp;try omega) _).setCell (by simp;try omega) _⟩
theorem amn (a1:Bool) (a2:ByteArray) (b1:Bool) (b2:ByteArray) (r1:Bool) (r2:ByteArray) (x:Int)
  (H:Hid (∀ w,Calls Tryz.prog 67 #[.agg #[.bool a1,.string a2],.agg #[.bool b1,.string b2]] w fun e w'=>e = .returned (.tuple #[.agg #[.bool r1,.string r2],.int .i64 x])/\Below w.heap.size w w')) (w:World) :
  Calls Tryz.prog 99 #[.func (.func 67) #[] #[],.agg #[.bool a1,.string a2],.agg #[.bool b1,.string b2]] w fun e w'=>e = .returned (.agg #[.bool r1,.string r2])/\Below w.heap.size w w':=by
 obtain⟨W0,hW0⟩:∃ W0,W0=((w.alloc (.cells #[.bool a1,.string a2] 38)).alloc (.cells #[.bool b1,.string b2] 38)).alloc (.cells #[.bool false,.string ⟨#[]⟩] 38):=⟨_,rfl⟩
 have wT:Below w.heap.size w W0:=by rw[hW0];exact(((Below.refl _ _).alloc (by simp;try omega) _).alloc (by simp;try omega) _).alloc (by simp;try omega) _
 have rJ:W0.cell? ⟨w.heap.size,0,none⟩=some (.bool a1):=by rw[hW0];simp[go_sem]
 have rK:W0.cell? ⟨w.heap.size,1,none⟩=some (.string a2):=by rw[hW0];simp[go_sem]
 have rL:W0.cell? ⟨w.heap.size+1,0,none⟩=some (.bool b1):=by rw[hW0];simp[go_sem]
 have rM:W0.cell? ⟨w.heap.size+1,1,none⟩=some (.string b2):=by rw[hW0];simp[go_sem]
 have oz:W0.cell? ⟨w.heap.size+2,0,none⟩=some (.bool false):=by rw[hW0];simp[go_sem]
 have oA:W0.cell? ⟨w.heap.size+2,1,none⟩=some (.string ⟨#[]⟩):=by rw[hW0];simp[go_sem]
 have oN:W0.heap.size=w.heap.size+3:=by rw[hW0];simp
 have oO:=Lib.hid (show w.heap.size<W0.heap.size by rw[oN];omega);have kC:=Lib.hid (show w.heap.size+1<W0.heap.size by rw[oN];omega);have iU:=Lib.hid (show w.heap.size+2<W0.heap.size by rw[oN];omega);have oG:=Lib.hid hW0;have HB:=Lib.hid wT;clear wT oN hW0;have rz:W0.frozen? ⟨w.heap.size+2,0,none⟩=false:=by rw[oG.out];simp[go_sem]
 have rB:W0.frozen? ⟨w.heap.size+2,1,none⟩=false:=by rw[oG.out];simp[go_sem]
 go_enter Tryz.func99,Tryz.ntmps99;go_wp2_with fail
 rw[<- oG.out];refine(H.out _).mono ?_;rintro e w1 ⟨rfl,hb1⟩;have dX:Below W0.heap.size W0 (w1.alloc (.cells #[.bool r1,.string r2] 38)):=((hb1).alloc (by have:=hb1.size;simp;try omega) _)
 have rN:=(dX.cell (p:=⟨w.heap.size,0,none⟩) oO.out).trans rJ;have rO:=(dX.cell (p:=⟨w.heap.size,1,none⟩) oO.out).trans rK;have rP:=(dX.cell (p:=⟨w.heap.size+1,0,none⟩) kC.out).trans rL;have rQ:=(dX.cell (p:=⟨w.heap.size+1,1,none⟩) kC.out).trans rM;have rR:=(dX.cell (p:=⟨w.heap.size+2,0,none⟩) iU.out).trans oz;have rS:=(dX.cell (p:=⟨w.heap.size+2,1,none⟩) iU.out).trans oA;have oB:(w1.alloc (.cells #[.bool r1,.string r2] 38)).cell? ⟨w1.heap.size,0,none⟩=some (.bool r1):=by simp[go_sem]
 have oC:(w1.alloc (.cells #[.bool r1,.string r2] 38)).cell? ⟨w1.heap.size,1,none⟩=some (.string r2):=by simp[go_sem]
 have rC:=(dX.frozen (p:=⟨w.heap.size+2,0,none⟩) iU.out).trans rz;have rD:=(dX.frozen (p:=⟨w.heap.size+2,1,none⟩) iU.out).trans rB;clear rJ rK rL rM oz oA rz rB;have jC:=Lib.hid dX;have uh:=Lib.hid hb1.size;clear dX hb1;go_wp2
 obtain⟨W1,hW1⟩:∃ W1,W1=w1.alloc (.cells #[.bool r1,.string r2] 38):=⟨_,rfl⟩
 have sx:W1.heap.size=w1.heap.size+1:=by rw[hW1];simp
 rw[<- hW1]at jC ⊢
 rw[<- hW1]at rN rO
 rw[<- hW1]at rP rQ
 rw[<- hW1]at rR rS
 rw[<- hW1]at oB oC
 rw[<- hW1]at rC rD
 obtain⟨g1,hg1⟩:∃ g1,w1.heap.size=g1:=⟨_,rfl⟩
 rw[hg1]at oB oC
 rw[hg1]at sx uh ⊢
 clear hW1 hg1;have oO:=Lib.hid (Nat.lt_of_lt_of_le oO.out jC.out.size);have kC:=Lib.hid (Nat.lt_of_lt_of_le kC.out jC.out.size);have iU:=Lib.hid (Nat.lt_of_lt_of_le iU.out jC.out.size);have Ff:=Lib.hid (show g1<W1.heap.size by rw[sx];omega);clear sx uh;have HB:=Lib.hid (HB.out.trans (jC.out.mono HB.out.size));clear jC;have rJ:=rN;have rK:=rO;have rL:=rP;have rM:=rQ;have oz:=rR;have oA:=rS;have Vp:=oB;have Vq:=oC;have rz:=rC;have rB:=rD;clear rN rO rP rQ rR rS oB oC rC rD;refine bodyPost_ret (by simp[results,Tryz.results99,go_sem,oz,oA];try rfl) rfl ?_;exact⟨rfl,(HB.out.setCell (by simp;try omega) _).setCell (by simp;try omega) _⟩
theorem amo (a1:Bool) (a2:ByteArray) (b1:Bool) (b2:ByteArray) (r1:Bool) (r2:ByteArray) (x:Int)
  (H:Hid (∀ w,Calls Tryz.prog 164 #[.agg #[.bool a1,.string a2],.agg #[.bool b1,.string b2]] w fun e w'=>e = .returned (.tuple #[.agg #[.bool r1,.string r2],.int .i64 x])/\Below w.heap.size w w')) (w:World) :
  Calls Tryz.prog 99 #[.func (.func 164) #[] #[],.agg #[.bool a1,.string a2],.agg #[.bool b1,.string b2]] w fun e w'=>e = .returned (.agg #[.bool r1,.string r2])/\Below w.heap.size w w':=by
 obtain⟨W0,hW0⟩:∃ W0,W0=((w.alloc (.cells #[.bool a1,.string a2] 38)).alloc (.cells #[.bool b1,.string b2] 38)).alloc (.cells #[.bool false,.string ⟨#[]⟩] 38):=⟨_,rfl⟩
 have wT:Below w.heap.size w W0:=by rw[hW0];exact(((Below.refl _ _).alloc (by simp;try omega) _).alloc (by simp;try omega) _).alloc (by simp;try omega) _
 have rJ:W0.cell? ⟨w.heap.size,0,none⟩=some (.bool a1):=by rw[hW0];simp[go_sem]
 have rK:W0.cell? ⟨w.heap.size,1,none⟩=some (.string a2):=by rw[hW0];simp[go_sem]
 have rL:W0.cell? ⟨w.heap.size+1,0,none⟩=some (.bool b1):=by rw[hW0];simp[go_sem]
 have rM:W0.cell? ⟨w.heap.size+1,1,none⟩=some (.string b2):=by rw[hW0];simp[go_sem]
 have oz:W0.cell? ⟨w.heap.size+2,0,none⟩=some (.bool false):=by rw[hW0];simp[go_sem]
 have oA:W0.cell? ⟨w.heap.size+2,1,none⟩=some (.string ⟨#[]⟩):=by rw[hW0];simp[go_sem]
 have oN:W0.heap.size=w.heap.size+3:=by rw[hW0];simp
 have oO:=Lib.hid (show w.heap.size<W0.heap.size by rw[oN];omega);have kC:=Lib.hid (show w.heap.size+1<W0.heap.size by rw[oN];omega);have iU:=Lib.hid (show w.heap.size+2<W0.heap.size by rw[oN];omega);have oG:=Lib.hid hW0;have HB:=Lib.hid wT;clear wT oN hW0;have rz:W0.frozen? ⟨w.heap.size+2,0,none⟩=false:=by rw[oG.out];simp[go_sem]
 have rB:W0.frozen? ⟨w.heap.size+2,1,none⟩=false:=by rw[oG.out];simp[go_sem]
 go_enter Tryz.func99,Tryz.ntmps99;go_wp2_with fail
 rw[<- oG.out];refine(H.out _).mono ?_;rintro e w1 ⟨rfl,hb1⟩;have dX:Below W0.heap.size W0 (w1.alloc (.cells #[.bool r1,.string r2] 38)):=((hb1).alloc (by have:=hb1.size;simp;try omega) _)
 have rN:=(dX.cell (p:=⟨w.heap.size,0,none⟩) oO.out).trans rJ;have rO:=(dX.cell (p:=⟨w.heap.size,1,none⟩) oO.out).trans rK;have rP:=(dX.cell (p:=⟨w.heap.size+1,0,none⟩) kC.out).trans rL;have rQ:=(dX.cell (p:=⟨w.heap.size+1,1,none⟩) kC.out).trans rM;have rR:=(dX.cell (p:=⟨w.heap.size+2,0,none⟩) iU.out).trans oz;have rS:=(dX.cell (p:=⟨w.heap.size+2,1,none⟩) iU.out).trans oA;have oB:(w1.alloc (.cells #[.bool r1,.string r2] 38)).cell? ⟨w1.heap.size,0,none⟩=some (.bool r1):=by simp[go_sem]
 have oC:(w1.alloc (.cells #[.bool r1,.string r2] 38)).cell? ⟨w1.heap.size,1,none⟩=some (.string r2):=by simp[go_sem]
 have rC:=(dX.frozen (p:=⟨w.heap.size+2,0,none⟩) iU.out).trans rz;have rD:=(dX.frozen (p:=⟨w.heap.size+2,1,none⟩) iU.out).trans rB;clear rJ rK rL rM oz oA rz rB;have jC:=Lib.hid dX;have uh:=Lib.hid hb1.size;clear dX hb1;go_wp2
 obtain⟨W1,hW1⟩:∃ W1,W1=w1.alloc (.cells #[.bool r1,.string r2] 38):=⟨_,rfl⟩
 have sx:W1.heap.size=w1.heap.size+1:=by rw[hW1];simp
 rw[<- hW1]at jC ⊢
 rw[<- hW1]at rN rO
 rw[<- hW1]at rP rQ
 rw[<- hW1]at rR rS
 rw[<- hW1]at oB oC
 rw[<- hW1]at rC rD
 obtain⟨g1,hg1⟩:∃ g1,w1.heap.size=g1:=⟨_,rfl⟩
 rw[hg1]at oB oC
 rw[hg1]at sx uh ⊢
 clear hW1 hg1;have oO:=Lib.hid (Nat.lt_of_lt_of_le oO.out jC.out.size);have kC:=Lib.hid (Nat.lt_of_lt_of_le kC.out jC.out.size);have iU:=Lib.hid (Nat.lt_of_lt_of_le iU.out jC.out.size);have Ff:=Lib.hid (show g1<W1.heap.size by rw[sx];omega);clear sx uh;have HB:=Lib.hid (HB.out.trans (jC.out.mono HB.out.size));clear jC;have rJ:=rN;have rK:=rO;have rL:=rP;have rM:=rQ;have oz:=rR;have oA:=rS;have Vp:=oB;have Vq:=oC;have rz:=rC;have rB:=rD;clear rN rO rP rQ rR rS oB oC rC rD;refine bodyPost_ret (by simp[results,Tryz.results99,go_sem,oz,oA];try rfl) rfl ?_;exact⟨rfl,(HB.out.setCell (by simp;try omega) _).setCell (by simp;try omega) _⟩
structure BW (w0:World) where
 w:World
 h:Below w0.heap.size w0 w
instance (w0:World):Inhabited (BW w0):=⟨⟨w0,Below.refl _ _⟩⟩
theorem Rk {P:Program} {id:Nat} {Q:Exit->Act->World->Prop} {a:Act} (w:World) {l:List Oper} (hm:P.follows .mixedOrders=true) (hB:Region.lexB .any l.toArray=true)
  (h:wpQuiet P l.toArray (fun w'=>∃ p:BW w,w'=p.w) (fun a'=>∀ w',(∃ p:BW w,w'=p.w)->Q .normal a' w') l a):(Code.region id l.toArray true).wp P Q a w :=
 wp_region_quiet (C:=fun w'=>∃ p:BW w,w'=p.w) hm hB ⟨⟨_,(Below.refl w.heap.size w).drew⟩,rfl⟩ (by simpa using h)
theorem gQ {w:World} {a:Addr} {v:Value} (h:w.cell? a=some v) (p:BW w):p.w.cell? a=some v:=(p.h.cell (World.block_lt_of_cell? _ _ h)).trans h
theorem SD {w:World} {P:Program} {f:FuncId} {args:Array Value} {v:Value} (h:∀ W,Below w.heap.size w W->Calls P f args W fun e w'=>e = .returned v/\Below W.heap.size W w') (p:BW w) :
  Calls P f args p.w fun e w''=>e = .returned v/\∃ q:BW w,w''=q.w :=
 (h p.w p.h).mono fun _ w' ⟨he,hb⟩=>⟨he,⟨w',p.h.trans (hb.mono p.h.size)⟩,rfl⟩
end Go.Proofs.YtcmepkhjggpmeaaGreat
