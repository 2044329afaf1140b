import Derived.Test.YtfcjnhkkfmgmpaaGreatZtG8
set_option linter.all false
set_option maxRecDepth 100000
set_option maxHeartbeats 8000000
namespace Go.Proofs.YtfcjnhkkfmgmpaaGreat
open Go.RowKit aS
structure Wv (w:World) (g i:Nat) (n:Bool) (s:ByteArray) (g1 k1:Nat) (r1:List Int):Prop where
 c0:w.cell? ⟨g,i,none⟩=some (.bool n)
 c1:w.cell? ⟨g,i+1,none⟩=some (.slice (some ⟨g1,0,none⟩) k1 k1)
 f0:w.frozen? ⟨g,i,none⟩=false
 len:r1.length=k1
 le:k1<=4000
 row:RL w (some ⟨g1,0,none⟩) r1
 bL:aH r1
 tr:Tr r1
 val:lv r1=nv s
def apa (n1:Bool) (s1:ByteArray) (n2:Bool) (s2:ByteArray) (w:World) (e:Ending) (w':World):Prop :=
 ∃ g c g1 k1 r1 g2 k2 r2,e = .returned (.tuple #[.slice (some ⟨g,0,none⟩) 2 c,.int .i64 0])/\w.heap.size<=g/\2<=c/\Wv w' g 0 n1 s1 g1 k1 r1/\Wv w' g 2 n2 s2 g2 k2 r2/\Below w.heap.size w w'
theorem aa0 {w0 base k:Nat} {w:World} {g:Nat} {cur:Array Value} {rs:List (Value × Value)} {t:TypeId} (hg:w.heap[g]?=some (.cells cur t (0,0))) (ht:cur.toList.take (k*2)=flat rs) (j:Nat) (p:Bool × ByteArray) (q:Value × Value) (hq:rs[j]?=some q) (ho:LU base w p q) :
  ∃ g1 k1 r1,Wv w g (j*2) p.1 p.2 g1 k1 r1:=by
 obtain⟨h1,g1,n1,r,h2,hb,h3,h4,h5,h6,h7,h8⟩:=ho;have hf:∀ (l:List (Value × Value)) (j:Nat) (q:Value × Value),l[j]?=some q->(flat l)[j*2]?=some q.1/\(flat l)[j*2+1]?=some q.2:=by
  intro l;induction l with
  | nil=>intro j q h;simp at h
  | cons a l ih =>
   intro j q h;cases j with
   | zero=>simp at h;subst h;exact⟨rfl,rfl⟩
   | succ j =>
    rw[List.getElem?_cons_succ]at h
    have:=ih j q h;have e:flat (a::l)=a.1::a.2::flat l:=by simp[flat]
    rw[e,show(j+1)*2=j*2+2 by omega];exact this
 obtain⟨f1,f2⟩:=hf rs j q hq;rw[<- ht,List.getElem?_take]at f1 f2
 split at f1 <;> try contradiction
 split at f2 <;> try contradiction
 refine⟨g1,n1,r,?_,?_,?_,h3,h4,h5.RL aD,h6,h7,h8⟩
 ·unfold World.cell?
  rw[show w.heap[(⟨g,j*2,none⟩:Addr).block]?=_ from hg];rw[h1]at f1
  simpa using f1
 ·unfold World.cell?
  rw[show w.heap[(⟨g,j*2+1,none⟩:Addr).block]?=_ from hg];rw[h2]at f2
  simpa using f2
 ·unfold World.frozen?
  rw[show w.heap[(⟨g,j*2,none⟩:Addr).block]?=_ from hg];simp
theorem KQ (n1:Bool) (s1:ByteArray) (n2:Bool) (s2:ByteArray) (g c:Nat) (w:World) (h0:w.cell? ⟨g,0,none⟩=some (.bool n1)) (h1:w.cell? ⟨g,1,none⟩=some (.string s1)) (h2:w.cell? ⟨g,2,none⟩=some (.bool n2)) (h3:w.cell? ⟨g,3,none⟩=some (.string s2)) (hk1:fX n1 s1) (hk2:fX n2 s2) :
  Calls Tryz.prog 117 #[.slice (some ⟨g,0,none⟩) 2 c] w (apa n1 s1 n2 s2 w):=by
 refine(alx ⟨g,0,none⟩ [(n1,s1),(n2,s2)] 2 c rfl aD w ?_ ?_).mono ?_
 ·intro j n s h
  match j,h with
  | 0,h=>simp at h;obtain⟨rfl,rfl⟩:=h;exact⟨by simpa [Addr.add] using h0,by simpa [Addr.add] using h1⟩
  | 1,h=>simp at h;obtain⟨rfl,rfl⟩:=h;exact⟨by simpa [Addr.add] using h2,by simpa [Addr.add] using h3⟩
  | j+2,h=>simp at h
 ·intro p hp
  simp at hp;rcases hp with rfl|rfl
  ·exact hk1
  ·exact hk2
 ·rintro e w' ⟨v,rs,rfl,own,len,ok,eM⟩
  obtain⟨hl,⟨-,h⟩|⟨g',cap,cur,rfl,hb,hh,hc,_,_,ht⟩⟩:=own
  ·omega
  ·obtain⟨a,ha⟩:∃ a,rs[0]?=some a:=⟨_,List.getElem?_eq_getElem aD⟩
   obtain⟨b,hb'⟩:∃ a,rs[1]?=some a:=⟨_,List.getElem?_eq_getElem aD⟩
   obtain⟨g1,k1,r1,q1⟩:=aa0 (w0:=0) hh ht 0 (n1,s1) a ha (ok 0 _ _ aD rfl ha);obtain⟨g2,k2,r2,q2⟩:=aa0 (w0:=0) hh ht 1 (n2,s2) b hb' (ok 1 _ _ aD rfl hb');exact⟨g',cap,g1,k1,r1,g2,k2,r2,rfl,hb,hc,q1,q2,eM⟩
def iz (n1:Bool) (s1:ByteArray) (n2:Bool) (s2:ByteArray):Int:=if ij n1 s1≠0 then ij n1 s1 else ij n2 s2
theorem Cr {n1:Bool} {s1:ByteArray} {n2:Bool} {s2:ByteArray}:iz n1 s1 n2 s2=0↔fX n1 s1/\fX n2 s2:=by
 unfold iz;rw[<- sw,<- sw];split
 ·constructor
  ·intro h;contradiction
  ·intro h;exact h.1
 ·rename_i h
  have h0:ij n1 s1=0:=Decidable.not_not.1 h;exact⟨fun h=>⟨h0,h⟩,fun h=>h.2⟩
theorem KB (n1:Bool) (s1:ByteArray) (n2:Bool) (s2:ByteArray) (g c:Nat) (w:World) (h0:w.cell? ⟨g,0,none⟩=some (.bool n1)) (h1:w.cell? ⟨g,1,none⟩=some (.string s1)) (h2:w.cell? ⟨g,2,none⟩=some (.bool n2)) (h3:w.cell? ⟨g,3,none⟩=some (.string s2)) (hb:iz n1 s1 n2 s2≠0) :
  Calls Tryz.prog 117 #[.slice (some ⟨g,0,none⟩) 2 c] w fun e w'=>e = .returned (.tuple #[.slice none 0 0,.int .i64 (iz n1 s1 n2 s2)])/\Below w.heap.size w w':=by
 have ha:Wt w ⟨g,0,none⟩ [(n1,s1),(n2,s2)]:=by
  intro j n s h;match j,h with
  | 0,h=>simp at h;obtain⟨rfl,rfl⟩:=h;exact⟨by simpa [Addr.add] using h0,by simpa [Addr.add] using h1⟩
  | 1,h=>simp at h;obtain⟨rfl,rfl⟩:=h;exact⟨by simpa [Addr.add] using h2,by simpa [Addr.add] using h3⟩
  | j+2,h=>simp at h
 unfold iz at *;split at hb
 ·rename_i hc
  rw[if_pos hc];exact aaZ ⟨g,0,none⟩ _ 2 c rfl aD w ha 0 n1 s1 rfl hc (fun j p h=>by omega)
 ·rename_i hc
  rw[if_neg hc];refine aaZ ⟨g,0,none⟩ _ 2 c rfl aD w ha 1 n2 s2 rfl hb (fun j p h hp=>?_);have:j=0:=by omega
  subst this;simp at hp;subst hp;exact sw.1 (Decidable.not_not.1 hc)
def ival (n:Bool) (s:ByteArray):Int:=bF n (nv s)
def qC (v:Int):Value := .agg #[.bool (decide (v<0)),.string (eF (v.natAbs:Int))]
def F6 (f:Int->Int->Int) (n1:Bool) (s1:ByteArray) (n2:Bool) (s2:ByteArray) (w:World) (e:Ending) (w':World):Prop :=
 (iz n1 s1 n2 s2≠0->e = .returned (.tuple #[.agg #[.bool false,.string ⟨#[]⟩],.int .i64 (iz n1 s1 n2 s2)])) /\
 (iz n1 s1 n2 s2=0->e = .returned (.tuple #[qC (f (ival n1 s1) (ival n2 s2)),.int .i64 0]))/\Below w.heap.size w w'
theorem ID {n:Bool} {r:List Int} {v:Int} (hl:aH r) (h:bF n (lv r)=v):Value.agg #[.bool (decide (bF n (lv r)<0)),.string (eF (lv r))]=qC v:=by
 have:=(dF hl).1;unfold qC;rw[h];have e:lv r=(v.natAbs:Int):=by
  unfold bF at h;split at h <;> omega
 rw[e]
theorem V0 {n:Bool} {r:List Int} {v:Int} (hl:aH r) (h:bF n (lv r)=v):lv r=(v.natAbs:Int):=by
 have:=(dF hl).1;unfold bF at h;split at h <;> omega
theorem ou {s:ByteArray} {k:Nat} (h:s.size<=k):nv s<256^k:=by
 have:=(jM s).2;have h2:=ug h;omega
structure Fits (v:Int):Prop where mk::(out:(v.natAbs:Int)<B^4000)
theorem Vd (n:Bool) (s:ByteArray):bF n (nv s)=ival n s:=rfl
theorem KC {r:List Int} {v:Int} {n:Bool} (hl:aH r) (ht:Tr r) (hv:bF n (lv r)=v) (h:Fits v):r.length<=4000:=by
 have h:=h.out;apply iu ht hl;have:=(dF hl).1;have e:lv r=(v.natAbs:Int):=by
  unfold bF at hv;split at hv <;> omega
 omega
theorem V1 (k:Nat):B^k=256^(8*k):=by
 rw[show B=256^8 from by decide,<- Int.pow_mul]
theorem IE {n:Bool} {v:Int} (h:0<=v):((bF n v).natAbs:Int)=v:=by
 unfold bF;split <;> omega
theorem ajk {n1 n2:Bool} {s1 s2:ByteArray} {K M:Nat} (h1:s1.size<=K) (h2:s2.size<=K) (hM:K+1<=8*M):((ival n1 s1+ival n2 s2).natAbs:Int)<B^M:=by
 rw[V1];have a1:=(jM s1).1;have a2:=(jM s2).1;have b1:=ou h1;have b2:=ou h2;have e1:=IE (n:=n1) a1;have e2:=IE (n:=n2) a2;have h3:=ug hM;have h4:=Ys K;unfold ival at *;generalize (256:Int)^(8*M)=u at *;generalize (256:Int)^(K+1)=u at *;generalize (256:Int)^K=u at *;omega
theorem ajl {n1 n2:Bool} {s1 s2:ByteArray} {K M:Nat} (h1:s1.size<=K) (h2:s2.size<=K) (hM:K+K<=8*M):((ival n1 s1*ival n2 s2).natAbs:Int)<B^M:=by
 rw[V1];have a1:=(jM s1).1;have a2:=(jM s2).1;have b1:=ou h1;have b2:=ou h2;have e1:=IE (n:=n1) a1;have e2:=IE (n:=n2) a2;have h3:=ug hM;rw[Int.pow_add]at h3
 have hp:=Yp K;unfold ival;rw[Int.natAbs_mul,Int.natCast_mul,e1,e2];generalize (256:Int)^(8*M)=u at *;generalize (256:Int)^K=z at *;have h5:nv s1*nv s2<=nv s1*z:=Int.mul_le_mul_of_nonneg_left aD a1;have h6:nv s1*z<z*z:=Int.mul_lt_mul_of_pos_right b1 hp;omega
theorem aaO {n1 n2:Bool} {s1 s2:ByteArray} (h1:s1.size<=15000) (h2:s2.size<=15000):Fits (ival n1 s1+ival n2 s2):=⟨ajk h1 h2 aD⟩
theorem ajC {n1 n2:Bool} {s1 s2:ByteArray} (h1:s1.size<=15000) (h2:s2.size<=15000):Fits (ival n1 s1*ival n2 s2):=⟨ajl h1 h2 aD⟩
theorem RL.heap {w w':World} {A:Option Addr} {l:List Int} (h:RL w A l) (he:w'.heap=w.heap):RL w' A l:=by
 refine⟨h.1,fun hn=>?_⟩;obtain⟨ad,e,hc⟩:=h.2 hn;refine⟨ad,e,fun j hj=>?_⟩;unfold World.cell?;rw[he];exact hc j hj
theorem fq {B C:Nat} {a b b' c:World} (h:Below B a b) (k:Below C b' c) (hB:B<=C) (e1:b'.os=b.os) (e2:b'.tape=b.tape) (e3:b'.output=b.output) (e4:b'.heap=b.heap):Below B a c :=
 ⟨k.os.trans (e1.trans h.os),k.tape.trans (e2.trans h.tape),k.output.trans (e3.trans h.output),Nat.le_trans h.size (by rw[<- e4];exact k.size),fun i hi=>(k.block i aD).trans ((congrArg (fun x:Array Obj=>x[i]?) e4).trans (h.block i hi))⟩
theorem ap6 (n1:Bool) (s1:ByteArray) (n2:Bool) (s2:ByteArray) (h1:s1.size<=15000) (h2:s2.size<=15000) (w:World) :
  Calls Tryz.prog 114 #[.agg #[.bool n1,.string s1],.agg #[.bool n2,.string s2]] w (F6 (·+·) n1 s1 n2 s2 w):=by
 obtain⟨w4,hw4⟩:∃ w4,w4=(((w.alloc (.cells #[.bool n1,.string s1] 38)).alloc (.cells #[.bool n2,.string s2] 38)).alloc (.cells #[.bool false,.string ⟨#[]⟩] 38)).alloc (.cells #[.bool n1,.string s1,.bool n2,.string s2] 38):=⟨_,rfl⟩
 have hb4:Below w.heap.size w w4:=by rw[hw4];exact((((Below.refl _ _).alloc (Nat.le_refl _) _).alloc (by simp) _).alloc (by simp;omega) _).alloc (by simp;omega) _
 have d0:w4.cell? ⟨w.heap.size+3,0,none⟩=some (.bool n1):=by rw[hw4];simp[go_sem]
 have d1:w4.cell? ⟨w.heap.size+3,1,none⟩=some (.string s1):=by rw[hw4];simp[go_sem]
 have d2:w4.cell? ⟨w.heap.size+3,2,none⟩=some (.bool n2):=by rw[hw4];simp[go_sem]
 have d3:w4.cell? ⟨w.heap.size+3,3,none⟩=some (.string s2):=by rw[hw4];simp[go_sem]
 have d4:w4.cell? ⟨w.heap.size+2,0,none⟩=some (.bool false):=by rw[hw4];simp[go_sem]
 have d5:w4.cell? ⟨w.heap.size+2,1,none⟩=some (.string ⟨#[]⟩):=by rw[hw4];simp[go_sem]
 have d6:w4.frozen? ⟨w.heap.size+2,0,none⟩=false:=by rw[hw4];simp[go_sem]
 have d7:w4.frozen? ⟨w.heap.size+2,1,none⟩=false:=by rw[hw4];simp[go_sem]
 have hsz:w4.heap.size=w.heap.size+4:=by rw[hw4];simp
 have hkk:∀ (w':World) (h:Below w4.heap.size w4 w'),w'.cell? ⟨w.heap.size+2,0,none⟩=some (.bool false)/\w'.cell? ⟨w.heap.size+2,1,none⟩=some (.string ⟨#[]⟩)/\w'.frozen? ⟨w.heap.size+2,0,none⟩=false/\w'.frozen? ⟨w.heap.size+2,1,none⟩=false :=
  fun w' h=>⟨(h.cell (by simp[hsz])).trans d4,(h.cell (by simp[hsz])).trans d5,(h.frozen (by simp[hsz])).trans d6,(h.frozen (by simp[hsz])).trans d7⟩
 have HW:=Lib.hid hw4;have HS:=Lib.hid hb4;have ew:=Lib.hid hsz;have HK:=Lib.hid hkk;unfold F6;by_cases hb:iz n1 s1 n2 s2=0
 ·obtain⟨k1,k2⟩:=Cr.1 hb
  rw[hb];have HC:=Lib.hid (KQ n1 s1 n2 s2 _ 2 w4 d0 d1 d2 d3 k1 k2);have HV:=Lib.hid (aaO (n1:=n1) (n2:=n2) h1 h2);clear d0 d1 d2 d3 d4 d5 d6 d7 hsz hkk hb4 hw4 hb k1 k2 h1 h2;go_enter Tryz.func114,Tryz.ntmps114;go_wp2_with fail
  rw[<- HW.out];refine(HC.out).mono ?_;rintro e w' ⟨g,c,g1,k1,r1,g2,k2,r2,rfl,hg,hc,N1,N2,hbr⟩;have hsc:=fun (w5:World) (h5:w5.heap=w'.heap)=>QB n1 n2 (some ⟨g1,0,none⟩) (some ⟨g2,0,none⟩) k1 k2 k1 k2 r1 r2 N1.len N2.len N1.le N2.le (Nat.le_refl _) (Nat.le_refl _) w5 (N1.row.heap h5) (N2.row.heap h5) N1.bL N2.bL;rw[N1.val,N2.val,Vd,Vd]at hsc
  have HC:=Lib.hid hsc;have c0:=N1.c0;have c1:=N1.c1;have c2:=N2.c0;have c3:=N2.c1;obtain⟨e0,e1,e2,e3⟩:=HK.out _ hbr;have hg2:g<w'.heap.size:=World.block_lt_of_cell? w' _ c0;have HR:=Lib.hid (HS.out.trans (hbr.mono (by rw[ew.out];omega)));have HL:=Lib.hid (show w.heap.size+2<w'.heap.size by have:=hbr.size;rw[ew.out]at this;omega);have hne:¬ g=w.heap.size+1+1:=by have h1:=ew.out;omega
  clear hsc hg hbr N1 N2;go_wp2
  go_region_held3 (fun w'=>w'.cell? ⟨g,0,none⟩=some (.bool n1)/\w'.cell? ⟨g,1,none⟩=some (.slice (some ⟨g1,0,none⟩) k1 k1)/\w'.cell? ⟨g,2,none⟩=some (.bool n2)/\w'.cell? ⟨g,3,none⟩=some (.slice (some ⟨g2,0,none⟩) k2 k2)) (first|go_keep|exact⟨y0,y1,y2,y3⟩|exact⟨(cell_far _ _ _ _ _ _ hne).trans ((cell_far _ _ _ _ _ _ hne).trans y0),(cell_far _ _ _ _ _ _ hne).trans ((cell_far _ _ _ _ _ _ hne).trans y1),(cell_far _ _ _ _ _ _ hne).trans ((cell_far _ _ _ _ _ _ hne).trans y2),(cell_far _ _ _ _ _ _ hne).trans ((cell_far _ _ _ _ _ _ hne).trans y3)⟩|exact⟨z0,z1,z2,z3⟩) (first|(go_at_call 124;go_must (refine(HC.out _ (by rfl)).mono ?_;rintro e w2 ⟨n,x,r,rfl,hr,hlr,dD,fY,hbr⟩;obtain⟨A,cc,rfl,hrc,hrl⟩:=hr;have z0:=(hbr.cell (p:=⟨g,0,none⟩) hg2).trans c0;have z1:=(hbr.cell (p:=⟨g,1,none⟩) hg2).trans c1;have z2:=(hbr.cell (p:=⟨g,2,none⟩) hg2).trans c2;have z3:=(hbr.cell (p:=⟨g,3,none⟩) hg2).trans c3;have p0:=(hbr.cell (p:=⟨w.heap.size+2,0,none⟩) HL.out).trans e0;have p1:=(hbr.cell (p:=⟨w.heap.size+2,1,none⟩) HL.out).trans e1;have p2:=(hbr.frozen (p:=⟨w.heap.size+2,0,none⟩) HL.out).trans e2;have p3:=(hbr.frozen (p:=⟨w.heap.size+2,1,none⟩) HL.out).trans e3;have cZ:=fq HR.out hbr HR.out.size rfl rfl rfl rfl;have hg3:=Nat.lt_of_lt_of_le hg2 hbr.size;have gX:=Nat.lt_of_lt_of_le HL.out hbr.size;clear hbr))|(go_at_call 119;go_must (refine(yS _ _ _ _ r rfl (KC hlr dD fY HV.out) hrc _ (by exact hrl) hlr).mono ?_;rintro e w3 ⟨rfl,bS⟩;have y0:=(bS.cell (p:=⟨g,0,none⟩) hg3).trans z0;have y1:=(bS.cell (p:=⟨g,1,none⟩) hg3).trans z1;have y2:=(bS.cell (p:=⟨g,2,none⟩) hg3).trans z2;have y3:=(bS.cell (p:=⟨g,3,none⟩) hg3).trans z3;have q0:=(bS.cell (p:=⟨w.heap.size+2,0,none⟩) gX).trans p0;have q1:=(bS.cell (p:=⟨w.heap.size+2,1,none⟩) gX).trans p1;have q2:=(bS.frozen (p:=⟨w.heap.size+2,0,none⟩) gX).trans p2;have q3:=(bS.frozen (p:=⟨w.heap.size+2,1,none⟩) gX).trans p3;have cW:=fq cZ bS cZ.size rfl rfl rfl rfl;clear bS)))
  go_wp2
  refine bodyPost_ret (by simp[results,Tryz.results114,go_sem,q0,q1];try rfl) rfl ?_;exact⟨fun h=>absurd rfl h,fun _=>by rw[V0 hlr fY];rfl,(cW.setCell (by simp;try omega) _).setCell (by simp;try omega) _⟩
 ·have HC:=Lib.hid (KB n1 s1 n2 s2 _ 2 w4 d0 d1 d2 d3 hb)
  have hz1:(iz n1 s1 n2 s2==0)=false:=beq_eq_false_iff_ne.mpr hb;have hz2:(iz n1 s1 n2 s2 != 0)=true:=bne_iff_ne.mpr hb;have HN:=Lib.hid hb;clear d0 d1 d2 d3 d4 d5 d6 d7 hsz hkk hb4 hw4 hb h1 h2;go_enter Tryz.func114,Tryz.ntmps114;go_wp2_with fail
  rw[<- HW.out];refine(HC.out).mono ?_;rintro e w' ⟨rfl,hbr⟩;obtain⟨e0,e1,e2,e3⟩:=HK.out _ hbr;have HR:=Lib.hid (HS.out.trans (hbr.mono (by rw[ew.out];omega)));clear hbr;go_wp2
  refine bodyPost_ret (by simp[results,Tryz.results114,go_sem,e0,e1];try rfl) rfl ?_;exact⟨fun _=>rfl,fun h=>absurd h HN.out,(HR.out.setCell (by simp;try omega) _).setCell (by simp;try omega) _⟩
theorem KR {w:World} {g i j:Nat} {u:Value} {v:Option Value} (h:i≠j) (hc:w.cell? ⟨g,j,none⟩=v):(w.setCell ⟨g,i,none⟩ u).cell? ⟨g,j,none⟩=v :=
 (World.cell?_setCell_other (w:=w) (a:=⟨g,i,none⟩) (b:=⟨g,j,none⟩) (v:=u) (by simp[h])).trans hc
theorem aa1 (n:Bool) (s:ByteArray):bF (!n) (nv s) =-ival n s:=by cases n <;> simp[ival,bF]
theorem ajD {n1 n2:Bool} {s1 s2:ByteArray} (h1:s1.size<=15000) (h2:s2.size<=15000):Fits (ival n1 s1-ival n2 s2):=by
 have:=aaO (n1:=n1) (n2:=!n2) h1 h2;rw[show ival (!n2) s2 =-ival n2 s2 from aa1 n2 s2,<- Int.sub_eq_add_neg]at this
 exact this
theorem ap7 (n1:Bool) (s1:ByteArray) (n2:Bool) (s2:ByteArray) (h1:s1.size<=15000) (h2:s2.size<=15000) (w:World) :
  Calls Tryz.prog 113 #[.agg #[.bool n1,.string s1],.agg #[.bool n2,.string s2]] w (F6 (·-·) n1 s1 n2 s2 w):=by
 obtain⟨w4,hw4⟩:∃ w4,w4=(((w.alloc (.cells #[.bool n1,.string s1] 38)).alloc (.cells #[.bool n2,.string s2] 38)).alloc (.cells #[.bool false,.string ⟨#[]⟩] 38)).alloc (.cells #[.bool n1,.string s1,.bool n2,.string s2] 38):=⟨_,rfl⟩
 have hb4:Below w.heap.size w w4:=by rw[hw4];exact((((Below.refl _ _).alloc (Nat.le_refl _) _).alloc (by simp;try omega) _).alloc (by simp;try omega) _).alloc (by simp;try omega) _
 have d0:w4.cell? ⟨w.heap.size+3,0,none⟩=some (.bool n1):=by rw[hw4];simp[go_sem]
 have d1:w4.cell? ⟨w.heap.size+3,1,none⟩=some (.string s1):=by rw[hw4];simp[go_sem]
 have d2:w4.cell? ⟨w.heap.size+3,2,none⟩=some (.bool n2):=by rw[hw4];simp[go_sem]
 have d3:w4.cell? ⟨w.heap.size+3,3,none⟩=some (.string s2):=by rw[hw4];simp[go_sem]
 have u0:w4.cell? ⟨w.heap.size,0,none⟩=some (.bool n1):=by rw[hw4];simp[go_sem]
 have u1:w4.cell? ⟨w.heap.size+1,0,none⟩=some (.bool n2):=by rw[hw4];simp[go_sem]
 have u2:w4.cell? ⟨w.heap.size+2,0,none⟩=some (.bool false):=by rw[hw4];simp[go_sem]
 have u3:w4.cell? ⟨w.heap.size+2,1,none⟩=some (.string ⟨#[]⟩):=by rw[hw4];simp[go_sem]
 have u4:w4.frozen? ⟨w.heap.size+2,0,none⟩=false:=by rw[hw4];simp[go_sem]
 have u5:w4.frozen? ⟨w.heap.size+2,1,none⟩=false:=by rw[hw4];simp[go_sem]
 have hsz:w4.heap.size=w.heap.size+4:=by rw[hw4];simp
 have hkk:∀ (w':World) (h:Below w4.heap.size w4 w'),w'.cell? ⟨w.heap.size,0,none⟩=some (.bool n1)/\w'.cell? ⟨w.heap.size+1,0,none⟩=some (.bool n2)/\w'.cell? ⟨w.heap.size+2,0,none⟩=some (.bool false)/\w'.cell? ⟨w.heap.size+2,1,none⟩=some (.string ⟨#[]⟩)/\w'.frozen? ⟨w.heap.size+2,0,none⟩=false/\w'.frozen? ⟨w.heap.size+2,1,none⟩=false :=
  fun w' h=>⟨(h.cell (by simp[hsz];try omega)).trans u0,(h.cell (by simp[hsz];try omega)).trans u1,(h.cell (by simp[hsz];try omega)).trans u2,(h.cell (by simp[hsz];try omega)).trans u3,(h.frozen (by simp[hsz];try omega)).trans u4,(h.frozen (by simp[hsz];try omega)).trans u5⟩
 have HW:=Lib.hid hw4;have HS:=Lib.hid hb4;have ew:=Lib.hid hsz;have HK:=Lib.hid hkk;unfold F6;by_cases hb:iz n1 s1 n2 s2=0
 ·obtain⟨o1,o2⟩:=Cr.1 hb
  rw[hb];have HC:=Lib.hid (KQ n1 s1 n2 s2 _ 2 w4 d0 d1 d2 d3 o1 o2);have HV:=Lib.hid (ajD (n1:=n1) (n2:=n2) h1 h2);clear d0 d1 d2 d3 u0 u1 u2 u3 u4 u5 hsz hkk hb4 hw4 hb o1 o2 h1 h2;go_enter Tryz.func113,Tryz.ntmps113;go_wp2_with fail
  rw[<- HW.out];refine(HC.out).mono ?_;rintro e w' ⟨g,c,g1,k1,r1,g2,k2,r2,rfl,hg,hc,N1,N2,hbr⟩;have c0:=N1.c0;have c1:=N1.c1;have c2:=N2.c0;have c3:=N2.c1;obtain⟨e0,e1,e2,e3,e4,e5⟩:=HK.out _ hbr;have hg2:g<w'.heap.size:=World.block_lt_of_cell? w' _ c0;have HR:=Lib.hid (HS.out.trans (hbr.mono (by rw[ew.out];omega)));have HL:=Lib.hid (show w.heap.size+2<w'.heap.size by have:=hbr.size;rw[ew.out]at this;omega);have x1:=N1.row.Rv c2 (by simp) (.bool (!n2));have x2:=N2.row.Rv c2 (by simp) (.bool (!n2));obtain⟨w6,qg⟩:∃ w6,w6=w'.setCell ⟨g,2,none⟩ (.bool (!n2)):=⟨_,rfl⟩
  rw[<- qg]at x1 x2
  have hsc:=fun (w5:World) (h5:w5.heap=w6.heap)=>QB n1 (!n2) (some ⟨g1,0,none⟩) (some ⟨g2,0,none⟩) k1 k2 k1 k2 r1 r2 N1.len N2.len N1.le N2.le (Nat.le_refl _) (Nat.le_refl _) w5 (x1.heap h5) (x2.heap h5) N1.bL N2.bL;rw[N1.val,N2.val,Vd,aa1,<- Int.sub_eq_add_neg]at hsc
  have HC:=Lib.hid hsc;have hne:¬ g=w.heap.size+1+1:=by have h1:=ew.out;omega
  have iA:¬ w.heap.size+2=g:=by omega
  have f0:=N2.f0;have H6:=Lib.hid qg;have b0:w6.cell? ⟨g,0,none⟩=some (.bool n1):=by rw[qg];exact KR aD c0
  have b1:w6.cell? ⟨g,1,none⟩=some (.slice (some ⟨g1,0,none⟩) k1 k1):=by rw[qg];exact KR aD c1
  have b2:w6.cell? ⟨g,2,none⟩=some (.bool (!n2)):=by rw[qg];exact World.cell?_setCell_same' _ _ _ (by rw[c2];rfl)
  have b3:w6.cell? ⟨g,3,none⟩=some (.slice (some ⟨g2,0,none⟩) k2 k2):=by rw[qg];exact KR aD c3
  have a2:w6.cell? ⟨w.heap.size+2,0,none⟩=some (.bool false):=by rw[qg];exact(cell_far _ _ _ _ _ _ iA).trans e2
  have a3:w6.cell? ⟨w.heap.size+2,1,none⟩=some (.string ⟨#[]⟩):=by rw[qg];exact(cell_far _ _ _ _ _ _ iA).trans e3
  have a4:w6.frozen? ⟨w.heap.size+2,0,none⟩=false:=by rw[qg];simp only[World.frozen?_setCell];exact e4
  have a5:w6.frozen? ⟨w.heap.size+2,1,none⟩=false:=by rw[qg];simp only[World.frozen?_setCell];exact e5
  have Nu:Below w.heap.size w w6:=by rw[qg];exact HR.out.setCell (by have:=ew.out;simp;omega) _
  have Nv:w.heap.size+2<w6.heap.size:=by rw[qg];simpa using HL.out
  have GM:g<w6.heap.size:=by rw[qg];simpa using hg2
  clear hsc hg hbr N1 N2 qg x1 x2 iA HR HL hg2;have HR:=Lib.hid Nu;have HL:=Lib.hid Nv;have hg2:=GM;clear Nu Nv GM;go_wp2
  rw[<- H6.out];clear c0 c1 c2 c3 e2 e3 e4 e5 f0;have c0:=b0;have c1:=b1;have c2:=b2;have c3:=b3;have e2:=a2;have e3:=a3;have e4:=a4;have e5:=a5;clear b0 b1 b2 b3 a2 a3 a4 a5;go_region_held3 (fun w'=>w'.cell? ⟨g,0,none⟩=some (.bool n1)/\w'.cell? ⟨g,1,none⟩=some (.slice (some ⟨g1,0,none⟩) k1 k1)/\w'.cell? ⟨g,2,none⟩=some (.bool (!n2))/\w'.cell? ⟨g,3,none⟩=some (.slice (some ⟨g2,0,none⟩) k2 k2)) (first|go_keep|exact⟨y0,y1,y2,y3⟩|exact⟨(cell_far _ _ _ _ _ _ hne).trans ((cell_far _ _ _ _ _ _ hne).trans y0),(cell_far _ _ _ _ _ _ hne).trans ((cell_far _ _ _ _ _ _ hne).trans y1),(cell_far _ _ _ _ _ _ hne).trans ((cell_far _ _ _ _ _ _ hne).trans y2),(cell_far _ _ _ _ _ _ hne).trans ((cell_far _ _ _ _ _ _ hne).trans y3)⟩|exact⟨z0,z1,z2,z3⟩) (first|(go_at_call 124;refine(HC.out _ (by rfl)).mono ?_;rintro e w2 ⟨n,x,r,rfl,hr,hlr,dD,fY,hbr⟩;obtain⟨A,cc,rfl,hrc,hrl⟩:=hr;have z0:=(hbr.cell (p:=⟨g,0,none⟩) hg2).trans c0;have z1:=(hbr.cell (p:=⟨g,1,none⟩) hg2).trans c1;have z2:=(hbr.cell (p:=⟨g,2,none⟩) hg2).trans c2;have z3:=(hbr.cell (p:=⟨g,3,none⟩) hg2).trans c3;have p0:=(hbr.cell (p:=⟨w.heap.size+2,0,none⟩) HL.out).trans e2;have p1:=(hbr.cell (p:=⟨w.heap.size+2,1,none⟩) HL.out).trans e3;have p2:=(hbr.frozen (p:=⟨w.heap.size+2,0,none⟩) HL.out).trans e4;have p3:=(hbr.frozen (p:=⟨w.heap.size+2,1,none⟩) HL.out).trans e5;have cZ:=fq HR.out hbr HR.out.size rfl rfl rfl rfl;have hg3:=Nat.lt_of_lt_of_le hg2 hbr.size;have gX:=Nat.lt_of_lt_of_le HL.out hbr.size;clear hbr)|(go_at_call 119;refine(yS _ _ _ _ r rfl (KC hlr dD fY HV.out) hrc _ (by exact hrl) hlr).mono ?_;rintro e w3 ⟨rfl,bS⟩;have y0:=(bS.cell (p:=⟨g,0,none⟩) hg3).trans z0;have y1:=(bS.cell (p:=⟨g,1,none⟩) hg3).trans z1;have y2:=(bS.cell (p:=⟨g,2,none⟩) hg3).trans z2;have y3:=(bS.cell (p:=⟨g,3,none⟩) hg3).trans z3;have q0:=(bS.cell (p:=⟨w.heap.size+2,0,none⟩) gX).trans p0;have q1:=(bS.cell (p:=⟨w.heap.size+2,1,none⟩) gX).trans p1;have q2:=(bS.frozen (p:=⟨w.heap.size+2,0,none⟩) gX).trans p2;have q3:=(bS.frozen (p:=⟨w.heap.size+2,1,none⟩) gX).trans p3;have cW:=fq cZ bS cZ.size rfl rfl rfl rfl;clear bS))
  go_wp2
  refine bodyPost_ret (by simp[results,Tryz.results113,go_sem,q0,q1];try rfl) rfl ?_;exact⟨fun h=>absurd rfl h,fun _=>by rw[V0 hlr fY];rfl,(cW.setCell (by simp;try omega) _).setCell (by simp;try omega) _⟩
 ·have HC:=Lib.hid (KB n1 s1 n2 s2 _ 2 w4 d0 d1 d2 d3 hb)
  have hz1:(iz n1 s1 n2 s2==0)=false:=beq_eq_false_iff_ne.mpr hb;have hz2:(iz n1 s1 n2 s2 != 0)=true:=bne_iff_ne.mpr hb;have HN:=Lib.hid hb;clear d0 d1 d2 d3 u0 u1 u2 u3 u4 u5 hsz hkk hb4 hw4 hb h1 h2;go_enter Tryz.func113,Tryz.ntmps113;go_wp2_with fail
  rw[<- HW.out];refine(HC.out).mono ?_;rintro e w' ⟨rfl,hbr⟩;obtain⟨e0,e1,e2,e3,e4,e5⟩:=HK.out _ hbr;have HR:=Lib.hid (HS.out.trans (hbr.mono (by rw[ew.out];omega)));clear hbr;go_wp2
  refine bodyPost_ret (by simp[results,Tryz.results113,go_sem,e0,e1,e2,e3,e4,e5];try rfl) rfl ?_;exact⟨fun _=>rfl,fun h=>absurd h HN.out,(HR.out.setCell (by simp;try omega) _).setCell (by simp;try omega) _⟩
theorem aly (n1 n2:Bool) (x y:Int):bF (n1 != n2) (x*y)=bF n1 x*bF n2 y:=by
 cases n1 <;> cases n2 <;> simp[bF,Int.neg_mul,Int.mul_neg]
theorem V2 {s:ByteArray} (h:Canon s) (h0:0<s.size):0<nv s:=by
 have h1:=(jM s).1;apply Decidable.byContradiction;intro hn;have hz:nv s=0:=by omega
 have:s=eF 0:=aas h (Th 0 aD) (by rw[hz,Vb aD]);have h2:=yH 0;rw[<- this,yN]at h2
 omega
theorem ap8 (n1:Bool) (s1:ByteArray) (n2:Bool) (s2:ByteArray) (h1:s1.size<=15000) (h2:s2.size<=15000) (w:World) :
  Calls Tryz.prog 123 #[.agg #[.bool n1,.string s1],.agg #[.bool n2,.string s2]] w (F6 (·*·) n1 s1 n2 s2 w):=by
 obtain⟨w4,hw4⟩:∃ w4,w4=(((w.alloc (.cells #[.bool n1,.string s1] 38)).alloc (.cells #[.bool n2,.string s2] 38)).alloc (.cells #[.bool false,.string ⟨#[]⟩] 38)).alloc (.cells #[.bool n1,.string s1,.bool n2,.string s2] 38):=⟨_,rfl⟩
 have hb4:Below w.heap.size w w4:=by rw[hw4];exact((((Below.refl _ _).alloc (Nat.le_refl _) _).alloc (by simp;try omega) _).alloc (by simp;try omega) _).alloc (by simp;try omega) _
 have d0:w4.cell? ⟨w.heap.size+3,0,none⟩=some (.bool n1):=by rw[hw4];simp[go_sem]
 have d1:w4.cell? ⟨w.heap.size+3,1,none⟩=some (.string s1):=by rw[hw4];simp[go_sem]
 have d2:w4.cell? ⟨w.heap.size+3,2,none⟩=some (.bool n2):=by rw[hw4];simp[go_sem]
 have d3:w4.cell? ⟨w.heap.size+3,3,none⟩=some (.string s2):=by rw[hw4];simp[go_sem]
 have u0:w4.cell? ⟨w.heap.size,0,none⟩=some (.bool n1):=by rw[hw4];simp[go_sem]
 have u1:w4.cell? ⟨w.heap.size+1,0,none⟩=some (.bool n2):=by rw[hw4];simp[go_sem]
 have u2:w4.cell? ⟨w.heap.size+2,0,none⟩=some (.bool false):=by rw[hw4];simp[go_sem]
 have u3:w4.cell? ⟨w.heap.size+2,1,none⟩=some (.string ⟨#[]⟩):=by rw[hw4];simp[go_sem]
 have u4:w4.frozen? ⟨w.heap.size+2,0,none⟩=false:=by rw[hw4];simp[go_sem]
 have u5:w4.frozen? ⟨w.heap.size+2,1,none⟩=false:=by rw[hw4];simp[go_sem]
 have hsz:w4.heap.size=w.heap.size+4:=by rw[hw4];simp
 have hkk:∀ (w':World) (h:Below w4.heap.size w4 w'),w'.cell? ⟨w.heap.size,0,none⟩=some (.bool n1)/\w'.cell? ⟨w.heap.size+1,0,none⟩=some (.bool n2)/\w'.cell? ⟨w.heap.size+2,0,none⟩=some (.bool false)/\w'.cell? ⟨w.heap.size+2,1,none⟩=some (.string ⟨#[]⟩)/\w'.frozen? ⟨w.heap.size+2,0,none⟩=false/\w'.frozen? ⟨w.heap.size+2,1,none⟩=false :=
  fun w' h=>⟨(h.cell (by simp[hsz];try omega)).trans u0,(h.cell (by simp[hsz];try omega)).trans u1,(h.cell (by simp[hsz];try omega)).trans u2,(h.cell (by simp[hsz];try omega)).trans u3,(h.frozen (by simp[hsz];try omega)).trans u4,(h.frozen (by simp[hsz];try omega)).trans u5⟩
 have HW:=Lib.hid hw4;have HS:=Lib.hid hb4;have ew:=Lib.hid hsz;have HK:=Lib.hid hkk;unfold F6;by_cases hb:iz n1 s1 n2 s2=0
 ·obtain⟨o1,o2⟩:=Cr.1 hb
  rw[hb];have HC:=Lib.hid (KQ n1 s1 n2 s2 _ 2 w4 d0 d1 d2 d3 o1 o2);have HV:=Lib.hid (ajC (n1:=n1) (n2:=n2) h1 h2);clear d0 d1 d2 d3 u0 u1 u2 u3 u4 u5 hsz hkk hb4 hw4 hb o1 o2 h1 h2;go_enter Tryz.func123,Tryz.ntmps123;go_wp2_with fail
  rw[<- HW.out];refine(HC.out).mono ?_;rintro e w' ⟨g,c,g1,k1,r1,g2,k2,r2,rfl,hg,hc,N1,N2,hbr⟩;have c0:=N1.c0;have c1:=N1.c1;have c2:=N2.c0;have c3:=N2.c1;obtain⟨e0,e1,e2,e3,e4,e5⟩:=HK.out _ hbr;have hg2:g<w'.heap.size:=World.block_lt_of_cell? w' _ c0;have HR:=Lib.hid (HS.out.trans (hbr.mono (by rw[ew.out];omega)));have HL:=Lib.hid (show w.heap.size+2<w'.heap.size by have:=hbr.size;rw[ew.out]at this;omega);have hsc:=fun (w5:World) (h5:w5.heap=w'.heap)=>ap0 (some ⟨g1,0,none⟩) (some ⟨g2,0,none⟩) k1 k2 k1 k2 r1 r2 N1.len N2.len N1.le N2.le w5 (N1.row.heap h5) (N2.row.heap h5) N1.bL N2.bL;rw[N1.val,N2.val]at hsc
  have HC:=Lib.hid hsc;clear hsc hg hbr N1 N2;go_wp2
  go_region_held3 (fun w'=>w'.cell? ⟨g,1,none⟩=some (.slice (some ⟨g1,0,none⟩) k1 k1)/\w'.cell? ⟨g,3,none⟩=some (.slice (some ⟨g2,0,none⟩) k2 k2)) (first|go_keep|exact⟨z1,z3⟩) (first|(go_at_call 138;refine(HC.out _ (by rfl)).mono ?_;rintro e w2 ⟨x,r,rfl,hr,hlr,dD,fY,hbr⟩;obtain⟨A,cc,rfl,hrc,hrl⟩:=hr;have z1:=(hbr.cell (p:=⟨g,1,none⟩) hg2).trans c1;have z3:=(hbr.cell (p:=⟨g,3,none⟩) hg2).trans c3;have p0:=(hbr.cell (p:=⟨w.heap.size,0,none⟩) (Nat.lt_of_le_of_lt (Nat.le_add_right _ 2) HL.out)).trans e0;have p1:=(hbr.cell (p:=⟨w.heap.size+1,0,none⟩) (Nat.lt_of_le_of_lt (Nat.le_add_right _ 1) HL.out)).trans e1;have p2:=(hbr.cell (p:=⟨w.heap.size+2,0,none⟩) HL.out).trans e2;have p3:=(hbr.cell (p:=⟨w.heap.size+2,1,none⟩) HL.out).trans e3;have p4:=(hbr.frozen (p:=⟨w.heap.size+2,0,none⟩) HL.out).trans e4;have p5:=(hbr.frozen (p:=⟨w.heap.size+2,1,none⟩) HL.out).trans e5;have cZ:=fq HR.out hbr HR.out.size rfl rfl rfl rfl;have gX:=Nat.lt_of_lt_of_le HL.out hbr.size;clear hbr))
  have Zd:bF (n1 != n2) (lv r)=ival n1 s1*ival n2 s2:=by rw[fY];exact aly _ _ _ _
  have HT:=Lib.hid (yS (n1 != n2) A r.length cc r rfl (KC hlr dD Zd HV.out) hrc _ hrl hlr);have Ze:=Lib.hid (And.intro hlr Zd);clear fY Zd hlr dD hrl z1 z3 c0 c1 c2 c3 e0 e1 e2 e3 e4 e5;go_wp2_with fail
  refine(HT.out).mono ?_;rintro e w3 ⟨rfl,bS⟩;have q0:=(bS.cell (p:=⟨w.heap.size+2,0,none⟩) gX).trans p2;have q1:=(bS.cell (p:=⟨w.heap.size+2,1,none⟩) gX).trans p3;have q2:=(bS.frozen (p:=⟨w.heap.size+2,0,none⟩) gX).trans p4;have q3:=(bS.frozen (p:=⟨w.heap.size+2,1,none⟩) gX).trans p5;have cW:=Lib.hid (fq cZ bS cZ.size rfl rfl rfl rfl);clear bS cZ;go_wp2
  refine bodyPost_ret (by simp[results,Tryz.results123,go_sem,q0,q1];try rfl) rfl ?_;exact⟨fun h=>absurd rfl h,fun _=>by rw[Ze.out.2,V0 Ze.out.1 Ze.out.2];rfl,(cW.out.setCell (by simp;try omega) _).setCell (by simp;try omega) _⟩
 ·have HC:=Lib.hid (KB n1 s1 n2 s2 _ 2 w4 d0 d1 d2 d3 hb)
  have hz1:(iz n1 s1 n2 s2==0)=false:=beq_eq_false_iff_ne.mpr hb;have hz2:(iz n1 s1 n2 s2 != 0)=true:=bne_iff_ne.mpr hb;have HN:=Lib.hid hb;clear d0 d1 d2 d3 u0 u1 u2 u3 u4 u5 hsz hkk hb4 hw4 hb h1 h2;go_enter Tryz.func123,Tryz.ntmps123;go_wp2_with fail
  rw[<- HW.out];refine(HC.out).mono ?_;rintro e w' ⟨rfl,hbr⟩;obtain⟨e0,e1,e2,e3,e4,e5⟩:=HK.out _ hbr;have HR:=Lib.hid (HS.out.trans (hbr.mono (by rw[ew.out];omega)));clear hbr;go_wp2
  refine bodyPost_ret (by simp[results,Tryz.results123,go_sem,e0,e1,e2,e3,e4,e5];try rfl) rfl ?_;exact⟨fun _=>rfl,fun h=>absurd h HN.out,(HR.out.setCell (by simp;try omega) _).setCell (by simp;try omega) _⟩
end Go.Proofs.YtfcjnhkkfmgmpaaGreat
