import Derived.Test.YtcmepkhjggpmeaaGreatZuG9
set_option linter.all false
set_option maxRecDepth 100000
set_option maxHeartbeats 8000000
namespace Go.Proofs.YtcmepkhjggpmeaaGreat
open Go.RowKit aP
def ival (n:Bool) (s:ByteArray):Int:=bk n (nv s)
def o_ (v:Int):Value := .agg #[.bool (decide (v<0)),.string (dW (v.natAbs:Int))]
def Ej (f:Int->Int->Int) (n1:Bool) (s1:ByteArray) (n2:Bool) (s2:ByteArray) (w:World) (e:Ending) (w':World):Prop :=
 (gJ n1 s1 n2 s2≠0->e = .returned (.tuple #[.agg #[.bool false,.string ⟨#[]⟩],.int .i64 (gJ n1 s1 n2 s2)])) /\
 (gJ n1 s1 n2 s2=0->e = .returned (.tuple #[o_ (f (ival n1 s1) (ival n2 s2)),.int .i64 0]))/\Below w.heap.size w w'
theorem Be {n:Bool} {r:List Int} {v:Int} (hl:aG r) (h:bk n (lv r)=v):Value.agg #[.bool (decide (bk n (lv r)<0)),.string (dW (lv r))]=o_ v:=by
 have:=(dw hl).1;unfold o_;rw[h];have e:lv r=(v.natAbs:Int):=by
  unfold bk at h;split at h <;> omega
 rw[e]
theorem SP {n:Bool} {r:List Int} {v:Int} (hl:aG r) (h:bk n (lv r)=v):lv r=(v.natAbs:Int):=by
 have:=(dw hl).1;unfold bk at h;split at h <;> omega
theorem nE {s:ByteArray} {k:Nat} (h:s.size<=k):nv s<256^k:=by
 have:=(jg s).2;have h2:=qz h;omega
structure Fits (v:Int):Prop where mk::(out:(v.natAbs:Int)<B^4000)
theorem R4 (n:Bool) (s:ByteArray):bk n (nv s)=ival n s:=rfl
theorem IG {r:List Int} {v:Int} {n:Bool} (hl:aG r) (ht:Tr r) (hv:bk n (lv r)=v) (h:Fits v):r.length<=4000:=by
 have h:=h.out;apply gH ht hl;have:=(dw hl).1;have e:lv r=(v.natAbs:Int):=by
  unfold bk at hv;split at hv <;> omega
 omega
theorem SQ (k:Nat):B^k=256^(8*k):=by
 rw[show B=256^8 from by decide,<- Int.pow_mul]
theorem FW {n:Bool} {v:Int} (h:0<=v):((bk n v).natAbs:Int)=v:=by
 unfold bk;split <;> omega
theorem afF {n1 n2:Bool} {s1 s2:ByteArray} {K M:Nat} (h1:s1.size<=K) (h2:s2.size<=K) (hM:K+1<=8*M):((ival n1 s1+ival n2 s2).natAbs:Int)<B^M:=by
 rw[SQ];have a1:=(jg s1).1;have a2:=(jg s2).1;have b1:=nE h1;have b2:=nE h2;have e1:=FW (n:=n1) a1;have e2:=FW (n:=n2) a2;have h3:=qz hM;have h4:=Ys K;unfold ival at *;generalize (256:Int)^(8*M)=u at *;generalize (256:Int)^(K+1)=u at *;generalize (256:Int)^K=u at *;omega
theorem afG {n1 n2:Bool} {s1 s2:ByteArray} {K M:Nat} (h1:s1.size<=K) (h2:s2.size<=K) (hM:K+K<=8*M):((ival n1 s1*ival n2 s2).natAbs:Int)<B^M:=by
 rw[SQ];have a1:=(jg s1).1;have a2:=(jg s2).1;have b1:=nE h1;have b2:=nE h2;have e1:=FW (n:=n1) a1;have e2:=FW (n:=n2) a2;have h3:=qz hM;rw[Int.pow_add]at h3
 have hp:=Yp K;unfold ival;rw[Int.natAbs_mul,Int.natCast_mul,e1,e2];generalize (256:Int)^(8*M)=u at *;generalize (256:Int)^K=z at *;have h5:nv s1*nv s2<=nv s1*z:=Int.mul_le_mul_of_nonneg_left aC a1;have h6:nv s1*z<z*z:=Int.mul_lt_mul_of_pos_right b1 hp;omega
theorem XT {n1 n2:Bool} {s1 s2:ByteArray} (h1:s1.size<=15000) (h2:s2.size<=15000):Fits (ival n1 s1+ival n2 s2):=⟨afF h1 h2 aC⟩
theorem afW {n1 n2:Bool} {s1 s2:ByteArray} (h1:s1.size<=15000) (h2:s2.size<=15000):Fits (ival n1 s1*ival n2 s2):=⟨afG h1 h2 aC⟩
theorem RL.heap {w w':World} {A:Option Addr} {l:List Int} (h:RL w A l) (he:w'.heap=w.heap):RL w' A l:=by
 refine⟨h.1,fun hn=>?_⟩;obtain⟨ad,e,hc⟩:=h.2 hn;refine⟨ad,e,fun j hj=>?_⟩;unfold World.cell?;rw[he];exact hc j hj
theorem eL {B C:Nat} {a b b' c:World} (h:Below B a b) (k:Below C b' c) (hB:B<=C) (e1:b'.os=b.os) (e2:b'.tape=b.tape) (e3:b'.output=b.output) (e4:b'.heap=b.heap):Below B a c :=
 ⟨k.os.trans (e1.trans h.os),k.tape.trans (e2.trans h.tape),k.output.trans (e3.trans h.output),Nat.le_trans h.size (by rw[<- e4];exact k.size),fun i hi=>(k.block i aC).trans ((congrArg (fun x:Array Obj=>x[i]?) e4).trans (h.block i hi))⟩
theorem amQ (n1:Bool) (s1:ByteArray) (n2:Bool) (s2:ByteArray) (h1:s1.size<=15000) (h2:s2.size<=15000) (w:World) :
  Calls Tryz.prog 67 #[.agg #[.bool n1,.string s1],.agg #[.bool n2,.string s2]] w (Ej (·+·) n1 s1 n2 s2 w):=by
 obtain⟨w4,hw4⟩:∃ w4,w4=(((w.alloc (.cells #[.bool n1,.string s1] 38)).alloc (.cells #[.bool n2,.string s2] 38)).alloc (.cells #[.bool false,.string ⟨#[]⟩] 38)).alloc (.cells #[.bool n1,.string s1,.bool n2,.string s2] 38):=⟨_,rfl⟩
 have hb4:Below w.heap.size w w4:=by rw[hw4];exact((((Below.refl _ _).alloc (Nat.le_refl _) _).alloc (by simp) _).alloc (by simp;omega) _).alloc (by simp;omega) _
 have d0:w4.cell? ⟨w.heap.size+3,0,none⟩=some (.bool n1):=by rw[hw4];simp[go_sem]
 have d1:w4.cell? ⟨w.heap.size+3,1,none⟩=some (.string s1):=by rw[hw4];simp[go_sem]
 have d2:w4.cell? ⟨w.heap.size+3,2,none⟩=some (.bool n2):=by rw[hw4];simp[go_sem]
 have d3:w4.cell? ⟨w.heap.size+3,3,none⟩=some (.string s2):=by rw[hw4];simp[go_sem]
 have d4:w4.cell? ⟨w.heap.size+2,0,none⟩=some (.bool false):=by rw[hw4];simp[go_sem]
 have d5:w4.cell? ⟨w.heap.size+2,1,none⟩=some (.string ⟨#[]⟩):=by rw[hw4];simp[go_sem]
 have d6:w4.frozen? ⟨w.heap.size+2,0,none⟩=false:=by rw[hw4];simp[go_sem]
 have d7:w4.frozen? ⟨w.heap.size+2,1,none⟩=false:=by rw[hw4];simp[go_sem]
 have hsz:w4.heap.size=w.heap.size+4:=by rw[hw4];simp
 have hkk:∀ (w':World) (h:Below w4.heap.size w4 w'),w'.cell? ⟨w.heap.size+2,0,none⟩=some (.bool false)/\w'.cell? ⟨w.heap.size+2,1,none⟩=some (.string ⟨#[]⟩)/\w'.frozen? ⟨w.heap.size+2,0,none⟩=false/\w'.frozen? ⟨w.heap.size+2,1,none⟩=false :=
  fun w' h=>⟨(h.cell (by simp[hsz])).trans d4,(h.cell (by simp[hsz])).trans d5,(h.frozen (by simp[hsz])).trans d6,(h.frozen (by simp[hsz])).trans d7⟩
 have HW:=Lib.hid hw4;have HS:=Lib.hid hb4;have dP:=Lib.hid hsz;have HK:=Lib.hid hkk;unfold Ej;by_cases hb:gJ n1 s1 n2 s2=0
 ·obtain⟨k1,k2⟩:=Bd.1 hb
  rw[hb];have HC:=Lib.hid (IZ n1 s1 n2 s2 _ 2 w4 d0 d1 d2 d3 k1 k2);have HV:=Lib.hid (XT (n1:=n1) (n2:=n2) h1 h2);clear d0 d1 d2 d3 d4 d5 d6 d7 hsz hkk hb4 hw4 hb k1 k2 h1 h2;go_enter Tryz.func67,Tryz.ntmps67;go_wp2_with fail
  rw[<- HW.out];refine(HC.out).mono ?_;rintro e w' ⟨g,c,g1,k1,r1,g2,k2,r2,rfl,hg,hc,N1,N2,hbr⟩;have hsc:=fun (w5:World) (h5:w5.heap=w'.heap)=>NW n1 n2 (some ⟨g1,0,none⟩) (some ⟨g2,0,none⟩) k1 k2 k1 k2 r1 r2 N1.len N2.len N1.le N2.le (Nat.le_refl _) (Nat.le_refl _) w5 (N1.row.heap h5) (N2.row.heap h5) N1.lim N2.lim;rw[N1.val,N2.val,R4,R4]at hsc
  have HC:=Lib.hid hsc;have c0:=N1.c0;have c1:=N1.c1;have c2:=N2.c0;have c3:=N2.c1;obtain⟨e0,e1,e2,e3⟩:=HK.out _ hbr;have hg2:g<w'.heap.size:=World.block_lt_of_cell? w' _ c0;have HR:=Lib.hid (HS.out.trans (hbr.mono (by rw[dP.out];omega)));have HL:=Lib.hid (show w.heap.size+2<w'.heap.size by have:=hbr.size;rw[dP.out]at this;omega);have hne:¬ g=w.heap.size+1+1:=by have h1:=dP.out;omega
  clear hsc hg hbr N1 N2;go_wp2
  go_region_held3 (fun w'=>w'.cell? ⟨g,0,none⟩=some (.bool n1)/\w'.cell? ⟨g,1,none⟩=some (.slice (some ⟨g1,0,none⟩) k1 k1)/\w'.cell? ⟨g,2,none⟩=some (.bool n2)/\w'.cell? ⟨g,3,none⟩=some (.slice (some ⟨g2,0,none⟩) k2 k2)) (first|go_keep|exact⟨y0,y1,y2,y3⟩|exact⟨(cell_far _ _ _ _ _ _ hne).trans ((cell_far _ _ _ _ _ _ hne).trans y0),(cell_far _ _ _ _ _ _ hne).trans ((cell_far _ _ _ _ _ _ hne).trans y1),(cell_far _ _ _ _ _ _ hne).trans ((cell_far _ _ _ _ _ _ hne).trans y2),(cell_far _ _ _ _ _ _ hne).trans ((cell_far _ _ _ _ _ _ hne).trans y3)⟩|exact⟨z0,z1,z2,z3⟩) (first|(go_at_call 104;go_must (refine(HC.out _ (by rfl)).mono ?_;rintro e w2 ⟨n,x,r,rfl,hr,hlr,htr,fD,hbr⟩;obtain⟨A,cc,rfl,hrc,hrl⟩:=hr;have z0:=(hbr.cell (p:=⟨g,0,none⟩) hg2).trans c0;have z1:=(hbr.cell (p:=⟨g,1,none⟩) hg2).trans c1;have z2:=(hbr.cell (p:=⟨g,2,none⟩) hg2).trans c2;have z3:=(hbr.cell (p:=⟨g,3,none⟩) hg2).trans c3;have p0:=(hbr.cell (p:=⟨w.heap.size+2,0,none⟩) HL.out).trans e0;have p1:=(hbr.cell (p:=⟨w.heap.size+2,1,none⟩) HL.out).trans e1;have p2:=(hbr.frozen (p:=⟨w.heap.size+2,0,none⟩) HL.out).trans e2;have p3:=(hbr.frozen (p:=⟨w.heap.size+2,1,none⟩) HL.out).trans e3;have bV:=eL HR.out hbr HR.out.size rfl rfl rfl rfl;have hg3:=Nat.lt_of_lt_of_le hg2 hbr.size;have gw:=Nat.lt_of_lt_of_le HL.out hbr.size;clear hbr))|(go_at_call 95;go_must (refine(vQ _ _ _ _ r rfl (IG hlr htr fD HV.out) hrc _ (by exact hrl) hlr).mono ?_;rintro e w3 ⟨rfl,bI⟩;have y0:=(bI.cell (p:=⟨g,0,none⟩) hg3).trans z0;have y1:=(bI.cell (p:=⟨g,1,none⟩) hg3).trans z1;have y2:=(bI.cell (p:=⟨g,2,none⟩) hg3).trans z2;have y3:=(bI.cell (p:=⟨g,3,none⟩) hg3).trans z3;have q0:=(bI.cell (p:=⟨w.heap.size+2,0,none⟩) gw).trans p0;have q1:=(bI.cell (p:=⟨w.heap.size+2,1,none⟩) gw).trans p1;have q2:=(bI.frozen (p:=⟨w.heap.size+2,0,none⟩) gw).trans p2;have q3:=(bI.frozen (p:=⟨w.heap.size+2,1,none⟩) gw).trans p3;have bX:=eL bV bI bV.size rfl rfl rfl rfl;clear bI)))
  go_wp2
  refine bodyPost_ret (by simp[results,Tryz.results67,go_sem,q0,q1];try rfl) rfl ?_;exact⟨fun h=>absurd rfl h,fun _=>by rw[SP hlr fD];rfl,(bX.setCell (by simp;try omega) _).setCell (by simp;try omega) _⟩
 ·have HC:=Lib.hid (IF n1 s1 n2 s2 _ 2 w4 d0 d1 d2 d3 hb)
  have hz1:(gJ n1 s1 n2 s2==0)=false:=beq_eq_false_iff_ne.mpr hb;have hz2:(gJ n1 s1 n2 s2 != 0)=true:=bne_iff_ne.mpr hb;have HN:=Lib.hid hb;clear d0 d1 d2 d3 d4 d5 d6 d7 hsz hkk hb4 hw4 hb h1 h2;go_enter Tryz.func67,Tryz.ntmps67;go_wp2_with fail
  rw[<- HW.out];refine(HC.out).mono ?_;rintro e w' ⟨rfl,hbr⟩;obtain⟨e0,e1,e2,e3⟩:=HK.out _ hbr;have HR:=Lib.hid (HS.out.trans (hbr.mono (by rw[dP.out];omega)));clear hbr;go_wp2
  refine bodyPost_ret (by simp[results,Tryz.results67,go_sem,e0,e1];try rfl) rfl ?_;exact⟨fun _=>rfl,fun h=>absurd h HN.out,(HR.out.setCell (by simp;try omega) _).setCell (by simp;try omega) _⟩
theorem I1 {w:World} {g i j:Nat} {u:Value} {v:Option Value} (h:i≠j) (hc:w.cell? ⟨g,j,none⟩=v):(w.setCell ⟨g,i,none⟩ u).cell? ⟨g,j,none⟩=v :=
 (World.cell?_setCell_other (w:=w) (a:=⟨g,i,none⟩) (b:=⟨g,j,none⟩) (v:=u) (by simp[h])).trans hc
theorem Yc (n:Bool) (s:ByteArray):bk (!n) (nv s) =-ival n s:=by cases n <;> simp[ival,bk]
theorem afX {n1 n2:Bool} {s1 s2:ByteArray} (h1:s1.size<=15000) (h2:s2.size<=15000):Fits (ival n1 s1-ival n2 s2):=by
 have:=XT (n1:=n1) (n2:=!n2) h1 h2;rw[show ival (!n2) s2 =-ival n2 s2 from Yc n2 s2,<- Int.sub_eq_add_neg]at this
 exact this
theorem amR (n1:Bool) (s1:ByteArray) (n2:Bool) (s2:ByteArray) (h1:s1.size<=15000) (h2:s2.size<=15000) (w:World) :
  Calls Tryz.prog 164 #[.agg #[.bool n1,.string s1],.agg #[.bool n2,.string s2]] w (Ej (·-·) n1 s1 n2 s2 w):=by
 obtain⟨w4,hw4⟩:∃ w4,w4=(((w.alloc (.cells #[.bool n1,.string s1] 38)).alloc (.cells #[.bool n2,.string s2] 38)).alloc (.cells #[.bool false,.string ⟨#[]⟩] 38)).alloc (.cells #[.bool n1,.string s1,.bool n2,.string s2] 38):=⟨_,rfl⟩
 have hb4:Below w.heap.size w w4:=by rw[hw4];exact((((Below.refl _ _).alloc (Nat.le_refl _) _).alloc (by simp;try omega) _).alloc (by simp;try omega) _).alloc (by simp;try omega) _
 have d0:w4.cell? ⟨w.heap.size+3,0,none⟩=some (.bool n1):=by rw[hw4];simp[go_sem]
 have d1:w4.cell? ⟨w.heap.size+3,1,none⟩=some (.string s1):=by rw[hw4];simp[go_sem]
 have d2:w4.cell? ⟨w.heap.size+3,2,none⟩=some (.bool n2):=by rw[hw4];simp[go_sem]
 have d3:w4.cell? ⟨w.heap.size+3,3,none⟩=some (.string s2):=by rw[hw4];simp[go_sem]
 have u0:w4.cell? ⟨w.heap.size,0,none⟩=some (.bool n1):=by rw[hw4];simp[go_sem]
 have u1:w4.cell? ⟨w.heap.size+1,0,none⟩=some (.bool n2):=by rw[hw4];simp[go_sem]
 have u2:w4.cell? ⟨w.heap.size+2,0,none⟩=some (.bool false):=by rw[hw4];simp[go_sem]
 have u3:w4.cell? ⟨w.heap.size+2,1,none⟩=some (.string ⟨#[]⟩):=by rw[hw4];simp[go_sem]
 have u4:w4.frozen? ⟨w.heap.size+2,0,none⟩=false:=by rw[hw4];simp[go_sem]
 have u5:w4.frozen? ⟨w.heap.size+2,1,none⟩=false:=by rw[hw4];simp[go_sem]
 have hsz:w4.heap.size=w.heap.size+4:=by rw[hw4];simp
 have hkk:∀ (w':World) (h:Below w4.heap.size w4 w'),w'.cell? ⟨w.heap.size,0,none⟩=some (.bool n1)/\w'.cell? ⟨w.heap.size+1,0,none⟩=some (.bool n2)/\w'.cell? ⟨w.heap.size+2,0,none⟩=some (.bool false)/\w'.cell? ⟨w.heap.size+2,1,none⟩=some (.string ⟨#[]⟩)/\w'.frozen? ⟨w.heap.size+2,0,none⟩=false/\w'.frozen? ⟨w.heap.size+2,1,none⟩=false :=
  fun w' h=>⟨(h.cell (by simp[hsz];try omega)).trans u0,(h.cell (by simp[hsz];try omega)).trans u1,(h.cell (by simp[hsz];try omega)).trans u2,(h.cell (by simp[hsz];try omega)).trans u3,(h.frozen (by simp[hsz];try omega)).trans u4,(h.frozen (by simp[hsz];try omega)).trans u5⟩
 have HW:=Lib.hid hw4;have HS:=Lib.hid hb4;have dP:=Lib.hid hsz;have HK:=Lib.hid hkk;unfold Ej;by_cases hb:gJ n1 s1 n2 s2=0
 ·obtain⟨o1,o2⟩:=Bd.1 hb
  rw[hb];have HC:=Lib.hid (IZ n1 s1 n2 s2 _ 2 w4 d0 d1 d2 d3 o1 o2);have HV:=Lib.hid (afX (n1:=n1) (n2:=n2) h1 h2);clear d0 d1 d2 d3 u0 u1 u2 u3 u4 u5 hsz hkk hb4 hw4 hb o1 o2 h1 h2;go_enter Tryz.func164,Tryz.ntmps164;go_wp2_with fail
  rw[<- HW.out];refine(HC.out).mono ?_;rintro e w' ⟨g,c,g1,k1,r1,g2,k2,r2,rfl,hg,hc,N1,N2,hbr⟩;have c0:=N1.c0;have c1:=N1.c1;have c2:=N2.c0;have c3:=N2.c1;obtain⟨e0,e1,e2,e3,e4,e5⟩:=HK.out _ hbr;have hg2:g<w'.heap.size:=World.block_lt_of_cell? w' _ c0;have HR:=Lib.hid (HS.out.trans (hbr.mono (by rw[dP.out];omega)));have HL:=Lib.hid (show w.heap.size+2<w'.heap.size by have:=hbr.size;rw[dP.out]at this;omega);have x1:=N1.row.OG c2 (by simp) (.bool (!n2));have x2:=N2.row.OG c2 (by simp) (.bool (!n2));obtain⟨w6,pG⟩:∃ w6,w6=w'.setCell ⟨g,2,none⟩ (.bool (!n2)):=⟨_,rfl⟩
  rw[<- pG]at x1 x2
  have hsc:=fun (w5:World) (h5:w5.heap=w6.heap)=>NW n1 (!n2) (some ⟨g1,0,none⟩) (some ⟨g2,0,none⟩) k1 k2 k1 k2 r1 r2 N1.len N2.len N1.le N2.le (Nat.le_refl _) (Nat.le_refl _) w5 (x1.heap h5) (x2.heap h5) N1.lim N2.lim;rw[N1.val,N2.val,R4,Yc,<- Int.sub_eq_add_neg]at hsc
  have HC:=Lib.hid hsc;have hne:¬ g=w.heap.size+1+1:=by have h1:=dP.out;omega
  have gK:¬ w.heap.size+2=g:=by omega
  have f0:=N2.f0;have H6:=Lib.hid pG;have b0:w6.cell? ⟨g,0,none⟩=some (.bool n1):=by rw[pG];exact I1 aC c0
  have b1:w6.cell? ⟨g,1,none⟩=some (.slice (some ⟨g1,0,none⟩) k1 k1):=by rw[pG];exact I1 aC c1
  have b2:w6.cell? ⟨g,2,none⟩=some (.bool (!n2)):=by rw[pG];exact World.cell?_setCell_same' _ _ _ (by rw[c2];rfl)
  have b3:w6.cell? ⟨g,3,none⟩=some (.slice (some ⟨g2,0,none⟩) k2 k2):=by rw[pG];exact I1 aC c3
  have a2:w6.cell? ⟨w.heap.size+2,0,none⟩=some (.bool false):=by rw[pG];exact(cell_far _ _ _ _ _ _ gK).trans e2
  have a3:w6.cell? ⟨w.heap.size+2,1,none⟩=some (.string ⟨#[]⟩):=by rw[pG];exact(cell_far _ _ _ _ _ _ gK).trans e3
  have a4:w6.frozen? ⟨w.heap.size+2,0,none⟩=false:=by rw[pG];simp only[World.frozen?_setCell];exact e4
  have a5:w6.frozen? ⟨w.heap.size+2,1,none⟩=false:=by rw[pG];simp only[World.frozen?_setCell];exact e5
  have K0:Below w.heap.size w w6:=by rw[pG];exact HR.out.setCell (by have:=dP.out;simp;omega) _
  have K1:w.heap.size+2<w6.heap.size:=by rw[pG];simpa using HL.out
  have EP:g<w6.heap.size:=by rw[pG];simpa using hg2
  clear hsc hg hbr N1 N2 pG x1 x2 gK HR HL hg2;have HR:=Lib.hid K0;have HL:=Lib.hid K1;have hg2:=EP;clear K0 K1 EP;go_wp2
  rw[<- H6.out];clear c0 c1 c2 c3 e2 e3 e4 e5 f0;have c0:=b0;have c1:=b1;have c2:=b2;have c3:=b3;have e2:=a2;have e3:=a3;have e4:=a4;have e5:=a5;clear b0 b1 b2 b3 a2 a3 a4 a5;go_region_held3 (fun w'=>w'.cell? ⟨g,0,none⟩=some (.bool n1)/\w'.cell? ⟨g,1,none⟩=some (.slice (some ⟨g1,0,none⟩) k1 k1)/\w'.cell? ⟨g,2,none⟩=some (.bool (!n2))/\w'.cell? ⟨g,3,none⟩=some (.slice (some ⟨g2,0,none⟩) k2 k2)) (first|go_keep|exact⟨y0,y1,y2,y3⟩|exact⟨(cell_far _ _ _ _ _ _ hne).trans ((cell_far _ _ _ _ _ _ hne).trans y0),(cell_far _ _ _ _ _ _ hne).trans ((cell_far _ _ _ _ _ _ hne).trans y1),(cell_far _ _ _ _ _ _ hne).trans ((cell_far _ _ _ _ _ _ hne).trans y2),(cell_far _ _ _ _ _ _ hne).trans ((cell_far _ _ _ _ _ _ hne).trans y3)⟩|exact⟨z0,z1,z2,z3⟩) (first|(go_at_call 104;refine(HC.out _ (by rfl)).mono ?_;rintro e w2 ⟨n,x,r,rfl,hr,hlr,htr,fD,hbr⟩;obtain⟨A,cc,rfl,hrc,hrl⟩:=hr;have z0:=(hbr.cell (p:=⟨g,0,none⟩) hg2).trans c0;have z1:=(hbr.cell (p:=⟨g,1,none⟩) hg2).trans c1;have z2:=(hbr.cell (p:=⟨g,2,none⟩) hg2).trans c2;have z3:=(hbr.cell (p:=⟨g,3,none⟩) hg2).trans c3;have p0:=(hbr.cell (p:=⟨w.heap.size+2,0,none⟩) HL.out).trans e2;have p1:=(hbr.cell (p:=⟨w.heap.size+2,1,none⟩) HL.out).trans e3;have p2:=(hbr.frozen (p:=⟨w.heap.size+2,0,none⟩) HL.out).trans e4;have p3:=(hbr.frozen (p:=⟨w.heap.size+2,1,none⟩) HL.out).trans e5;have bV:=eL HR.out hbr HR.out.size rfl rfl rfl rfl;have hg3:=Nat.lt_of_lt_of_le hg2 hbr.size;have gw:=Nat.lt_of_lt_of_le HL.out hbr.size;clear hbr)|(go_at_call 95;refine(vQ _ _ _ _ r rfl (IG hlr htr fD HV.out) hrc _ (by exact hrl) hlr).mono ?_;rintro e w3 ⟨rfl,bI⟩;have y0:=(bI.cell (p:=⟨g,0,none⟩) hg3).trans z0;have y1:=(bI.cell (p:=⟨g,1,none⟩) hg3).trans z1;have y2:=(bI.cell (p:=⟨g,2,none⟩) hg3).trans z2;have y3:=(bI.cell (p:=⟨g,3,none⟩) hg3).trans z3;have q0:=(bI.cell (p:=⟨w.heap.size+2,0,none⟩) gw).trans p0;have q1:=(bI.cell (p:=⟨w.heap.size+2,1,none⟩) gw).trans p1;have q2:=(bI.frozen (p:=⟨w.heap.size+2,0,none⟩) gw).trans p2;have q3:=(bI.frozen (p:=⟨w.heap.size+2,1,none⟩) gw).trans p3;have bX:=eL bV bI bV.size rfl rfl rfl rfl;clear bI))
  go_wp2
  refine bodyPost_ret (by simp[results,Tryz.results164,go_sem,q0,q1];try rfl) rfl ?_;exact⟨fun h=>absurd rfl h,fun _=>by rw[SP hlr fD];rfl,(bX.setCell (by simp;try omega) _).setCell (by simp;try omega) _⟩
 ·have HC:=Lib.hid (IF n1 s1 n2 s2 _ 2 w4 d0 d1 d2 d3 hb)
  have hz1:(gJ n1 s1 n2 s2==0)=false:=beq_eq_false_iff_ne.mpr hb;have hz2:(gJ n1 s1 n2 s2 != 0)=true:=bne_iff_ne.mpr hb;have HN:=Lib.hid hb;clear d0 d1 d2 d3 u0 u1 u2 u3 u4 u5 hsz hkk hb4 hw4 hb h1 h2;go_enter Tryz.func164,Tryz.ntmps164;go_wp2_with fail
  rw[<- HW.out];refine(HC.out).mono ?_;rintro e w' ⟨rfl,hbr⟩;obtain⟨e0,e1,e2,e3,e4,e5⟩:=HK.out _ hbr;have HR:=Lib.hid (HS.out.trans (hbr.mono (by rw[dP.out];omega)));clear hbr;go_wp2
  refine bodyPost_ret (by simp[results,Tryz.results164,go_sem,e0,e1,e2,e3,e4,e5];try rfl) rfl ?_;exact⟨fun _=>rfl,fun h=>absurd h HN.out,(HR.out.setCell (by simp;try omega) _).setCell (by simp;try omega) _⟩
theorem aih (n1 n2:Bool) (x y:Int):bk (n1 != n2) (x*y)=bk n1 x*bk n2 y:=by
 cases n1 <;> cases n2 <;> simp[bk,Int.neg_mul,Int.mul_neg]
theorem SR {s:ByteArray} (h:Canon s) (h0:0<s.size):0<nv s:=by
 have h1:=(jg s).1;apply Decidable.byContradiction;intro hn;have hz:nv s=0:=by omega
 have:s=dW 0:=XA h (Qn 0 aC) (by rw[hz,RZ aC]);have h2:=xh 0;rw[<- this,vN]at h2
 omega
theorem amS (n1:Bool) (s1:ByteArray) (n2:Bool) (s2:ByteArray) (h1:s1.size<=15000) (h2:s2.size<=15000) (w:World) :
  Calls Tryz.prog 100 #[.agg #[.bool n1,.string s1],.agg #[.bool n2,.string s2]] w (Ej (·*·) n1 s1 n2 s2 w):=by
 obtain⟨w4,hw4⟩:∃ w4,w4=(((w.alloc (.cells #[.bool n1,.string s1] 38)).alloc (.cells #[.bool n2,.string s2] 38)).alloc (.cells #[.bool false,.string ⟨#[]⟩] 38)).alloc (.cells #[.bool n1,.string s1,.bool n2,.string s2] 38):=⟨_,rfl⟩
 have hb4:Below w.heap.size w w4:=by rw[hw4];exact((((Below.refl _ _).alloc (Nat.le_refl _) _).alloc (by simp;try omega) _).alloc (by simp;try omega) _).alloc (by simp;try omega) _
 have d0:w4.cell? ⟨w.heap.size+3,0,none⟩=some (.bool n1):=by rw[hw4];simp[go_sem]
 have d1:w4.cell? ⟨w.heap.size+3,1,none⟩=some (.string s1):=by rw[hw4];simp[go_sem]
 have d2:w4.cell? ⟨w.heap.size+3,2,none⟩=some (.bool n2):=by rw[hw4];simp[go_sem]
 have d3:w4.cell? ⟨w.heap.size+3,3,none⟩=some (.string s2):=by rw[hw4];simp[go_sem]
 have u0:w4.cell? ⟨w.heap.size,0,none⟩=some (.bool n1):=by rw[hw4];simp[go_sem]
 have u1:w4.cell? ⟨w.heap.size+1,0,none⟩=some (.bool n2):=by rw[hw4];simp[go_sem]
 have u2:w4.cell? ⟨w.heap.size+2,0,none⟩=some (.bool false):=by rw[hw4];simp[go_sem]
 have u3:w4.cell? ⟨w.heap.size+2,1,none⟩=some (.string ⟨#[]⟩):=by rw[hw4];simp[go_sem]
 have u4:w4.frozen? ⟨w.heap.size+2,0,none⟩=false:=by rw[hw4];simp[go_sem]
 have u5:w4.frozen? ⟨w.heap.size+2,1,none⟩=false:=by rw[hw4];simp[go_sem]
 have hsz:w4.heap.size=w.heap.size+4:=by rw[hw4];simp
 have hkk:∀ (w':World) (h:Below w4.heap.size w4 w'),w'.cell? ⟨w.heap.size,0,none⟩=some (.bool n1)/\w'.cell? ⟨w.heap.size+1,0,none⟩=some (.bool n2)/\w'.cell? ⟨w.heap.size+2,0,none⟩=some (.bool false)/\w'.cell? ⟨w.heap.size+2,1,none⟩=some (.string ⟨#[]⟩)/\w'.frozen? ⟨w.heap.size+2,0,none⟩=false/\w'.frozen? ⟨w.heap.size+2,1,none⟩=false :=
  fun w' h=>⟨(h.cell (by simp[hsz];try omega)).trans u0,(h.cell (by simp[hsz];try omega)).trans u1,(h.cell (by simp[hsz];try omega)).trans u2,(h.cell (by simp[hsz];try omega)).trans u3,(h.frozen (by simp[hsz];try omega)).trans u4,(h.frozen (by simp[hsz];try omega)).trans u5⟩
 have HW:=Lib.hid hw4;have HS:=Lib.hid hb4;have dP:=Lib.hid hsz;have HK:=Lib.hid hkk;unfold Ej;by_cases hb:gJ n1 s1 n2 s2=0
 ·obtain⟨o1,o2⟩:=Bd.1 hb
  rw[hb];have HC:=Lib.hid (IZ n1 s1 n2 s2 _ 2 w4 d0 d1 d2 d3 o1 o2);have HV:=Lib.hid (afW (n1:=n1) (n2:=n2) h1 h2);clear d0 d1 d2 d3 u0 u1 u2 u3 u4 u5 hsz hkk hb4 hw4 hb o1 o2 h1 h2;go_enter Tryz.func100,Tryz.ntmps100;go_wp2_with fail
  rw[<- HW.out];refine(HC.out).mono ?_;rintro e w' ⟨g,c,g1,k1,r1,g2,k2,r2,rfl,hg,hc,N1,N2,hbr⟩;have c0:=N1.c0;have c1:=N1.c1;have c2:=N2.c0;have c3:=N2.c1;obtain⟨e0,e1,e2,e3,e4,e5⟩:=HK.out _ hbr;have hg2:g<w'.heap.size:=World.block_lt_of_cell? w' _ c0;have HR:=Lib.hid (HS.out.trans (hbr.mono (by rw[dP.out];omega)));have HL:=Lib.hid (show w.heap.size+2<w'.heap.size by have:=hbr.size;rw[dP.out]at this;omega);have hsc:=fun (w5:World) (h5:w5.heap=w'.heap)=>amK (some ⟨g1,0,none⟩) (some ⟨g2,0,none⟩) k1 k2 k1 k2 r1 r2 N1.len N2.len N1.le N2.le w5 (N1.row.heap h5) (N2.row.heap h5) N1.lim N2.lim;rw[N1.val,N2.val]at hsc
  have HC:=Lib.hid hsc;clear hsc hg hbr N1 N2;go_wp2
  go_region_held3 (fun w'=>w'.cell? ⟨g,1,none⟩=some (.slice (some ⟨g1,0,none⟩) k1 k1)/\w'.cell? ⟨g,3,none⟩=some (.slice (some ⟨g2,0,none⟩) k2 k2)) (first|go_keep|exact⟨z1,z3⟩) (first|(go_at_call 136;refine(HC.out _ (by rfl)).mono ?_;rintro e w2 ⟨x,r,rfl,hr,hlr,htr,fD,hbr⟩;obtain⟨A,cc,rfl,hrc,hrl⟩:=hr;have z1:=(hbr.cell (p:=⟨g,1,none⟩) hg2).trans c1;have z3:=(hbr.cell (p:=⟨g,3,none⟩) hg2).trans c3;have p0:=(hbr.cell (p:=⟨w.heap.size,0,none⟩) (Nat.lt_of_le_of_lt (Nat.le_add_right _ 2) HL.out)).trans e0;have p1:=(hbr.cell (p:=⟨w.heap.size+1,0,none⟩) (Nat.lt_of_le_of_lt (Nat.le_add_right _ 1) HL.out)).trans e1;have p2:=(hbr.cell (p:=⟨w.heap.size+2,0,none⟩) HL.out).trans e2;have p3:=(hbr.cell (p:=⟨w.heap.size+2,1,none⟩) HL.out).trans e3;have p4:=(hbr.frozen (p:=⟨w.heap.size+2,0,none⟩) HL.out).trans e4;have p5:=(hbr.frozen (p:=⟨w.heap.size+2,1,none⟩) HL.out).trans e5;have bV:=eL HR.out hbr HR.out.size rfl rfl rfl rfl;have gw:=Nat.lt_of_lt_of_le HL.out hbr.size;clear hbr))
  have V0:bk (n1 != n2) (lv r)=ival n1 s1*ival n2 s2:=by rw[fD];exact aih _ _ _ _
  have HT:=Lib.hid (vQ (n1 != n2) A r.length cc r rfl (IG hlr htr V0 HV.out) hrc _ hrl hlr);have Al:=Lib.hid (And.intro hlr V0);clear fD V0 hlr htr hrl z1 z3 c0 c1 c2 c3 e0 e1 e2 e3 e4 e5;go_wp2_with fail
  refine(HT.out).mono ?_;rintro e w3 ⟨rfl,bI⟩;have q0:=(bI.cell (p:=⟨w.heap.size+2,0,none⟩) gw).trans p2;have q1:=(bI.cell (p:=⟨w.heap.size+2,1,none⟩) gw).trans p3;have q2:=(bI.frozen (p:=⟨w.heap.size+2,0,none⟩) gw).trans p4;have q3:=(bI.frozen (p:=⟨w.heap.size+2,1,none⟩) gw).trans p5;have bX:=Lib.hid (eL bV bI bV.size rfl rfl rfl rfl);clear bI bV;go_wp2
  refine bodyPost_ret (by simp[results,Tryz.results100,go_sem,q0,q1];try rfl) rfl ?_;exact⟨fun h=>absurd rfl h,fun _=>by rw[Al.out.2,SP Al.out.1 Al.out.2];rfl,(bX.out.setCell (by simp;try omega) _).setCell (by simp;try omega) _⟩
 ·have HC:=Lib.hid (IF n1 s1 n2 s2 _ 2 w4 d0 d1 d2 d3 hb)
  have hz1:(gJ n1 s1 n2 s2==0)=false:=beq_eq_false_iff_ne.mpr hb;have hz2:(gJ n1 s1 n2 s2 != 0)=true:=bne_iff_ne.mpr hb;have HN:=Lib.hid hb;clear d0 d1 d2 d3 u0 u1 u2 u3 u4 u5 hsz hkk hb4 hw4 hb h1 h2;go_enter Tryz.func100,Tryz.ntmps100;go_wp2_with fail
  rw[<- HW.out];refine(HC.out).mono ?_;rintro e w' ⟨rfl,hbr⟩;obtain⟨e0,e1,e2,e3,e4,e5⟩:=HK.out _ hbr;have HR:=Lib.hid (HS.out.trans (hbr.mono (by rw[dP.out];omega)));clear hbr;go_wp2
  refine bodyPost_ret (by simp[results,Tryz.results100,go_sem,e0,e1,e2,e3,e4,e5];try rfl) rfl ?_;exact⟨fun _=>rfl,fun h=>absurd h HN.out,(HR.out.setCell (by simp;try omega) _).setCell (by simp;try omega) _⟩
end Go.Proofs.YtcmepkhjggpmeaaGreat
