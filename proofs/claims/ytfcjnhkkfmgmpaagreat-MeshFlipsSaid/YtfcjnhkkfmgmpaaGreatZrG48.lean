import Derived.Test.YtfcjnhkkfmgmpaaGreatZrG47
set_option linter.all false
set_option maxRecDepth 100000
set_option maxHeartbeats 8000000
namespace Go.Proofs.YtfcjnhkkfmgmpaaGreat
open Go.RowKit Num Go.Proofs.YtfcjnhkkfmgmpaaGreatH.R Go.Proofs.YtfcjnhkkfmgmpaaGreatH.Z Go.Proofs.YtfcjnhkkfmgmpaaGreatW.PrintWords
def acrO (zs:List Int) (n1:Nat) (t k:Int):Int × Int × Int :=
 if isB n1 t k=true then (fT (fnd zs (zs.getD (3*t.toNat+nx k.toNat) 0) (zs.getD (3*t.toNat+k.toNat) 0) (3*n1)),fK (fnd zs (zs.getD (3*t.toNat+nx k.toNat) 0) (zs.getD (3*t.toNat+k.toNat) 0) (3*n1)),0) else (0,0,1)
theorem across_m (A0 A1 A2:Option Addr) (c0 n1 c1 c2:Nat) (ps:PS) (zs:List Int) (ss:SS) (w:World) (hA:ArgM w A0 A1 A2 c0 c2 ps zs n1 ss) (K:Nat) (hK:mesh_asked.f K ps=some 0) (ori:Nat→Nat→Nat→Int) (hO:OrP K ps ori) (hM:POK ps.length zs n1 ss ori) (t k:Int) :
  Calls Tryz.prog 24 #[.agg #[.slice A0 ps.length c0,.slice A1 n1 c1,.slice A2 ss.length c2],.int .i64 t,.int .i64 k] w fun e w'=>e = .returned (.tuple #[.int .i64 (acrO zs n1 t k).1,.int .i64 (acrO zs n1 t k).2.1,.int .i64 (acrO zs n1 t k).2.2])∧Below w.heap.size w w':=by
 obtain⟨n0,hn0⟩:∃ n,ps.length=n:=⟨_,rfl⟩
 obtain⟨n2,hn2⟩:∃ n,ss.length=n:=⟨_,rfl⟩
 have HL:=qh (show n0≤400∧n1≤900∧n2≤1300 from ⟨hn0 ▸ hM.l0,hM.l1,hn2 ▸ hM.l2⟩);have HB1:=qh (MB.new w A0 A1 A2 n0 c0 n1 c1 n2 c2);have HRD:=qh (mread_ok A0 A1 A2 c0 n1 c1 c2 ps zs ss _ (hA.below HB1.out.below rfl) K hK ori hO hM);rw[hn0,hn2]at HRD
 have H0:=qh hn0;have HA:=qh hA;have HM:=qh hM;rw[hn0,hn2];clear hA hK hO hM hn0 hn2;obtain⟨g,hg⟩:∃ g,w.heap.size=g:=⟨_,rfl⟩
 have HG:=qh hg;rw[hg]at HB1
 have q0:=HB1.out.b0;have q1:=HB1.out.b1;have q2:=HB1.out.b2;go_enter Tryz.func24,Tryz.ntmps24;go_wp2_with (refine HRD.out.mono ?_;rintro e w2 ⟨kb,B,rfl,hkb,hB,hmp,e0,e1,e2,e3,hb⟩;refine Stop.out ?_)
 refine⟨?_⟩;have HF2:=qh (show MB g w A0 A1 A2 n0 c0 n1 c1 n2 c2 w2∧SMap w2 B zs (3*n1)∧w2.cell? ⟨kb,1,none⟩=some (.slice A1 n1 c1)∧w2.cell? ⟨kb,3,none⟩=some (.map (some B)) from ⟨HB1.out.step hb,hmp,e1,e3⟩);clear hb hmp hB HRD HB1 q0 q1 q2 e0 e2 e3 e1 hkb;cases hB:isB n1 t k with
 | false =>
  have HPK:=qh (pick_bad kb A1 n1 c1 w2 HF2.out.2.2.1 t k hB);have HR:=qh (show acrO zs n1 t k=(0,0,1) from if_neg (by rw[hB];decide));clear hB;go_wp2_with (refine HPK.out.mono ?_;rintro e w3 ⟨rfl,hb⟩;refine Stop.out ?_)
  refine⟨?_⟩;have HB3:=qh ((HF2.out.1.step hb).step ((Below.refl w3.heap.size w3).alloc (Nat.le_refl _) (.cells #[.int .i64 0,.int .i64 0] 66)));clear hb HPK HF2;go_wp2
  refine bodyPost_ret (by simp[results,Tryz.results24,go_sem];try rfl) rfl ?_;exact⟨by rw[HR.out],by rw[HG.out];exact HB3.out.below⟩
 | true =>
  have hR:=hB;unfold isB at hR;simp only[Bool.and_eq_true,decide_eq_true_eq]at hR;obtain⟨⟨⟨a1,a2⟩,a3⟩,a4⟩:=hR;obtain⟨T,rfl⟩:=Int.eq_ofNat_of_zero_le a1;obtain⟨k,rfl⟩:=Int.eq_ofNat_of_zero_le a3;have hT:T<n1:=by omega
  have hk:k≤2:=by omega
  have HAw:=qh (HA.out.below HF2.out.1.below HG.out.symm);have HPK:=qh (pick_ok kb A1 n1 c1 zs w2 HF2.out.2.2.1 HAw.out.t T k hT hk (by have:=HL.out;omega));have hac:acrO zs n1 (T:Int) (k:Int)=_:=if_pos hB;simp only[Int.toNat_natCast]at hac;have HM1:=HM.out.inr (j:=3*T+k) (by omega);have HM2:=HM.out.inr (j:=3*T+nx k) (by unfold nx;split <;> omega);obtain⟨xa,hxa⟩:∃ x,zs.getD (3*T+k) 0=x:=⟨_,rfl⟩
  obtain⟨xb,hxb⟩:∃ x,zs.getD (3*T+nx k) 0=x:=⟨_,rfl⟩
  rw[hxa,hxb]at HPK hac
  have HR:=qh hac;rw[hxa]at HM1
  rw[hxb]at HM2
  have HIN:=qh (show(0≤xa∧xa<n0)∧0≤xb∧xb<n0 from H0.out ▸ ⟨HM1,HM2⟩);clear hxa hxb hac HM1 HM2 hT hk a1 a2 a3 a4 hB HAw;go_wp2_with (refine HPK.out.mono ?_;rintro e w3 ⟨rfl,hb⟩;refine Stop.out ?_)
  refine⟨?_⟩;have hal:=hb.trans (((Below.refl w3.heap.size w3).alloc (Nat.le_refl _) (.cells #[.int .i64 xa,.int .i64 xb] 66)).mono hb.size)
  have HF4:=qh (show MB g w A0 A1 A2 n0 c0 n1 c1 n2 c2 (w3.alloc (.cells #[.int .i64 xa,.int .i64 xb] 66))∧SMap (w3.alloc (.cells #[.int .i64 xa,.int .i64 xb] 66)) B zs (3*n1)∧(w3.alloc (.cells #[.int .i64 xa,.int .i64 xb] 66)).cell? ⟨kb,3,none⟩=some (.map (some B)) from
   ⟨HF2.out.1.step hal,HF2.out.2.1.below hal HF2.out.2.1.lt,(hal.cell (ql HF2.out.2.2.2)).trans HF2.out.2.2.2⟩)
  have d0:(w3.alloc (.cells #[.int .i64 xa,.int .i64 xb] 66)).cell? ⟨w3.heap.size,0,none⟩=some (.int .i64 xa):=by simp[go_sem]
  have d1:(w3.alloc (.cells #[.int .i64 xa,.int .i64 xb] 66)).cell? ⟨w3.heap.size,1,none⟩=some (.int .i64 xb):=by simp[go_sem]
  clear hb hal HPK HF2;go_upto_region 7 with fail
  generalize (w3.alloc (.cells #[.int .i64 xa,.int .i64 xb] 66))=w4 at HF4 d0 d1 ⊢;generalize w3.heap.size=eb at d0 d1 ⊢;have wa:W6 xa:=w6_of HIN.out.1.1 (by have:=HL.out;have:=HIN.out;omega);have wb:W6 xb:=w6_of HIN.out.2.1 (by have:=HL.out;have:=HIN.out;omega);have HBK:=qh (fun W=>back_c xa xb W);have hlk:∀ W,Below w4.heap.size w4 W→_:=fun W hW=>(HF4.out.2.1.below hW HF4.out.2.1.lt).look wb wa;have k3:=HF4.out.2.2;have hS0:w4.cell? ⟨kb,3,none⟩=some (.map (some B))∧w4.cell? ⟨eb,0,none⟩=some (.int .i64 xa)∧w4.cell? ⟨eb,1,none⟩=some (.int .i64 xb)∧Below w4.heap.size w4 w4:=⟨k3,d0,d1,Below.refl _ _⟩
  obtain⟨s1,hs1⟩:∃ x,sT (fnd zs xb xa (3*n1))=x:=⟨_,rfl⟩
  obtain⟨s2,hs2⟩:∃ x,sK (fnd zs xb xa (3*n1))=x:=⟨_,rfl⟩
  obtain⟨s3,hs3⟩:∃ x,(fnd zs xb xa (3*n1)).isSome=x:=⟨_,rfl⟩
  rw[hs1,hs2,hs3]at hlk
  have X1:=qh hs1;have X2:=qh hs2;have X3:=qh hs3;clear hs1 hs2 hs3 wa wb k3 d0 d1;go_cut [12,13] (fun a b wx=>∃ h:Nat,a = .pointer (some ⟨h,0,none⟩)∧b = .bool s3∧Hid ((w4.heap.size≤h∧Below w4.heap.size w4 wx)∧wx.cell? ⟨h,0,none⟩=some (.int .i64 s1)∧wx.cell? ⟨h,1,none⟩=some (.int .i64 s2)))
  case first =>
   go_region_held3 (S3 w4 ⟨kb,3,none⟩ ⟨eb,0,none⟩ ⟨eb,1,none⟩ (.map (some B)) (.int .i64 xa) (.int .i64 xb)) (first|assumption|exact s3_drew (by assumption)|exact s3_alloc _ (by assumption)|exact s3_set2 hS0 hS1 (Nat.le_refl _) _ _) (first|(go_at_call 27;refine(HBK.out _).mono ?_;rintro e wn ⟨rfl,hbr⟩;have hS1:=s3_step hbr (by assumption);first|(have p0:=(hbr.cell (p:=⟨w4.heap.size,0,none⟩) (by simp)).trans (show(World.alloc w4 (.cells #[.int .i64 0,.int .i64 0] 70)).cell? ⟨w4.heap.size,0,none⟩=some (.int .i64 0) by simp[go_sem]);have p1:=(hbr.cell (p:=⟨w4.heap.size,1,none⟩) (by simp)).trans (show(World.alloc w4 (.cells #[.int .i64 0,.int .i64 0] 70)).cell? ⟨w4.heap.size,1,none⟩=some (.int .i64 0) by simp[go_sem]);have p2:=(hbr.frozen (p:=⟨w4.heap.size,0,none⟩) (by simp)).trans (show(World.alloc w4 (.cells #[.int .i64 0,.int .i64 0] 70)).frozen? ⟨w4.heap.size,0,none⟩=false by simp[go_sem]);have p3:=(hbr.frozen (p:=⟨w4.heap.size,1,none⟩) (by simp)).trans (show(World.alloc w4 (.cells #[.int .i64 0,.int .i64 0] 70)).frozen? ⟨w4.heap.size,1,none⟩=false by simp[go_sem]))|skip;clear hbr)|fail)
   all_goals go_wp2
   all_goals go_meet
   all_goals refine⟨_,rfl,rfl,qh ⟨⟨?_,(show S3 w4 ⟨kb,3,none⟩ ⟨eb,0,none⟩ ⟨eb,1,none⟩ (.map (some B)) (.int .i64 xa) (.int .i64 xb) _ from by first|assumption|exact s3_drew (by assumption)).2.2.2⟩,?_,?_⟩⟩
   all_goals first|exact Nat.le_refl _|exact hS1.2.2.2.size|(simp[go_sem];done)|(simp[go_sem,p0,p1,p2,p3];done)
  case rest =>
   obtain⟨h,rfl,rfl,HU⟩:=hcut;have f0:=HU.out.2.1;have f1:=HU.out.2.2;have HB5:=qh (HF4.out.1.step HU.out.1.2);clear hlk hS0 HF4 HBK;generalize hfo:fnd zs xb xa (3*n1)=fo at X1 X2 X3;cases fo with
   | none =>
    have hs3:s3=false:=X3.out.symm;subst hs3;have HR2:=qh (show acrO zs n1 (T:Int) (k:Int)=(fT none,fK none,0) by rw[HR.out,hfo]);clear hfo;go_wp2
    refine bodyPost_ret (by simp[results,Tryz.results24,go_sem];try rfl) rfl ?_;exact⟨by rw[HR2.out];rfl,by rw[HG.out];exact HB5.out.below⟩
   | some j =>
    have hs3:s3=true:=X3.out.symm;subst hs3;have HY1:=qh (show s1=fT (some j) from X1.out.symm);have HY2:=qh (show s2=fK (some j) from X2.out.symm);have HR2:=qh (show acrO zs n1 (T:Int) (k:Int)=(fT (some j),fK (some j),0) by rw[HR.out,hfo]);clear hfo X1 X2 X3;go_upto_region 9 with fail
    refine region_bw wc (by kernel_rfl) (by kernel_rfl) ?_;have f0':=bw_cell f0;have f1':=bw_cell f1;clear f0 f1;repeat(go_big_quiet_step (fail))
    refine wpQuiet_nil ?_;intro _ hw';obtain⟨p,rfl⟩:=hw';go_wp2
    refine bodyPost_ret (by simp[results,Tryz.results24,go_sem];try rfl) rfl ?_;exact⟨by rw[HR2.out,HY1.out,HY2.out],by rw[HG.out];exact HB5.out.below.trans (p.h.mono (Nat.le_of_lt (ql HB5.out.b0)))⟩
def bv (n:Nat):ByteArray:=if n=0 then ⟨#[]⟩ else ⟨#[UInt8.ofNat n]⟩
def ptN (x y:Nat):S42:=⟨⟨⟨false,bv x⟩,bv 1⟩,⟨⟨false,bv y⟩,bv 1⟩⟩
def ps2:PS:=[ptN 0 0,ptN 2 0,ptN 2 2,ptN 0 2]
def zs2:List Int:=[0,1,2,0,2,3]
theorem at_00:gussetlaw11_at.f 0 0=some (false,⟨#[]⟩,⟨#[1]⟩,false,⟨#[]⟩,⟨#[1]⟩):=by decide +kernel
theorem at_20:gussetlaw11_at.f 2 0=some (false,⟨#[2]⟩,⟨#[1]⟩,false,⟨#[]⟩,⟨#[1]⟩):=by decide +kernel
theorem at_22:gussetlaw11_at.f 2 2=some (false,⟨#[2]⟩,⟨#[1]⟩,false,⟨#[2]⟩,⟨#[1]⟩):=by decide +kernel
theorem at_02:gussetlaw11_at.f 0 2=some (false,⟨#[]⟩,⟨#[1]⟩,false,⟨#[2]⟩,⟨#[1]⟩):=by decide +kernel
structure TW (g:Nat) (w W:World):Prop where
 below:Below g w W
 br:Aside0 (W.heap[g]?=some (.cells nil3 26 (0,0)))
theorem TW.step {g:Nat} {w W W':World} (h:TW g w W) (hb:Below W.heap.size W W'):TW g w W':=⟨h.below.trans (hb.mono (Nat.le_of_lt (blk_lt h.br.out))),⟨blk_below h.br.out hb⟩⟩
theorem two_m (w:World) :
  Calls Tryz.prog 23 #[] w fun e w'=>∃ v0 v1,e = .returned (.agg #[v0,v1,.slice none 0 0])∧OM w' w.heap.size v0 v1 (.slice none 0 0) ps2 zs2 2 []∧Below w.heap.size w w':=by
 have HX:=qh (show TW w.heap.size w (w.alloc (.cells nil3 26)) from ⟨(Below.refl _ _).alloc (Nat.le_refl _) _,⟨blk_new _ _⟩⟩);have HC0:=qh (fun W=>gussetlaw11_at.calls 0 0 _ _ _ _ _ _ W at_00);have HC1:=qh (fun W=>gussetlaw11_at.calls 2 0 _ _ _ _ _ _ W at_20);have HC2:=qh (fun W=>gussetlaw11_at.calls 2 2 _ _ _ _ _ _ W at_22);have HC3:=qh (fun W=>gussetlaw11_at.calls 0 2 _ _ _ _ _ _ W at_02);obtain⟨g,hg⟩:∃ g,w.heap.size=g:=⟨_,rfl⟩
 have HG:=qh hg;rw[hg]at HX
 go_enter Tryz.func23,Tryz.ntmps23
 go_wp2_with (first
  | (with_reducible refine(HC0.out _).mono ?_;rintro e w1 ⟨rfl,hb⟩;have HX1:=qh (HX.out.step hb);clear hb)
  | (with_reducible refine(HC1.out _).mono ?_;rintro e w2 ⟨rfl,hb⟩;have HX2:=qh (HX1.out.step hb);clear hb)
  | (with_reducible refine(HC2.out _).mono ?_;rintro e w3 ⟨rfl,hb⟩;have HX3:=qh (HX2.out.step hb);clear hb)
  | (with_reducible refine(HC3.out _).mono ?_;rintro e w4 ⟨rfl,hb⟩;have HX4:=qh (HX3.out.step hb);clear hb;refine Stop.out ?_)
  | fail)
 refine⟨?_⟩;obtain⟨b0,b1,b2,b3,b4,b5⟩:=z3 HX4.out.br;have hlt:=blk_lt HX4.out.br.out;have n1:¬ g=w4.heap.size:=by omega
 have n2:¬ w4.heap.size=g:=by omega
 have n3:¬ g=w4.heap.size+1:=by omega
 have n4:¬ w4.heap.size+1=g:=by omega
 have n5:(g<w4.heap.size)=True:=eq_true hlt;have n6:(g<w4.heap.size+1)=True:=eq_true (by omega);have hz5:(((w4.setCell ⟨g,0,none⟩ (.slice (some ⟨w4.heap.size,0,none⟩) 4 4)).setCell ⟨g,1,none⟩ (.slice (some ⟨w4.heap.size+1,0,none⟩) 2 2)).setCell ⟨g,2,none⟩ (.slice none 0 0)).heap.size=w4.heap.size:=by simp
 have hg5:(((w4.setCell ⟨g,0,none⟩ (.slice (some ⟨w4.heap.size,0,none⟩) 4 4)).setCell ⟨g,1,none⟩ (.slice (some ⟨w4.heap.size+1,0,none⟩) 2 2)).setCell ⟨g,2,none⟩ (.slice none 0 0)).heap[g]?=some (.cells #[.slice (some ⟨w4.heap.size,0,none⟩) 4 4,.slice (some ⟨w4.heap.size+1,0,none⟩) 2 2,.slice none 0 0] 26 (0,0)):=blk_set (blk_set (blk_set HX4.out.br.out 0 _) 1 _) 2 _;have hb5:Below g w (((w4.setCell ⟨g,0,none⟩ (.slice (some ⟨w4.heap.size,0,none⟩) 4 4)).setCell ⟨g,1,none⟩ (.slice (some ⟨w4.heap.size+1,0,none⟩) 2 2)).setCell ⟨g,2,none⟩ (.slice none 0 0)):=((HX4.out.below.setCell (p:=⟨g,0,none⟩) (Nat.le_refl _) _).setCell (p:=⟨g,1,none⟩) (Nat.le_refl _) _).setCell (p:=⟨g,2,none⟩) (Nat.le_refl _) _;have hp6:(((((w4.setCell ⟨g,0,none⟩ (.slice (some ⟨w4.heap.size,0,none⟩) 4 4)).setCell ⟨g,1,none⟩ (.slice (some ⟨w4.heap.size+1,0,none⟩) 2 2)).setCell ⟨g,2,none⟩ (.slice none 0 0)).alloc (.cells #[.bool false,.string ⟨#[]⟩,.string ⟨#[1]⟩,.bool false,.string ⟨#[]⟩,.string ⟨#[1]⟩,.bool false,.string ⟨#[2]⟩,.string ⟨#[1]⟩,.bool false,.string ⟨#[]⟩,.string ⟨#[1]⟩,.bool false,.string ⟨#[2]⟩,.string ⟨#[1]⟩,.bool false,.string ⟨#[2]⟩,.string ⟨#[1]⟩,.bool false,.string ⟨#[]⟩,.string ⟨#[1]⟩,.bool false,.string ⟨#[2]⟩,.string ⟨#[1]⟩] 42)).alloc (.cells #[.int .i64 0,.int .i64 1,.int .i64 2,.int .i64 0,.int .i64 2,.int .i64 3] 61)).heap[w4.heap.size]?=some (.cells #[.bool false,.string ⟨#[]⟩,.string ⟨#[1]⟩,.bool false,.string ⟨#[]⟩,.string ⟨#[1]⟩,.bool false,.string ⟨#[2]⟩,.string ⟨#[1]⟩,.bool false,.string ⟨#[]⟩,.string ⟨#[1]⟩,.bool false,.string ⟨#[2]⟩,.string ⟨#[1]⟩,.bool false,.string ⟨#[2]⟩,.string ⟨#[1]⟩,.bool false,.string ⟨#[]⟩,.string ⟨#[1]⟩,.bool false,.string ⟨#[2]⟩,.string ⟨#[1]⟩] 42 (0,0)):=blk_alloc (blk_at hz5) _;have ht6:(((((w4.setCell ⟨g,0,none⟩ (.slice (some ⟨w4.heap.size,0,none⟩) 4 4)).setCell ⟨g,1,none⟩ (.slice (some ⟨w4.heap.size+1,0,none⟩) 2 2)).setCell ⟨g,2,none⟩ (.slice none 0 0)).alloc (.cells #[.bool false,.string ⟨#[]⟩,.string ⟨#[1]⟩,.bool false,.string ⟨#[]⟩,.string ⟨#[1]⟩,.bool false,.string ⟨#[2]⟩,.string ⟨#[1]⟩,.bool false,.string ⟨#[]⟩,.string ⟨#[1]⟩,.bool false,.string ⟨#[2]⟩,.string ⟨#[1]⟩,.bool false,.string ⟨#[2]⟩,.string ⟨#[1]⟩,.bool false,.string ⟨#[]⟩,.string ⟨#[1]⟩,.bool false,.string ⟨#[2]⟩,.string ⟨#[1]⟩] 42)).alloc (.cells #[.int .i64 0,.int .i64 1,.int .i64 2,.int .i64 0,.int .i64 2,.int .i64 3] 61)).heap[w4.heap.size+1]?=some (.cells #[.int .i64 0,.int .i64 1,.int .i64 2,.int .i64 0,.int .i64 2,.int .i64 3] 61 (0,0)):=blk_at (by simp);have hg6:=blk_alloc (blk_alloc hg5 (.cells #[.bool false,.string ⟨#[]⟩,.string ⟨#[1]⟩,.bool false,.string ⟨#[]⟩,.string ⟨#[1]⟩,.bool false,.string ⟨#[2]⟩,.string ⟨#[1]⟩,.bool false,.string ⟨#[]⟩,.string ⟨#[1]⟩,.bool false,.string ⟨#[2]⟩,.string ⟨#[1]⟩,.bool false,.string ⟨#[2]⟩,.string ⟨#[1]⟩,.bool false,.string ⟨#[]⟩,.string ⟨#[1]⟩,.bool false,.string ⟨#[2]⟩,.string ⟨#[1]⟩] 42)) (.cells #[.int .i64 0,.int .i64 1,.int .i64 2,.int .i64 0,.int .i64 2,.int .i64 3] 61);have hb6:=(hb5.alloc (by rw[hz5];omega) (.cells #[.bool false,.string ⟨#[]⟩,.string ⟨#[1]⟩,.bool false,.string ⟨#[]⟩,.string ⟨#[1]⟩,.bool false,.string ⟨#[2]⟩,.string ⟨#[1]⟩,.bool false,.string ⟨#[]⟩,.string ⟨#[1]⟩,.bool false,.string ⟨#[2]⟩,.string ⟨#[1]⟩,.bool false,.string ⟨#[2]⟩,.string ⟨#[1]⟩,.bool false,.string ⟨#[]⟩,.string ⟨#[1]⟩,.bool false,.string ⟨#[2]⟩,.string ⟨#[1]⟩] 42)).alloc (by simp;omega) (.cells #[.int .i64 0,.int .i64 1,.int .i64 2,.int .i64 0,.int .i64 2,.int .i64 3] 61);have HR:=qh hg6
 have HFIN:=qh (show OM (((((w4.setCell ⟨g,0,none⟩ (.slice (some ⟨w4.heap.size,0,none⟩) 4 4)).setCell ⟨g,1,none⟩ (.slice (some ⟨w4.heap.size+1,0,none⟩) 2 2)).setCell ⟨g,2,none⟩ (.slice none 0 0)).alloc (.cells #[.bool false,.string ⟨#[]⟩,.string ⟨#[1]⟩,.bool false,.string ⟨#[]⟩,.string ⟨#[1]⟩,.bool false,.string ⟨#[2]⟩,.string ⟨#[1]⟩,.bool false,.string ⟨#[]⟩,.string ⟨#[1]⟩,.bool false,.string ⟨#[2]⟩,.string ⟨#[1]⟩,.bool false,.string ⟨#[2]⟩,.string ⟨#[1]⟩,.bool false,.string ⟨#[]⟩,.string ⟨#[1]⟩,.bool false,.string ⟨#[2]⟩,.string ⟨#[1]⟩] 42)).alloc (.cells #[.int .i64 0,.int .i64 1,.int .i64 2,.int .i64 0,.int .i64 2,.int .i64 3] 61)) w.heap.size (.slice (some ⟨w4.heap.size,0,none⟩) 4 4) (.slice (some ⟨w4.heap.size+1,0,none⟩) 2 2) (.slice none 0 0) ps2 zs2 2 []∧Below w.heap.size w (((((w4.setCell ⟨g,0,none⟩ (.slice (some ⟨w4.heap.size,0,none⟩) 4 4)).setCell ⟨g,1,none⟩ (.slice (some ⟨w4.heap.size+1,0,none⟩) 2 2)).setCell ⟨g,2,none⟩ (.slice none 0 0)).alloc (.cells #[.bool false,.string ⟨#[]⟩,.string ⟨#[1]⟩,.bool false,.string ⟨#[]⟩,.string ⟨#[1]⟩,.bool false,.string ⟨#[2]⟩,.string ⟨#[1]⟩,.bool false,.string ⟨#[]⟩,.string ⟨#[1]⟩,.bool false,.string ⟨#[2]⟩,.string ⟨#[1]⟩,.bool false,.string ⟨#[2]⟩,.string ⟨#[1]⟩,.bool false,.string ⟨#[]⟩,.string ⟨#[1]⟩,.bool false,.string ⟨#[2]⟩,.string ⟨#[1]⟩] 42)).alloc (.cells #[.int .i64 0,.int .i64 1,.int .i64 2,.int .i64 0,.int .i64 2,.int .i64 3] 61)) from
  ⟨⟨⟨_,((((Reps.none _ _).snoc (k42_mk _ (ptN 0 0)) rfl).snoc (k42_mk _ (ptN 2 0)) rfl).snoc (k42_mk _ (ptN 2 2)) rfl).snoc (k42_mk _ (ptN 0 2)) rfl,own_new (n:=4) hp6 rfl (by rw[hg];omega) (by omega)⟩,own_new (n:=2) ht6 rfl (by rw[hg];omega) (by omega),⟨[],Reps.none _ _,World.ownsRow_nil _ _ _ _⟩⟩,by rw[hg];exact hb6⟩)
 clear hz5 hg5 hb5 hp6 ht6 hg6 hb6 HX HX1 HX2 HX3 HC0 HC1 HC2 HC3;go_wp2_with (refine bodyPost_ret (results_cell_row rfl _ _ g 26 #[.slice (some ⟨w4.heap.size,0,none⟩) 4 4,.slice (some ⟨w4.heap.size+1,0,none⟩) 2 2,.slice none 0 0] (0,0) _ rfl HR.out Tryz.underlying26 rfl (by kernel_rfl)) rfl ?_;exact⟨_,_,rfl,HFIN.out.1,HFIN.out.2⟩)
end Go.Proofs.YtfcjnhkkfmgmpaaGreat
