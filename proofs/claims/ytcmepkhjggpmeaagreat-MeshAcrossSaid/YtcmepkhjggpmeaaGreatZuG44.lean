import Derived.Test.YtcmepkhjggpmeaaGreatZuG43
set_option linter.all false
set_option maxRecDepth 100000
set_option maxHeartbeats 8000000
namespace Go.Proofs.YtcmepkhjggpmeaaGreat
open Go.RowKit aP Go.Proofs.aF.R Go.Proofs.aF.Z Go.Proofs.aD.aY
def uW (zs:List Int) (n1:Nat) (t k:Int):Int × Int × Int :=
 if sq n1 t k=true then (fT (bK zs (zs.getD (3*t.toNat+nx k.toNat) 0) (zs.getD (3*t.toNat+k.toNat) 0) (3*n1)),fK (bK zs (zs.getD (3*t.toNat+nx k.toNat) 0) (zs.getD (3*t.toNat+k.toNat) 0) (3*n1)),0) else (0,0,1)
theorem Yo (A0 A1 A2:Option Addr) (c0 n1 c1 c2:Nat) (ps:PS) (zs:List Int) (ss:SS) (w:World) (hA:ow w A0 A1 A2 c0 c2 ps zs n1 ss) (K:Nat) (hK:nB.f K ps=some 0) (bn:Nat->Nat->Nat->Int) (hO:CP K ps bn) (hM:n9 ps.length zs n1 ss bn) (t k:Int) :
  Calls Tryz.prog 9 #[.agg #[.slice A0 ps.length c0,.slice A1 n1 c1,.slice A2 ss.length c2],.int .i64 t,.int .i64 k] w fun e w'=>e = .returned (.tuple #[.int .i64 (uW zs n1 t k).1,.int .i64 (uW zs n1 t k).2.1,.int .i64 (uW zs n1 t k).2.2])/\Below w.heap.size w w':=by
 obtain⟨n0,hn0⟩:∃ n,ps.length=n:=⟨_,rfl⟩
 obtain⟨n2,hn2⟩:∃ n,ss.length=n:=⟨_,rfl⟩
 have HL:=qh (show n0<=400/\n1<=900/\n2<=1300 from ⟨hn0 ▸ hM.l0,hM.l1,hn2 ▸ hM.l2⟩);have bu:=qh (MB.new w A0 A1 A2 n0 c0 n1 c1 n2 c2);have s9:=qh (Mq A0 A1 A2 c0 n1 c1 c2 ps zs ss _ (hA.below bu.out.below rfl) K hK bn hO hM);rw[hn0,hn2]at s9
 have H0:=qh hn0;have HA:=qh hA;have HM:=qh hM;rw[hn0,hn2];clear hA hK hO hM hn0 hn2;obtain⟨g,hg⟩:∃ g,w.heap.size=g:=⟨_,rfl⟩
 have HG:=qh hg;rw[hg]at bu
 have q0:=bu.out.b0;have q1:=bu.out.b1;have q2:=bu.out.b2;go_enter Tryz.func9,Tryz.ntmps9;go_wp2_with (refine s9.out.mono ?_;rintro e w2 ⟨kb,B,rfl,hkb,hB,hmp,e0,e1,e2,e3,hb⟩;refine Stop.out ?_)
 refine⟨?_⟩;have jA:=qh (show MB g w A0 A1 A2 n0 c0 n1 c1 n2 c2 w2/\SMap w2 B zs (3*n1)/\w2.cell? ⟨kb,1,none⟩=some (.slice A1 n1 c1)/\w2.cell? ⟨kb,3,none⟩=some (.map (some B)) from ⟨bu.out.step hb,hmp,e1,e3⟩);clear hb hmp hB s9 bu q0 q1 q2 e0 e2 e3 e1 hkb;cases hB:sq n1 t k with
 | false =>
  have uj:=qh (Yk kb A1 n1 c1 w2 jA.out.2.2.1 t k hB);have HR:=qh (show uW zs n1 t k=(0,0,1) from if_neg (by rw[hB];decide));clear hB;go_wp2_with (refine uj.out.mono ?_;rintro e w3 ⟨rfl,hb⟩;refine Stop.out ?_)
  refine⟨?_⟩;have bX:=qh ((jA.out.1.step hb).step ((Below.refl w3.heap.size w3).alloc (Nat.le_refl _) (.cells #[.int .i64 0,.int .i64 0] 73)));clear hb uj jA;go_wp2
  refine bodyPost_ret (by simp[results,Tryz.results9,go_sem];try rfl) rfl ?_;exact⟨by rw[HR.out],by rw[HG.out];exact bX.out.below⟩
 | true =>
  have hR:=hB;unfold sq at hR;simp only[Bool.and_eq_true,decide_eq_true_eq]at hR;obtain⟨⟨⟨a1,a2⟩,a3⟩,a4⟩:=hR;obtain⟨T,rfl⟩:=Int.eq_ofNat_of_zero_le a1;obtain⟨k,rfl⟩:=Int.eq_ofNat_of_zero_le a3;have hT:T<n1:=by omega
  have hk:k<=2:=by omega
  have gA:=qh (HA.out.below jA.out.1.below HG.out.symm);have uj:=qh (Zd kb A1 n1 c1 zs w2 jA.out.2.2.1 gA.out.t T k hT hk (by have:=HL.out;omega));have hac:uW zs n1 (T:Int) (k:Int)=_:=if_pos hB;simp only[Int.toNat_natCast]at hac;have gU:=HM.out.inr (j:=3*T+k) qo;have eE:=HM.out.inr (j:=3*T+nx k) (by unfold nx;split <;> omega);obtain⟨xa,iR⟩:∃ x,zs.getD (3*T+k) 0=x:=⟨_,rfl⟩
  obtain⟨xb,iT⟩:∃ x,zs.getD (3*T+nx k) 0=x:=⟨_,rfl⟩
  rw[iR,iT]at uj hac
  have HR:=qh hac;rw[iR]at gU
  rw[iT]at eE
  have dR:=qh (show(0<=xa/\xa<n0)/\0<=xb/\xb<n0 from H0.out ▸ ⟨gU,eE⟩);clear iR iT hac gU eE hT hk a1 a2 a3 a4 hB gA;go_wp2_with (refine uj.out.mono ?_;rintro e w3 ⟨rfl,hb⟩;refine Stop.out ?_)
  refine⟨?_⟩;have gT:=hb.trans (((Below.refl w3.heap.size w3).alloc (Nat.le_refl _) (.cells #[.int .i64 xa,.int .i64 xb] 73)).mono hb.size)
  have mI:=qh (show MB g w A0 A1 A2 n0 c0 n1 c1 n2 c2 (w3.alloc (.cells #[.int .i64 xa,.int .i64 xb] 73))/\SMap (w3.alloc (.cells #[.int .i64 xa,.int .i64 xb] 73)) B zs (3*n1)/\(w3.alloc (.cells #[.int .i64 xa,.int .i64 xb] 73)).cell? ⟨kb,3,none⟩=some (.map (some B)) from
   ⟨jA.out.1.step gT,jA.out.2.1.below gT jA.out.2.1.lt,(gT.cell (ql jA.out.2.2.2)).trans jA.out.2.2.2⟩)
  have d0:(w3.alloc (.cells #[.int .i64 xa,.int .i64 xb] 73)).cell? ⟨w3.heap.size,0,none⟩=some (.int .i64 xa):=by simp[go_sem]
  have d1:(w3.alloc (.cells #[.int .i64 xa,.int .i64 xb] 73)).cell? ⟨w3.heap.size,1,none⟩=some (.int .i64 xb):=by simp[go_sem]
  clear hb gT uj jA;go_upto_region 7 with fail
  generalize (w3.alloc (.cells #[.int .i64 xa,.int .i64 xb] 73))=w4 at mI d0 d1 ⊢;generalize w3.heap.size=eb at d0 d1 ⊢;have wa:W6 xa:=uH dR.out.1.1 (by have:=HL.out;have:=dR.out;omega);have wb:W6 xb:=uH dR.out.2.1 (by have:=HL.out;have:=dR.out;omega);have xV:=qh (fun W=>S_ xa xb W);have hlk:∀ W,Below w4.heap.size w4 W->_:=fun W hW=>(mI.out.2.1.below hW mI.out.2.1.lt).look wb wa;have k3:=mI.out.2.2;have cQ:w4.cell? ⟨kb,3,none⟩=some (.map (some B))/\w4.cell? ⟨eb,0,none⟩=some (.int .i64 xa)/\w4.cell? ⟨eb,1,none⟩=some (.int .i64 xb)/\Below w4.heap.size w4 w4:=⟨k3,d0,d1,Below.refl _ _⟩
  obtain⟨s1,hs1⟩:∃ x,sT (bK zs xb xa (3*n1))=x:=⟨_,rfl⟩
  obtain⟨s2,hs2⟩:∃ x,sK (bK zs xb xa (3*n1))=x:=⟨_,rfl⟩
  obtain⟨s3,hs3⟩:∃ x,(bK zs xb xa (3*n1)).isSome=x:=⟨_,rfl⟩
  rw[hs1,hs2,hs3]at hlk
  have X1:=qh hs1;have X2:=qh hs2;have X3:=qh hs3;clear hs1 hs2 hs3 wa wb k3 d0 d1;go_cut [12,13] (fun a b wx=>∃ h:Nat,a = .pointer (some ⟨h,0,none⟩)/\b = .bool s3/\Hid ((w4.heap.size<=h/\Below w4.heap.size w4 wx)/\wx.cell? ⟨h,0,none⟩=some (.int .i64 s1)/\wx.cell? ⟨h,1,none⟩=some (.int .i64 s2)))
  case first =>
   go_region_held3 (S3 w4 ⟨kb,3,none⟩ ⟨eb,0,none⟩ ⟨eb,1,none⟩ (.map (some B)) (.int .i64 xa) (.int .i64 xb)) (first|assumption|exact Na (by assumption)|exact Yn _ (by assumption)|exact ZS cQ hS1 (Nat.le_refl _) _ _) (first|(go_at_call 32;refine(xV.out _).mono ?_;rintro e wn ⟨rfl,hbr⟩;have hS1:=SC hbr (by assumption);first|(have p0:=(hbr.cell (p:=⟨w4.heap.size,0,none⟩) (by simp)).trans (show(World.alloc w4 (.cells #[.int .i64 0,.int .i64 0] 77)).cell? ⟨w4.heap.size,0,none⟩=some (.int .i64 0) by simp[go_sem]);have p1:=(hbr.cell (p:=⟨w4.heap.size,1,none⟩) (by simp)).trans (show(World.alloc w4 (.cells #[.int .i64 0,.int .i64 0] 77)).cell? ⟨w4.heap.size,1,none⟩=some (.int .i64 0) by simp[go_sem]);have p2:=(hbr.frozen (p:=⟨w4.heap.size,0,none⟩) (by simp)).trans (show(World.alloc w4 (.cells #[.int .i64 0,.int .i64 0] 77)).frozen? ⟨w4.heap.size,0,none⟩=false by simp[go_sem]);have p3:=(hbr.frozen (p:=⟨w4.heap.size,1,none⟩) (by simp)).trans (show(World.alloc w4 (.cells #[.int .i64 0,.int .i64 0] 77)).frozen? ⟨w4.heap.size,1,none⟩=false by simp[go_sem]))|skip;clear hbr)|fail)
   all_goals go_wp2
   all_goals go_meet
   all_goals refine⟨_,rfl,rfl,qh ⟨⟨?_,(show S3 w4 ⟨kb,3,none⟩ ⟨eb,0,none⟩ ⟨eb,1,none⟩ (.map (some B)) (.int .i64 xa) (.int .i64 xb) _ from by first|assumption|exact Na (by assumption)).2.2.2⟩,?_,?_⟩⟩
   all_goals first|exact Nat.le_refl _|exact hS1.2.2.2.size|(simp[go_sem];done)|(simp[go_sem,p0,p1,p2,p3];done)
  case rest =>
   obtain⟨h,rfl,rfl,HU⟩:=hcut;have f0:=HU.out.2.1;have f1:=HU.out.2.2;have kE:=qh (mI.out.1.step HU.out.1.2);clear hlk cQ mI xV;generalize hfo:bK zs xb xa (3*n1)=fo at X1 X2 X3;cases fo with
   | none =>
    have hs3:s3=false:=X3.out.symm;subst hs3;have gy:=qh (show uW zs n1 (T:Int) (k:Int)=(fT none,fK none,0) by rw[HR.out,hfo]);clear hfo;go_wp2
    refine bodyPost_ret (by simp[results,Tryz.results9,go_sem];try rfl) rfl ?_;exact⟨by rw[gy.out];rfl,by rw[HG.out];exact kE.out.below⟩
   | some j =>
    have hs3:s3=true:=X3.out.symm;subst hs3;have uh:=qh (show s1=fT (some j) from X1.out.symm);have Af:=qh (show s2=fK (some j) from X2.out.symm);have gy:=qh (show uW zs n1 (T:Int) (k:Int)=(fT (some j),fK (some j),0) by rw[HR.out,hfo]);clear hfo X1 X2 X3;go_upto_region 9 with fail
    refine Rk wc qk qk ?_;have f0':=gQ f0;have f1':=gQ f1;clear f0 f1;repeat(go_big_quiet_step (fail))
    refine wpQuiet_nil ?_;intro _ hw';obtain⟨p,rfl⟩:=hw';go_wp2
    refine bodyPost_ret (by simp[results,Tryz.results9,go_sem];try rfl) rfl ?_;exact⟨by rw[gy.out,uh.out,Af.out],by rw[HG.out];exact kE.out.below.trans (p.h.mono (Nat.le_of_lt (ql kE.out.b0)))⟩
def bv (n:Nat):ByteArray:=if n=0 then ⟨#[]⟩ else ⟨#[UInt8.ofNat n]⟩
def CU (x y:Nat):aZ:=⟨⟨⟨false,bv x⟩,bv 1⟩,⟨⟨false,bv y⟩,bv 1⟩⟩
def ps2:PS:=[CU 0 0,CU 2 0,CU 2 2,CU 0 2]
def zs2:List Int:=[0,1,2,0,2,3]
theorem apI:vD.f 0 0=some (false,⟨#[]⟩,⟨#[1]⟩,false,⟨#[]⟩,⟨#[1]⟩):=by decide +kernel
theorem apJ:vD.f 2 0=some (false,⟨#[2]⟩,⟨#[1]⟩,false,⟨#[]⟩,⟨#[1]⟩):=by decide +kernel
theorem apK:vD.f 2 2=some (false,⟨#[2]⟩,⟨#[1]⟩,false,⟨#[2]⟩,⟨#[1]⟩):=by decide +kernel
theorem apL:vD.f 0 2=some (false,⟨#[]⟩,⟨#[1]⟩,false,⟨#[2]⟩,⟨#[1]⟩):=by decide +kernel
structure TW (g:Nat) (w W:World):Prop where
 below:Below g w W
 br:aO (W.heap[g]?=some (.cells rI 26 (0,0)))
theorem TW.step {g:Nat} {w W W':World} (h:TW g w W) (hb:Below W.heap.size W W'):TW g w W':=⟨h.below.trans (hb.mono (Nat.le_of_lt (oh h.br.out))),⟨gP h.br.out hb⟩⟩
theorem apM (w:World) :
  Calls Tryz.prog 29 #[] w fun e w'=>∃ v0 v1,e = .returned (.agg #[v0,v1,.slice none 0 0])/\OM w' w.heap.size v0 v1 (.slice none 0 0) ps2 zs2 2 []/\Below w.heap.size w w':=by
 have HX:=qh (show TW w.heap.size w (w.alloc (.cells rI 26)) from ⟨(Below.refl _ _).alloc (Nat.le_refl _) _,⟨jE _ _⟩⟩);have Ay:=qh (fun W=>vD.calls 0 0 _ _ _ _ _ _ W apI);have LU:=qh (fun W=>vD.calls 2 0 _ _ _ _ _ _ W apJ);have pF:=qh (fun W=>vD.calls 2 2 _ _ _ _ _ _ W apK);have nX:=qh (fun W=>vD.calls 0 2 _ _ _ _ _ _ W apL);obtain⟨g,hg⟩:∃ g,w.heap.size=g:=⟨_,rfl⟩
 have HG:=qh hg;rw[hg]at HX
 go_enter Tryz.func29,Tryz.ntmps29
 go_wp2_with (first
  | (with_reducible refine(Ay.out _).mono ?_;rintro e w1 ⟨rfl,hb⟩;have jC:=qh (HX.out.step hb);clear hb)
  | (with_reducible refine(LU.out _).mono ?_;rintro e w2 ⟨rfl,hb⟩;have sZ:=qh (jC.out.step hb);clear hb)
  | (with_reducible refine(pF.out _).mono ?_;rintro e w3 ⟨rfl,hb⟩;have HX3:=qh (sZ.out.step hb);clear hb)
  | (with_reducible refine(nX.out _).mono ?_;rintro e w4 ⟨rfl,hb⟩;have P6:=qh (HX3.out.step hb);clear hb;refine Stop.out ?_)
  | fail)
 refine⟨?_⟩;obtain⟨b0,b1,b2,b3,b4,b5⟩:=z3 P6.out.br;have hlt:=oh P6.out.br.out;have n1:¬ g=w4.heap.size:=by omega
 have n2:¬ w4.heap.size=g:=by omega
 have n3:¬ g=w4.heap.size+1:=by omega
 have n4:¬ w4.heap.size+1=g:=by omega
 have n5:(g<w4.heap.size)=True:=eq_true hlt;have n6:(g<w4.heap.size+1)=True:=eq_true qo;have O_:(((w4.setCell ⟨g,0,none⟩ (.slice (some ⟨w4.heap.size,0,none⟩) 4 4)).setCell ⟨g,1,none⟩ (.slice (some ⟨w4.heap.size+1,0,none⟩) 2 2)).setCell ⟨g,2,none⟩ (.slice none 0 0)).heap.size=w4.heap.size:=by simp
 have jN:(((w4.setCell ⟨g,0,none⟩ (.slice (some ⟨w4.heap.size,0,none⟩) 4 4)).setCell ⟨g,1,none⟩ (.slice (some ⟨w4.heap.size+1,0,none⟩) 2 2)).setCell ⟨g,2,none⟩ (.slice none 0 0)).heap[g]?=some (.cells #[.slice (some ⟨w4.heap.size,0,none⟩) 4 4,.slice (some ⟨w4.heap.size+1,0,none⟩) 2 2,.slice none 0 0] 26 (0,0)):=nG (nG (nG P6.out.br.out 0 _) 1 _) 2 _;have cL:Below g w (((w4.setCell ⟨g,0,none⟩ (.slice (some ⟨w4.heap.size,0,none⟩) 4 4)).setCell ⟨g,1,none⟩ (.slice (some ⟨w4.heap.size+1,0,none⟩) 2 2)).setCell ⟨g,2,none⟩ (.slice none 0 0)):=((P6.out.below.setCell (p:=⟨g,0,none⟩) (Nat.le_refl _) _).setCell (p:=⟨g,1,none⟩) (Nat.le_refl _) _).setCell (p:=⟨g,2,none⟩) (Nat.le_refl _) _;have hp6:(((((w4.setCell ⟨g,0,none⟩ (.slice (some ⟨w4.heap.size,0,none⟩) 4 4)).setCell ⟨g,1,none⟩ (.slice (some ⟨w4.heap.size+1,0,none⟩) 2 2)).setCell ⟨g,2,none⟩ (.slice none 0 0)).alloc (.cells #[.bool false,.string ⟨#[]⟩,.string ⟨#[1]⟩,.bool false,.string ⟨#[]⟩,.string ⟨#[1]⟩,.bool false,.string ⟨#[2]⟩,.string ⟨#[1]⟩,.bool false,.string ⟨#[]⟩,.string ⟨#[1]⟩,.bool false,.string ⟨#[2]⟩,.string ⟨#[1]⟩,.bool false,.string ⟨#[2]⟩,.string ⟨#[1]⟩,.bool false,.string ⟨#[]⟩,.string ⟨#[1]⟩,.bool false,.string ⟨#[2]⟩,.string ⟨#[1]⟩] 54)).alloc (.cells #[.int .i64 0,.int .i64 1,.int .i64 2,.int .i64 0,.int .i64 2,.int .i64 3] 69)).heap[w4.heap.size]?=some (.cells #[.bool false,.string ⟨#[]⟩,.string ⟨#[1]⟩,.bool false,.string ⟨#[]⟩,.string ⟨#[1]⟩,.bool false,.string ⟨#[2]⟩,.string ⟨#[1]⟩,.bool false,.string ⟨#[]⟩,.string ⟨#[1]⟩,.bool false,.string ⟨#[2]⟩,.string ⟨#[1]⟩,.bool false,.string ⟨#[2]⟩,.string ⟨#[1]⟩,.bool false,.string ⟨#[]⟩,.string ⟨#[1]⟩,.bool false,.string ⟨#[2]⟩,.string ⟨#[1]⟩] 54 (0,0)):=dJ (Ny O_) _;have Le:(((((w4.setCell ⟨g,0,none⟩ (.slice (some ⟨w4.heap.size,0,none⟩) 4 4)).setCell ⟨g,1,none⟩ (.slice (some ⟨w4.heap.size+1,0,none⟩) 2 2)).setCell ⟨g,2,none⟩ (.slice none 0 0)).alloc (.cells #[.bool false,.string ⟨#[]⟩,.string ⟨#[1]⟩,.bool false,.string ⟨#[]⟩,.string ⟨#[1]⟩,.bool false,.string ⟨#[2]⟩,.string ⟨#[1]⟩,.bool false,.string ⟨#[]⟩,.string ⟨#[1]⟩,.bool false,.string ⟨#[2]⟩,.string ⟨#[1]⟩,.bool false,.string ⟨#[2]⟩,.string ⟨#[1]⟩,.bool false,.string ⟨#[]⟩,.string ⟨#[1]⟩,.bool false,.string ⟨#[2]⟩,.string ⟨#[1]⟩] 54)).alloc (.cells #[.int .i64 0,.int .i64 1,.int .i64 2,.int .i64 0,.int .i64 2,.int .i64 3] 69)).heap[w4.heap.size+1]?=some (.cells #[.int .i64 0,.int .i64 1,.int .i64 2,.int .i64 0,.int .i64 2,.int .i64 3] 69 (0,0)):=Ny (by simp);have EP:=dJ (dJ jN (.cells #[.bool false,.string ⟨#[]⟩,.string ⟨#[1]⟩,.bool false,.string ⟨#[]⟩,.string ⟨#[1]⟩,.bool false,.string ⟨#[2]⟩,.string ⟨#[1]⟩,.bool false,.string ⟨#[]⟩,.string ⟨#[1]⟩,.bool false,.string ⟨#[2]⟩,.string ⟨#[1]⟩,.bool false,.string ⟨#[2]⟩,.string ⟨#[1]⟩,.bool false,.string ⟨#[]⟩,.string ⟨#[1]⟩,.bool false,.string ⟨#[2]⟩,.string ⟨#[1]⟩] 54)) (.cells #[.int .i64 0,.int .i64 1,.int .i64 2,.int .i64 0,.int .i64 2,.int .i64 3] 69);have kD:=(cL.alloc (by rw[O_];omega) (.cells #[.bool false,.string ⟨#[]⟩,.string ⟨#[1]⟩,.bool false,.string ⟨#[]⟩,.string ⟨#[1]⟩,.bool false,.string ⟨#[2]⟩,.string ⟨#[1]⟩,.bool false,.string ⟨#[]⟩,.string ⟨#[1]⟩,.bool false,.string ⟨#[2]⟩,.string ⟨#[1]⟩,.bool false,.string ⟨#[2]⟩,.string ⟨#[1]⟩,.bool false,.string ⟨#[]⟩,.string ⟨#[1]⟩,.bool false,.string ⟨#[2]⟩,.string ⟨#[1]⟩] 54)).alloc (by simp;omega) (.cells #[.int .i64 0,.int .i64 1,.int .i64 2,.int .i64 0,.int .i64 2,.int .i64 3] 69);have HR:=qh EP
 have aez:=qh (show OM (((((w4.setCell ⟨g,0,none⟩ (.slice (some ⟨w4.heap.size,0,none⟩) 4 4)).setCell ⟨g,1,none⟩ (.slice (some ⟨w4.heap.size+1,0,none⟩) 2 2)).setCell ⟨g,2,none⟩ (.slice none 0 0)).alloc (.cells #[.bool false,.string ⟨#[]⟩,.string ⟨#[1]⟩,.bool false,.string ⟨#[]⟩,.string ⟨#[1]⟩,.bool false,.string ⟨#[2]⟩,.string ⟨#[1]⟩,.bool false,.string ⟨#[]⟩,.string ⟨#[1]⟩,.bool false,.string ⟨#[2]⟩,.string ⟨#[1]⟩,.bool false,.string ⟨#[2]⟩,.string ⟨#[1]⟩,.bool false,.string ⟨#[]⟩,.string ⟨#[1]⟩,.bool false,.string ⟨#[2]⟩,.string ⟨#[1]⟩] 54)).alloc (.cells #[.int .i64 0,.int .i64 1,.int .i64 2,.int .i64 0,.int .i64 2,.int .i64 3] 69)) w.heap.size (.slice (some ⟨w4.heap.size,0,none⟩) 4 4) (.slice (some ⟨w4.heap.size+1,0,none⟩) 2 2) (.slice none 0 0) ps2 zs2 2 []/\Below w.heap.size w (((((w4.setCell ⟨g,0,none⟩ (.slice (some ⟨w4.heap.size,0,none⟩) 4 4)).setCell ⟨g,1,none⟩ (.slice (some ⟨w4.heap.size+1,0,none⟩) 2 2)).setCell ⟨g,2,none⟩ (.slice none 0 0)).alloc (.cells #[.bool false,.string ⟨#[]⟩,.string ⟨#[1]⟩,.bool false,.string ⟨#[]⟩,.string ⟨#[1]⟩,.bool false,.string ⟨#[2]⟩,.string ⟨#[1]⟩,.bool false,.string ⟨#[]⟩,.string ⟨#[1]⟩,.bool false,.string ⟨#[2]⟩,.string ⟨#[1]⟩,.bool false,.string ⟨#[2]⟩,.string ⟨#[1]⟩,.bool false,.string ⟨#[]⟩,.string ⟨#[1]⟩,.bool false,.string ⟨#[2]⟩,.string ⟨#[1]⟩] 54)).alloc (.cells #[.int .i64 0,.int .i64 1,.int .i64 2,.int .i64 0,.int .i64 2,.int .i64 3] 69)) from
  ⟨⟨⟨_,((((bp.none _ _).snoc (JB _ (CU 0 0)) rfl).snoc (JB _ (CU 2 0)) rfl).snoc (JB _ (CU 2 2)) rfl).snoc (JB _ (CU 0 2)) rfl,Jb (n:=4) hp6 rfl (by rw[hg];omega) qo⟩,Jb (n:=2) Le rfl (by rw[hg];omega) qo,⟨[],bp.none _ _,World.ownsRow_nil _ _ _ _⟩⟩,by rw[hg];exact kD⟩)
 clear O_ jN cL hp6 Le EP kD HX jC sZ HX3 Ay LU pF nX;go_wp2_with (refine bodyPost_ret (results_cell_row rfl _ _ g 26 #[.slice (some ⟨w4.heap.size,0,none⟩) 4 4,.slice (some ⟨w4.heap.size+1,0,none⟩) 2 2,.slice none 0 0] (0,0) _ rfl HR.out Tryz.underlying26 rfl qk) rfl ?_;exact⟨_,_,rfl,aez.out.1,aez.out.2⟩)
end Go.Proofs.YtcmepkhjggpmeaaGreat
