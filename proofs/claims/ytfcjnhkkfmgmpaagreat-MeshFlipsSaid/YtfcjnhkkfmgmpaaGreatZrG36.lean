import Derived.Test.YtfcjnhkkfmgmpaaGreatZrG34
set_option linter.all false
set_option maxRecDepth 100000
set_option maxHeartbeats 8000000
namespace Go.Proofs.YtfcjnhkkfmgmpaaGreatH.R
open Go.RowKit Go.Proofs.YtfcjnhkkfmgmpaaGreatH.Z Go.Proofs.YtfcjnhkkfmgmpaaGreatW.PrintWords Go.Proofs.YtfcjnhkkfmgmpaaGreatW.PrintLast Go.Proofs.YtfcjnhkkfmgmpaaGreatW.PrintMore
attribute [local go_sem] max2_int min2_int max_two min_two max_three min_three max_four min_four
open Go.Proofs.YtfcjnhkkfmgmpaaGreat Go.Proofs.YtfcjnhkkfmgmpaaGreat.Num in
def gussetref02_Negate.f (a0_0:Bool) (a0_1:ByteArray):Option (Bool × ByteArray):=some ((!a0_0&&decide (0<a0_1.size)),a0_1)
open Go.Proofs.YtfcjnhkkfmgmpaaGreat Go.Proofs.YtfcjnhkkfmgmpaaGreat.Num in
theorem gussetref02_Negate.calls (a0_0:Bool) (a0_1:ByteArray) (r1:Bool) (r2:ByteArray) (w:World) (h:gussetref02_Negate.f a0_0 a0_1=some (r1,r2)) :
  Calls Tryz.prog 90 #[.agg #[.bool a0_0,.string a0_1]] w fun e w'=>e = .returned (.agg #[.bool r1,.string r2])∧Below w.heap.size w w':=by
 unfold gussetref02_Negate.f at h;simp only[Option.some.injEq,Prod.mk.injEq]at h;obtain⟨rfl,rfl⟩:=h;exact negate_r _ _ w
def gussetref05_long.f (a0_0:Bool) (a0_1 a0_2:ByteArray):Option (Bool):=if (a0_1.size:Int) > 100 then (some true) else (some (decide ((a0_2.size:Int) > 100)))
theorem gussetref05_long.calls (a0_0:Bool) (a0_1 a0_2:ByteArray) (r:Bool) (w:World) (h:gussetref05_long.f a0_0 a0_1 a0_2=some r) :
  Calls Tryz.prog 43 #[.agg #[.bool a0_0,.string a0_1,.string a0_2]] w fun e w'=>e = .returned (.bool r)∧Below w.heap.size w w':=by
 have hu40:=Tryz.underlying40;have HB:=qa (Below.refl w.heap.size w);unfold gussetref05_long.f at h;have H:=h;clear h;by_cases c2:(a0_1.size:Int) > 100
 ·rw[if_pos c2]at H
  have c2b0:=decide_eq_true c2;have c2b1:decide (100<a0_1.size)=true:=decide_eq_true (by omega);clear c2;obtain rfl:=Option.some.inj H;go_enter Tryz.func43,Tryz.ntmps43;go_wp2_with (first|((with_reducible refine gate_dst (N:=1) rfl ?_);(try(refine gate_guard (by rfl) ?_;dsimp only));refine zY 1 #[.bool a0_0,.string a0_1,.string a0_2] 40 ?_;intro gb102 hg w3 hbox hb;have BK102:=qa (hbox);have GW102:=zG hg HB;have GE102:=zG hg HB;replace HB:=zS HB hb;clear hb hbox hg;obtain⟨hcz4_0,hcz4_1,hcz4_2,hfz4_0,hfz4_1,hfz4_2⟩:=z3 BK102))
  go_ret
  exact⟨zH,zT HB⟩
 ·rw[if_neg c2]at H
  have c2b0:=decide_eq_false c2;have c2b1:decide (100<a0_1.size)=false:=decide_eq_false (by omega);clear c2;obtain rfl:=Option.some.inj H;go_enter Tryz.func43,Tryz.ntmps43;go_wp2_with (first|((with_reducible refine gate_dst (N:=1) rfl ?_);(try(refine gate_guard (by rfl) ?_;dsimp only));refine zY 1 #[.bool a0_0,.string a0_1,.string a0_2] 40 ?_;intro gb102 hg w5 hbox hb;have BK102:=qa (hbox);have GW102:=zG hg HB;have GE102:=zG hg HB;replace HB:=zS HB hb;clear hb hbox hg;obtain⟨hcz6_0,hcz6_1,hcz6_2,hfz6_0,hfz6_1,hfz6_2⟩:=z3 BK102))
  go_ret
  exact⟨zH,zT HB⟩
def rat_Sign.f (k:Nat) (a0_0:Bool) (a0_1 a0_2:ByteArray):Option (Int × Int):=(rat_Check.f k a0_0 a0_1 a0_2).bind fun t255=>(if t255=0 then (if a0_0=true then (some ((-1),0)) else (if a0_1.toList=([]:List UInt8) then (some (0,0)) else (some (1,0)))) else (some (0,t255)))
theorem rat_Sign.calls (k:Nat) (a0_0:Bool) (a0_1 a0_2:ByteArray) (r1 r2:Int) (w:World) (h:rat_Sign.f k a0_0 a0_1 a0_2=some (r1,r2)) :
  Calls Tryz.prog 80 #[.agg #[.bool a0_0,.string a0_1,.string a0_2]] w fun e w'=>e = .returned (.tuple #[.int .i64 r1,.int .i64 r2])∧Below w.heap.size w w':=by
 have hu40:=Tryz.underlying40;have HB:=qa (Below.refl w.heap.size w);unfold rat_Sign.f at h;have H:=h;clear h;obtain⟨t255,A2,H⟩:=zo H;by_cases c3:t255=0
 ·rw[if_pos c3]at H
  have c3b0:=beq_iff_eq.mpr c3;have c3b1:=bne_eq_false_iff_eq.mpr c3;clear c3;by_cases c4:a0_0=true
  ·subst c4
   rw[if_pos rfl]at H
   simp only[Option.some.injEq,Prod.mk.injEq]at H;obtain⟨rfl,rfl⟩:=H;go_enter Tryz.func80,Tryz.ntmps80;go_wp2_with (first|((with_reducible refine gate_dst (N:=1) rfl ?_);refine zY 1 #[.bool true,.string a0_1,.string a0_2] 40 ?_;intro gb254 hg w5 hbox hb;have BK254:=qa (hbox);have GW254:=zG hg HB;have GE254:=zG hg HB;replace HB:=zS HB hb;clear hb hbox hg;obtain⟨hcz6_0,hcz6_1,hcz6_2,hfz6_0,hfz6_1,hfz6_2⟩:=z3 BK254)|((with_reducible refine gate_callee (f:=95) rfl ?_);refine zO Tryz.func95 (by kernel_rfl) (rat_Check.calls k true a0_1 a0_2 t255 _ A2.out) fun w7 hb=>?_;replace BK254:=zB BK254 hb;replace HB:=zS HB hb;(try clear hb);obtain⟨hcz8_0,hcz8_1,hcz8_2,hfz8_0,hfz8_1,hfz8_2⟩:=z3 BK254))
   go_ret2
   exact⟨zH,zT HB⟩
  ·replace c4:=Bool.eq_false_iff.mpr c4
   subst c4;rw[if_neg zn]at H
   by_cases c9:a0_1.toList=([]:List UInt8)
   ·rw[if_pos c9]at H
    have c9b0:=beq_iff_eq.mpr c9;have c9b1:=bne_eq_false_iff_eq.mpr c9;clear c9;simp only[Option.some.injEq,Prod.mk.injEq]at H;obtain⟨rfl,rfl⟩:=H;go_enter Tryz.func80,Tryz.ntmps80;go_wp2_with (first|((with_reducible refine gate_dst (N:=1) rfl ?_);refine zY 1 #[.bool false,.string a0_1,.string a0_2] 40 ?_;intro gb254 hg w10 hbox hb;have BK254:=qa (hbox);have GW254:=zG hg HB;have GE254:=zG hg HB;replace HB:=zS HB hb;clear hb hbox hg;obtain⟨hcz11_0,hcz11_1,hcz11_2,hfz11_0,hfz11_1,hfz11_2⟩:=z3 BK254)|((with_reducible refine gate_callee (f:=95) rfl ?_);refine zO Tryz.func95 (by kernel_rfl) (rat_Check.calls k false a0_1 a0_2 t255 _ A2.out) fun w12 hb=>?_;replace BK254:=zB BK254 hb;replace HB:=zS HB hb;(try clear hb);obtain⟨hcz13_0,hcz13_1,hcz13_2,hfz13_0,hfz13_1,hfz13_2⟩:=z3 BK254))
    go_ret2
    exact⟨zH,zT HB⟩
   ·rw[if_neg c9]at H
    have c9b0:=beq_eq_false_iff_ne.mpr c9;have c9b1:=bne_iff_ne.mpr c9;simp only[Option.some.injEq,Prod.mk.injEq]at H;obtain⟨rfl,rfl⟩:=H;go_enter Tryz.func80,Tryz.ntmps80;go_wp2_with (first|((with_reducible refine gate_dst (N:=1) rfl ?_);refine zY 1 #[.bool false,.string a0_1,.string a0_2] 40 ?_;intro gb254 hg w14 hbox hb;have BK254:=qa (hbox);have GW254:=zG hg HB;have GE254:=zG hg HB;replace HB:=zS HB hb;clear hb hbox hg;obtain⟨hcz15_0,hcz15_1,hcz15_2,hfz15_0,hfz15_1,hfz15_2⟩:=z3 BK254)|((with_reducible refine gate_callee (f:=95) rfl ?_);refine zO Tryz.func95 (by kernel_rfl) (rat_Check.calls k false a0_1 a0_2 t255 _ A2.out) fun w16 hb=>?_;replace BK254:=zB BK254 hb;replace HB:=zS HB hb;(try clear hb);obtain⟨hcz17_0,hcz17_1,hcz17_2,hfz17_0,hfz17_1,hfz17_2⟩:=z3 BK254))
    go_ret2
    exact⟨zH,zT HB⟩
 ·rw[if_neg c3]at H
  have c3b0:=beq_eq_false_iff_ne.mpr c3;have c3b1:=bne_iff_ne.mpr c3;simp only[Option.some.injEq,Prod.mk.injEq]at H;obtain⟨rfl,rfl⟩:=H;go_enter Tryz.func80,Tryz.ntmps80;go_wp2_with (first|((with_reducible refine gate_dst (N:=1) rfl ?_);refine zY 1 #[.bool a0_0,.string a0_1,.string a0_2] 40 ?_;intro gb254 hg w18 hbox hb;have BK254:=qa (hbox);have GW254:=zG hg HB;have GE254:=zG hg HB;replace HB:=zS HB hb;clear hb hbox hg;obtain⟨hcz19_0,hcz19_1,hcz19_2,hfz19_0,hfz19_1,hfz19_2⟩:=z3 BK254)|((with_reducible refine gate_callee (f:=95) rfl ?_);refine zO Tryz.func95 (by kernel_rfl) (rat_Check.calls k a0_0 a0_1 a0_2 t255 _ A2.out) fun w20 hb=>?_;replace BK254:=zB BK254 hb;replace HB:=zS HB hb;(try clear hb)))
  go_ret2
  exact⟨zH,zT HB⟩
end Go.Proofs.YtfcjnhkkfmgmpaaGreatH.R
namespace Go.Proofs.YtfcjnhkkfmgmpaaGreatH.R
open Go.RowKit Go.Proofs.YtfcjnhkkfmgmpaaGreatH.Z Go.Proofs.YtfcjnhkkfmgmpaaGreatW.PrintWords Go.Proofs.YtfcjnhkkfmgmpaaGreatW.PrintLast Go.Proofs.YtfcjnhkkfmgmpaaGreatW.PrintMore
theorem of_Sub (a0:Bool) (a1 a2:ByteArray) (b0:Bool) (b1 b2:ByteArray) (r1:Bool) (r2 r3:ByteArray) (x:Int)
  (H:Aside0 (∀ w,Calls Tryz.prog 98 #[.agg #[.bool a0,.string a1,.string a2],.agg #[.bool b0,.string b1,.string b2]] w fun e w'=>e = .returned (.tuple #[.agg #[.bool r1,.string r2,.string r3],.int .i64 x])∧Below w.heap.size w w')) (w:World) :
  Calls Tryz.prog 110 #[.func (.func 98) #[] #[],.agg #[.bool a0,.string a1,.string a2],.agg #[.bool b0,.string b1,.string b2]] w fun e w'=>e = .returned (.agg #[.bool r1,.string r2,.string r3])∧Below w.heap.size w w':=by
 have hu:=Tryz.underlying40;have HB:=qa (Below.refl w.heap.size w);go_enter Tryz.func110,Tryz.ntmps110;go_wp2_with (first|((with_reducible refine gate_dst (N:=4) rfl ?_);refine zY 4 #[.bool a0,.string a1,.string a2] 40 ?_;intro p hg w4 hbox hb;have BKp:=qa (hbox);have GWp:=zG hg HB;replace HB:=zS HB hb;clear hb hbox hg)|((with_reducible refine gate_dst (N:=5) rfl ?_);refine zY 5 #[.bool b0,.string b1,.string b2] 40 ?_;intro q hg w5 hbox hb;have BKq:=qa (hbox);have GWq:=zG hg HB;obtain⟨Np_q,Nq_p⟩:=zQ hg BKp;replace BKp:=zB BKp hb;replace HB:=zS HB hb;clear hb hbox hg)|((with_reducible refine gate_dst (N:=6) rfl ?_);refine zY 6 #[.bool false,.string ⟨#[]⟩,.string ⟨#[]⟩] 40 ?_;intro s hg w6 hbox hb;have BKs:=qa (hbox);have GWs:=zG hg HB;obtain⟨Np_s,Ns_p⟩:=zQ hg BKp;obtain⟨Nq_s,Ns_q⟩:=zQ hg BKq;obtain⟨BKp,BKq⟩:=zB2 BKp BKq hb;replace HB:=zS HB hb;clear hb hbox hg;have mpq:=Np_q.out;have mqp:=Nq_p.out;have mps:=Np_s.out;have msp:=Ns_p.out;obtain⟨hc1_0,hc1_1,hc1_2,hf1_0,hf1_1,hf1_2⟩:=z3 BKp;have mqs:=Nq_s.out;have msq:=Ns_q.out;obtain⟨hc2_0,hc2_1,hc2_2,hf2_0,hf2_1,hf2_2⟩:=z3 BKq))
 refine(H.out _).mono ?_;rintro e w12 ⟨rfl,hb⟩;obtain⟨BKp,BKq,BKs⟩:=zB3 BKp BKq BKs hb;replace HB:=zS HB hb;clear hb;go_wp2_with (first|((with_reducible refine gate_dst (N:=7) rfl ?_);refine zY 7 #[.bool false,.string ⟨#[]⟩,.string ⟨#[]⟩] 40 ?_;intro d hg w7 hbox hb;have BKd:=qa (hbox);have GWd:=zG hg HB;obtain⟨Np_d,Nd_p⟩:=zQ hg BKp;obtain⟨Nq_d,Nd_q⟩:=zQ hg BKq;obtain⟨Ns_d,Nd_s⟩:=zQ hg BKs;obtain⟨BKp,BKq,BKs⟩:=zB3 BKp BKq BKs hb;replace HB:=zS HB hb;clear hb hbox hg;have mdp:=Nd_p.out;have mpd:=Np_d.out;have mdq:=Nd_q.out;have mqd:=Nq_d.out;have mds:=Nd_s.out;have msd:=Ns_d.out;obtain⟨hc3_0,hc3_1,hc3_2,hf3_0,hf3_1,hf3_2⟩:=z3 BKd;obtain⟨hc4_0,hc4_1,hc4_2,hf4_0,hf4_1,hf4_2⟩:=z3 BKs))
 refine bodyPost_ret (results_cell_row rfl _ _ s 40 #[.bool r1,.string r2,.string r3] (0,0) _ rfl (by (with_reducible repeat(first|refine blk_drewN ?_ _|refine blk_drew ?_|refine blk_alloc ?_ _));refine zP (cs:=#[.bool r1,.string r2,.string ⟨#[]⟩]) ?_ 2 _;(with_reducible repeat(first|refine blk_drewN ?_ _|refine blk_drew ?_|refine blk_alloc ?_ _));refine zP (cs:=#[.bool r1,.string ⟨#[]⟩,.string ⟨#[]⟩]) ?_ 1 _;(with_reducible repeat(first|refine blk_drewN ?_ _|refine blk_drew ?_|refine blk_alloc ?_ _));refine zP (cs:=#[.bool false,.string ⟨#[]⟩,.string ⟨#[]⟩]) ?_ 0 _;(with_reducible repeat(first|refine blk_drewN ?_ _|refine blk_drew ?_|refine blk_alloc ?_ _));refine blk_far ?_ Ns_d.out _;(with_reducible repeat(first|refine blk_drewN ?_ _|refine blk_drew ?_|refine blk_alloc ?_ _));refine blk_far ?_ Ns_d.out _;(with_reducible repeat(first|refine blk_drewN ?_ _|refine blk_drew ?_|refine blk_alloc ?_ _));refine blk_far ?_ Ns_d.out _;(with_reducible repeat(first|refine blk_drewN ?_ _|refine blk_drew ?_|refine blk_alloc ?_ _));exact BKs.out) Tryz.underlying40 rfl (by kernel_rfl)) rfl ?_;exact⟨zH,zT HB⟩
theorem of_Mul (a0:Bool) (a1 a2:ByteArray) (b0:Bool) (b1 b2:ByteArray) (r1:Bool) (r2 r3:ByteArray) (x:Int)
  (H:Aside0 (∀ w,Calls Tryz.prog 111 #[.agg #[.bool a0,.string a1,.string a2],.agg #[.bool b0,.string b1,.string b2]] w fun e w'=>e = .returned (.tuple #[.agg #[.bool r1,.string r2,.string r3],.int .i64 x])∧Below w.heap.size w w')) (w:World) :
  Calls Tryz.prog 110 #[.func (.func 111) #[] #[],.agg #[.bool a0,.string a1,.string a2],.agg #[.bool b0,.string b1,.string b2]] w fun e w'=>e = .returned (.agg #[.bool r1,.string r2,.string r3])∧Below w.heap.size w w':=by
 have hu:=Tryz.underlying40;have HB:=qa (Below.refl w.heap.size w);go_enter Tryz.func110,Tryz.ntmps110;go_wp2_with (first|((with_reducible refine gate_dst (N:=4) rfl ?_);refine zY 4 #[.bool a0,.string a1,.string a2] 40 ?_;intro p hg w4 hbox hb;have BKp:=qa (hbox);have GWp:=zG hg HB;replace HB:=zS HB hb;clear hb hbox hg)|((with_reducible refine gate_dst (N:=5) rfl ?_);refine zY 5 #[.bool b0,.string b1,.string b2] 40 ?_;intro q hg w5 hbox hb;have BKq:=qa (hbox);have GWq:=zG hg HB;obtain⟨Np_q,Nq_p⟩:=zQ hg BKp;replace BKp:=zB BKp hb;replace HB:=zS HB hb;clear hb hbox hg)|((with_reducible refine gate_dst (N:=6) rfl ?_);refine zY 6 #[.bool false,.string ⟨#[]⟩,.string ⟨#[]⟩] 40 ?_;intro s hg w6 hbox hb;have BKs:=qa (hbox);have GWs:=zG hg HB;obtain⟨Np_s,Ns_p⟩:=zQ hg BKp;obtain⟨Nq_s,Ns_q⟩:=zQ hg BKq;obtain⟨BKp,BKq⟩:=zB2 BKp BKq hb;replace HB:=zS HB hb;clear hb hbox hg;have mpq:=Np_q.out;have mqp:=Nq_p.out;have mps:=Np_s.out;have msp:=Ns_p.out;obtain⟨hc1_0,hc1_1,hc1_2,hf1_0,hf1_1,hf1_2⟩:=z3 BKp;have mqs:=Nq_s.out;have msq:=Ns_q.out;obtain⟨hc2_0,hc2_1,hc2_2,hf2_0,hf2_1,hf2_2⟩:=z3 BKq))
 refine(H.out _).mono ?_;rintro e w12 ⟨rfl,hb⟩;obtain⟨BKp,BKq,BKs⟩:=zB3 BKp BKq BKs hb;replace HB:=zS HB hb;clear hb;go_wp2_with (first|((with_reducible refine gate_dst (N:=7) rfl ?_);refine zY 7 #[.bool false,.string ⟨#[]⟩,.string ⟨#[]⟩] 40 ?_;intro d hg w7 hbox hb;have BKd:=qa (hbox);have GWd:=zG hg HB;obtain⟨Np_d,Nd_p⟩:=zQ hg BKp;obtain⟨Nq_d,Nd_q⟩:=zQ hg BKq;obtain⟨Ns_d,Nd_s⟩:=zQ hg BKs;obtain⟨BKp,BKq,BKs⟩:=zB3 BKp BKq BKs hb;replace HB:=zS HB hb;clear hb hbox hg;have mdp:=Nd_p.out;have mpd:=Np_d.out;have mdq:=Nd_q.out;have mqd:=Nq_d.out;have mds:=Nd_s.out;have msd:=Ns_d.out;obtain⟨hc3_0,hc3_1,hc3_2,hf3_0,hf3_1,hf3_2⟩:=z3 BKd;obtain⟨hc4_0,hc4_1,hc4_2,hf4_0,hf4_1,hf4_2⟩:=z3 BKs))
 refine bodyPost_ret (results_cell_row rfl _ _ s 40 #[.bool r1,.string r2,.string r3] (0,0) _ rfl (by (with_reducible repeat(first|refine blk_drewN ?_ _|refine blk_drew ?_|refine blk_alloc ?_ _));refine zP (cs:=#[.bool r1,.string r2,.string ⟨#[]⟩]) ?_ 2 _;(with_reducible repeat(first|refine blk_drewN ?_ _|refine blk_drew ?_|refine blk_alloc ?_ _));refine zP (cs:=#[.bool r1,.string ⟨#[]⟩,.string ⟨#[]⟩]) ?_ 1 _;(with_reducible repeat(first|refine blk_drewN ?_ _|refine blk_drew ?_|refine blk_alloc ?_ _));refine zP (cs:=#[.bool false,.string ⟨#[]⟩,.string ⟨#[]⟩]) ?_ 0 _;(with_reducible repeat(first|refine blk_drewN ?_ _|refine blk_drew ?_|refine blk_alloc ?_ _));refine blk_far ?_ Ns_d.out _;(with_reducible repeat(first|refine blk_drewN ?_ _|refine blk_drew ?_|refine blk_alloc ?_ _));refine blk_far ?_ Ns_d.out _;(with_reducible repeat(first|refine blk_drewN ?_ _|refine blk_drew ?_|refine blk_alloc ?_ _));refine blk_far ?_ Ns_d.out _;(with_reducible repeat(first|refine blk_drewN ?_ _|refine blk_drew ?_|refine blk_alloc ?_ _));exact BKs.out) Tryz.underlying40 rfl (by kernel_rfl)) rfl ?_;exact⟨zH,zT HB⟩
def rat_over_of_whole_Sub.f (k:Nat) (a0_0:Bool) (a0_1 a0_2:ByteArray) (a1_0:Bool) (a1_1 a1_2:ByteArray):Option (Bool × ByteArray × ByteArray × Int):=rat_over_gen.f rat_do_of_whole_Sub.f k a0_0 a0_1 a0_2 a1_0 a1_1 a1_2
theorem rat_over_of_whole_Sub.calls (k:Nat) (a0_0:Bool) (a0_1 a0_2:ByteArray) (a1_0:Bool) (a1_1 a1_2:ByteArray) (r1:Bool) (r2 r3:ByteArray) (r4:Int) (w:World) (h:rat_over_of_whole_Sub.f k a0_0 a0_1 a0_2 a1_0 a1_1 a1_2=some (r1,r2,r3,r4)) :
  Calls Tryz.prog 112 #[.agg #[.bool a0_0,.string a0_1,.string a0_2],.agg #[.bool a1_0,.string a1_1,.string a1_2],.func (.func 113) #[] #[]] w fun e w'=>e = .returned (.tuple #[.agg #[.bool r1,.string r2,.string r3],.int .i64 r4])∧Below w.heap.size w w' :=
 rat_over_gen.calls 113 _ ⟨fun n s m t r1 r2 w h=>rat_do_of_whole_Sub.calls n s m t r1 r2 w h⟩ k _ _ _ _ _ _ _ _ _ _ w h
end Go.Proofs.YtfcjnhkkfmgmpaaGreatH.R
namespace Go.Proofs.YtfcjnhkkfmgmpaaGreatH.R
open Go.RowKit Go.Proofs.YtfcjnhkkfmgmpaaGreatH.Z Go.Proofs.YtfcjnhkkfmgmpaaGreatW.PrintWords Go.Proofs.YtfcjnhkkfmgmpaaGreatW.PrintLast Go.Proofs.YtfcjnhkkfmgmpaaGreatW.PrintMore
attribute [local go_sem] max2_int min2_int max_two min_two max_three min_three max_four min_four
open Go.Proofs.YtfcjnhkkfmgmpaaGreat Go.Proofs.YtfcjnhkkfmgmpaaGreat.Num in
def gussetref02_Of.f (a0:Int):Option (Bool × ByteArray):=if -9223372036854775808≤a0∧a0≤9223372036854775807 then some ((pv a0).1,(pv a0).2) else none
open Go.Proofs.YtfcjnhkkfmgmpaaGreat Go.Proofs.YtfcjnhkkfmgmpaaGreat.Num in
theorem gussetref02_Of.calls (a0:Int) (r1:Bool) (r2:ByteArray) (w:World) (h:gussetref02_Of.f a0=some (r1,r2)) :
  Calls Tryz.prog 73 #[.int .i64 a0] w fun e w'=>e = .returned (.agg #[.bool r1,.string r2])∧Below w.heap.size w w':=by
 unfold gussetref02_Of.f at h;split at h
 ·rename_i hc
  simp only[Option.some.injEq,Prod.mk.injEq]at h;obtain⟨rfl,rfl⟩:=h;exact of_r a0 hc.1 hc.2 w
 ·exact absurd h (by simp)
end Go.Proofs.YtfcjnhkkfmgmpaaGreatH.R
