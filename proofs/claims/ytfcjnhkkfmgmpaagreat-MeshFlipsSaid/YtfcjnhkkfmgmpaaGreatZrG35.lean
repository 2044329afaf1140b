import Derived.Test.YtfcjnhkkfmgmpaaGreatZrG17
set_option linter.all false
set_option maxRecDepth 100000
set_option maxHeartbeats 8000000
namespace Go.Proofs.YtfcjnhkkfmgmpaaGreatH.R
open Go.RowKit Go.Proofs.YtfcjnhkkfmgmpaaGreatH.Z Go.Proofs.YtfcjnhkkfmgmpaaGreatW.PrintWords Go.Proofs.YtfcjnhkkfmgmpaaGreatW.PrintLast Go.Proofs.YtfcjnhkkfmgmpaaGreatW.PrintMore
attribute [local go_sem] max2_int min2_int max_two min_two max_three min_three max_four min_four
def gussetref03_den.f (a0_0:Bool) (a0_1 a0_2:ByteArray):Option (Bool × ByteArray):=some (false,a0_2)
theorem gussetref03_den.calls (a0_0:Bool) (a0_1 a0_2:ByteArray) (r1:Bool) (r2:ByteArray) (w:World) (h:gussetref03_den.f a0_0 a0_1 a0_2=some (r1,r2)) :
  Calls Tryz.prog 78 #[.agg #[.bool a0_0,.string a0_1,.string a0_2]] w fun e w'=>e = .returned (.agg #[.bool r1,.string r2])∧Below w.heap.size w w':=by
 have hu40:=Tryz.underlying40;have hu38:=Tryz.underlying38;have hf0:=zf240;have hf1:=zf241;have hf2:=zf270;have hf3:=zf271;have HB:=qa (Below.refl w.heap.size w);unfold gussetref03_den.f at h;have H:=h;clear h;simp only[Option.some.injEq,Prod.mk.injEq]at H;obtain⟨rfl,rfl⟩:=H;go_enter Tryz.func78,Tryz.ntmps78;go_wp2_with (first|((with_reducible refine gate_dst (N:=1) rfl ?_);refine zY 1 #[.bool a0_0,.string a0_1,.string a0_2] 40 ?_;intro gb103 hg w2 hbox hb;have BK103:=qa (hbox);have GW103:=zG hg HB;have GE103:=zG hg HB;replace HB:=zS HB hb;clear hb hbox hg)|((with_reducible refine gate_dst (N:=2) rfl ?_);refine zY 2 #[.bool false,.string ⟨#[]⟩] 38 ?_;intro gb104 hg w3 hbox hb;have BK104:=qa (hbox);have GW104:=zG hg HB;have GE104:=zG hg HB;obtain⟨NB103_104,NB104_103⟩:=zQ hg BK103;replace BK103:=zB BK103 hb;replace HB:=zS HB hb;clear hb hbox hg;have hnb4:=NB103_104.out;have hnc4:=NB104_103.out;obtain⟨hcz5_0,hcz5_1,hcz5_2,hfz5_0,hfz5_1,hfz5_2⟩:=z3 BK103;obtain⟨hcz6_0,hcz6_1,hfz6_0,hfz6_1⟩:=z2 BK104))
 refine bodyPost_ret (results_cell_row rfl _ _ gb104 38 #[.bool false,.string a0_2] (0,0) _ rfl (by (with_reducible repeat(first|refine blk_drewN ?_ _|refine blk_drew ?_|refine blk_alloc ?_ _));refine zP (cs:=#[.bool false,.string ⟨#[]⟩]) ?_ 1 _;(with_reducible repeat(first|refine blk_drewN ?_ _|refine blk_drew ?_|refine blk_alloc ?_ _));refine zP (cs:=#[.bool false,.string ⟨#[]⟩]) ?_ 0 _;(with_reducible repeat(first|refine blk_drewN ?_ _|refine blk_drew ?_|refine blk_alloc ?_ _));exact BK104.out) Tryz.underlying38 rfl (by kernel_rfl)) rfl ?_;exact⟨zH,zT HB⟩
open Go.Proofs.YtfcjnhkkfmgmpaaGreat Go.Proofs.YtfcjnhkkfmgmpaaGreat.Num in
def gussetref02_Sum.f (a0_0:Bool) (a0_1:ByteArray) (a1_0:Bool) (a1_1:ByteArray):Option (Bool × ByteArray):=if a0_1.size≤4000∧a1_1.size≤4000 then some ((pv (ival a0_0 a0_1+ival a1_0 a1_1)).1,(pv (ival a0_0 a0_1+ival a1_0 a1_1)).2) else none
open Go.Proofs.YtfcjnhkkfmgmpaaGreat Go.Proofs.YtfcjnhkkfmgmpaaGreat.Num in
theorem gussetref02_Sum.calls (a0_0:Bool) (a0_1:ByteArray) (a1_0:Bool) (a1_1:ByteArray) (r1:Bool) (r2:ByteArray) (w:World) (h:gussetref02_Sum.f a0_0 a0_1 a1_0 a1_1=some (r1,r2)) :
  Calls Tryz.prog 89 #[.agg #[.bool a0_0,.string a0_1],.agg #[.bool a1_0,.string a1_1]] w fun e w'=>e = .returned (.agg #[.bool r1,.string r2])∧Below w.heap.size w w':=by
 unfold gussetref02_Sum.f at h;split at h
 ·rename_i hc
  simp only[Option.some.injEq,Prod.mk.injEq]at h;obtain⟨rfl,rfl⟩:=h;exact sum_r _ _ _ _ hc.1 hc.2 w
 ·exact absurd h (by simp)
open Go.Proofs.YtfcjnhkkfmgmpaaGreat Go.Proofs.YtfcjnhkkfmgmpaaGreat.Num in
def gussetref02_Check.f (a0_0:Bool) (a0_1:ByteArray):Option (Int):=some (chk a0_0 a0_1)
open Go.Proofs.YtfcjnhkkfmgmpaaGreat Go.Proofs.YtfcjnhkkfmgmpaaGreat.Num in
theorem gussetref02_Check.calls (a0_0:Bool) (a0_1:ByteArray) (r:Int) (w:World) (h:gussetref02_Check.f a0_0 a0_1=some r) :
  Calls Tryz.prog 84 #[.agg #[.bool a0_0,.string a0_1]] w fun e w'=>e = .returned (.int .i64 r)∧Below w.heap.size w w':=by
 unfold gussetref02_Check.f at h;obtain rfl:=Option.some.inj h;exact check_r _ _ w
open Go.Proofs.YtfcjnhkkfmgmpaaGreat Go.Proofs.YtfcjnhkkfmgmpaaGreat.Num in
def gussetref01_IsNat.f (a0:ByteArray):Option (Bool):=some (natB a0)
open Go.Proofs.YtfcjnhkkfmgmpaaGreat Go.Proofs.YtfcjnhkkfmgmpaaGreat.Num in
theorem gussetref01_IsNat.calls (a0:ByteArray) (r:Bool) (w:World) (h:gussetref01_IsNat.f a0=some r) :
  Calls Tryz.prog 85 #[.string a0] w fun e w'=>e = .returned (.bool r)∧Below w.heap.size w w':=by
 unfold gussetref01_IsNat.f at h;obtain rfl:=Option.some.inj h;exact isnat_r a0 w
open Go.Proofs.YtfcjnhkkfmgmpaaGreat Go.Proofs.YtfcjnhkkfmgmpaaGreat.Num in
def whole_Check.f (a0_0:Bool) (a0_1:ByteArray):Option (Int):=some (chk a0_0 a0_1)
open Go.Proofs.YtfcjnhkkfmgmpaaGreat Go.Proofs.YtfcjnhkkfmgmpaaGreat.Num in
theorem whole_Check.calls (a0_0:Bool) (a0_1:ByteArray) (r:Int) (w:World) (h:whole_Check.f a0_0 a0_1=some r) :
  Calls Tryz.prog 107 #[.agg #[.bool a0_0,.string a0_1]] w fun e w'=>e = .returned (.int .i64 r)∧Below w.heap.size w w':=by
 unfold whole_Check.f at h;obtain rfl:=Option.some.inj h;exact check_c _ _ w
def rat_den.f (a0_0:Bool) (a0_1 a0_2:ByteArray):Option (Bool × ByteArray):=some (false,a0_2)
theorem rat_den.calls (a0_0:Bool) (a0_1 a0_2:ByteArray) (r1:Bool) (r2:ByteArray) (w:World) (h:rat_den.f a0_0 a0_1 a0_2=some (r1,r2)) :
  Calls Tryz.prog 108 #[.agg #[.bool a0_0,.string a0_1,.string a0_2]] w fun e w'=>e = .returned (.agg #[.bool r1,.string r2])∧Below w.heap.size w w':=by
 have hu40:=Tryz.underlying40;have hu38:=Tryz.underlying38;have hf0:=zf240;have hf1:=zf241;have hf2:=zf270;have hf3:=zf271;have HB:=qa (Below.refl w.heap.size w);unfold rat_den.f at h;have H:=h;clear h;simp only[Option.some.injEq,Prod.mk.injEq]at H;obtain⟨rfl,rfl⟩:=H;go_enter Tryz.func108,Tryz.ntmps108;go_wp2_with (first|((with_reducible refine gate_dst (N:=1) rfl ?_);refine zY 1 #[.bool a0_0,.string a0_1,.string a0_2] 40 ?_;intro gb225 hg w2 hbox hb;have BK225:=qa (hbox);have GW225:=zG hg HB;have GE225:=zG hg HB;replace HB:=zS HB hb;clear hb hbox hg)|((with_reducible refine gate_dst (N:=2) rfl ?_);refine zY 2 #[.bool false,.string ⟨#[]⟩] 38 ?_;intro gb226 hg w3 hbox hb;have BK226:=qa (hbox);have GW226:=zG hg HB;have GE226:=zG hg HB;obtain⟨NB225_226,NB226_225⟩:=zQ hg BK225;replace BK225:=zB BK225 hb;replace HB:=zS HB hb;clear hb hbox hg;have hnb4:=NB225_226.out;have hnc4:=NB226_225.out;obtain⟨hcz5_0,hcz5_1,hcz5_2,hfz5_0,hfz5_1,hfz5_2⟩:=z3 BK225;obtain⟨hcz6_0,hcz6_1,hfz6_0,hfz6_1⟩:=z2 BK226))
 refine bodyPost_ret (results_cell_row rfl _ _ gb226 38 #[.bool false,.string a0_2] (0,0) _ rfl (by (with_reducible repeat(first|refine blk_drewN ?_ _|refine blk_drew ?_|refine blk_alloc ?_ _));refine zP (cs:=#[.bool false,.string ⟨#[]⟩]) ?_ 1 _;(with_reducible repeat(first|refine blk_drewN ?_ _|refine blk_drew ?_|refine blk_alloc ?_ _));refine zP (cs:=#[.bool false,.string ⟨#[]⟩]) ?_ 0 _;(with_reducible repeat(first|refine blk_drewN ?_ _|refine blk_drew ?_|refine blk_alloc ?_ _));exact BK226.out) Tryz.underlying38 rfl (by kernel_rfl)) rfl ?_;exact⟨zH,zT HB⟩
open Go.Proofs.YtfcjnhkkfmgmpaaGreat Go.Proofs.YtfcjnhkkfmgmpaaGreat.Num in
def rat_do_of_whole_Gcd.f (a0_0:Bool) (a0_1:ByteArray) (a1_0:Bool) (a1_1:ByteArray):Option (Bool × ByteArray):=(whole_Gcd.f a0_0 a0_1 a1_0 a1_1).map fun r=>(r.1,r.2.1)
open Go.Proofs.YtfcjnhkkfmgmpaaGreat Go.Proofs.YtfcjnhkkfmgmpaaGreat.Num in
theorem rat_do_of_whole_Gcd.calls (a0_0:Bool) (a0_1:ByteArray) (a1_0:Bool) (a1_1:ByteArray) (r1:Bool) (r2:ByteArray) (w:World) (h:rat_do_of_whole_Gcd.f a0_0 a0_1 a1_0 a1_1=some (r1,r2)) :
  Calls Tryz.prog 122 #[.func (.func 109) #[] #[],.agg #[.bool a0_0,.string a0_1],.agg #[.bool a1_0,.string a1_1]] w fun e w'=>e = .returned (.agg #[.bool r1,.string r2])∧Below w.heap.size w w':=by
 unfold rat_do_of_whole_Gcd.f at h;obtain⟨⟨x1,x2,x3⟩,hx,he⟩:=Option.map_eq_some_iff.1 h;simp only[Prod.mk.injEq]at he;obtain⟨rfl,rfl⟩:=he;exact do_Gcd _ _ _ _ _ _ _ (qh fun w=>whole_Gcd.calls _ _ _ _ _ _ _ w hx) w
open Go.Proofs.YtfcjnhkkfmgmpaaGreat Go.Proofs.YtfcjnhkkfmgmpaaGreat.Num in
def whole_Div.f (a0_0:Bool) (a0_1:ByteArray) (a1_0:Bool) (a1_1:ByteArray):Option (Bool × ByteArray × Bool × ByteArray × Int):=if a0_1.size≤15000∧a1_1.size≤15000 then some ((quoF (a0_0,a0_1) (a1_0,a1_1)).1.1,(quoF (a0_0,a0_1) (a1_0,a1_1)).1.2,(quoF (a0_0,a0_1) (a1_0,a1_1)).2.1.1,(quoF (a0_0,a0_1) (a1_0,a1_1)).2.1.2,(quoF (a0_0,a0_1) (a1_0,a1_1)).2.2) else none
open Go.Proofs.YtfcjnhkkfmgmpaaGreat Go.Proofs.YtfcjnhkkfmgmpaaGreat.Num in
theorem whole_Div.calls (a0_0:Bool) (a0_1:ByteArray) (a1_0:Bool) (a1_1:ByteArray) (r1:Bool) (r2:ByteArray) (r3:Bool) (r4:ByteArray) (r5:Int) (w:World) (h:whole_Div.f a0_0 a0_1 a1_0 a1_1=some (r1,r2,r3,r4,r5)) :
  Calls Tryz.prog 137 #[.agg #[.bool a0_0,.string a0_1],.agg #[.bool a1_0,.string a1_1]] w fun e w'=>e = .returned (.tuple #[.agg #[.bool r1,.string r2],.agg #[.bool r3,.string r4],.int .i64 r5])∧Below w.heap.size w w':=by
 unfold whole_Div.f at h;split at h
 ·rename_i hc
  simp only[Option.some.injEq,Prod.mk.injEq]at h;obtain⟨rfl,rfl,rfl,rfl,rfl⟩:=h;exact quo_f2 (a0_0,a0_1) (a1_0,a1_1) hc.1 hc.2 w
 ·exact absurd h (by simp)
open Go.Proofs.YtfcjnhkkfmgmpaaGreat Go.Proofs.YtfcjnhkkfmgmpaaGreat.Num in
def rat_do_of_whole_Mul.f (a0_0:Bool) (a0_1:ByteArray) (a1_0:Bool) (a1_1:ByteArray):Option (Bool × ByteArray):=(whole_Mul.f a0_0 a0_1 a1_0 a1_1).map fun r=>(r.1,r.2.1)
open Go.Proofs.YtfcjnhkkfmgmpaaGreat Go.Proofs.YtfcjnhkkfmgmpaaGreat.Num in
theorem rat_do_of_whole_Mul.calls (a0_0:Bool) (a0_1:ByteArray) (a1_0:Bool) (a1_1:ByteArray) (r1:Bool) (r2:ByteArray) (w:World) (h:rat_do_of_whole_Mul.f a0_0 a0_1 a1_0 a1_1=some (r1,r2)) :
  Calls Tryz.prog 122 #[.func (.func 123) #[] #[],.agg #[.bool a0_0,.string a0_1],.agg #[.bool a1_0,.string a1_1]] w fun e w'=>e = .returned (.agg #[.bool r1,.string r2])∧Below w.heap.size w w':=by
 unfold rat_do_of_whole_Mul.f at h;obtain⟨⟨x1,x2,x3⟩,hx,he⟩:=Option.map_eq_some_iff.1 h;simp only[Prod.mk.injEq]at he;obtain⟨rfl,rfl⟩:=he;exact do_Mul _ _ _ _ _ _ _ (qh fun w=>whole_Mul.calls _ _ _ _ _ _ _ w hx) w
open Go.Proofs.YtfcjnhkkfmgmpaaGreat Go.Proofs.YtfcjnhkkfmgmpaaGreat.Num in
def whole_Sub.f (a0_0:Bool) (a0_1:ByteArray) (a1_0:Bool) (a1_1:ByteArray):Option (Bool × ByteArray × Int):=if a0_1.size≤15000∧a1_1.size≤15000 then some ((binF (·-·) (a0_0,a0_1) (a1_0,a1_1)).1.1,(binF (·-·) (a0_0,a0_1) (a1_0,a1_1)).1.2,(binF (·-·) (a0_0,a0_1) (a1_0,a1_1)).2) else none
open Go.Proofs.YtfcjnhkkfmgmpaaGreat Go.Proofs.YtfcjnhkkfmgmpaaGreat.Num in
theorem whole_Sub.calls (a0_0:Bool) (a0_1:ByteArray) (a1_0:Bool) (a1_1:ByteArray) (r1:Bool) (r2:ByteArray) (r3:Int) (w:World) (h:whole_Sub.f a0_0 a0_1 a1_0 a1_1=some (r1,r2,r3)) :
  Calls Tryz.prog 113 #[.agg #[.bool a0_0,.string a0_1],.agg #[.bool a1_0,.string a1_1]] w fun e w'=>e = .returned (.tuple #[.agg #[.bool r1,.string r2],.int .i64 r3])∧Below w.heap.size w w':=by
 unfold whole_Sub.f at h;split at h
 ·rename_i hc
  simp only[Option.some.injEq,Prod.mk.injEq]at h;obtain⟨rfl,rfl,rfl⟩:=h;exact(sub_f (a0_0,a0_1) (a1_0,a1_1) hc.1 hc.2).out w
 ·exact absurd h (by simp)
open Go.Proofs.YtfcjnhkkfmgmpaaGreat Go.Proofs.YtfcjnhkkfmgmpaaGreat.Num in
def rat_do_of_whole_Sub.f (a0_0:Bool) (a0_1:ByteArray) (a1_0:Bool) (a1_1:ByteArray):Option (Bool × ByteArray):=(whole_Sub.f a0_0 a0_1 a1_0 a1_1).map fun r=>(r.1,r.2.1)
open Go.Proofs.YtfcjnhkkfmgmpaaGreat Go.Proofs.YtfcjnhkkfmgmpaaGreat.Num in
theorem rat_do_of_whole_Sub.calls (a0_0:Bool) (a0_1:ByteArray) (a1_0:Bool) (a1_1:ByteArray) (r1:Bool) (r2:ByteArray) (w:World) (h:rat_do_of_whole_Sub.f a0_0 a0_1 a1_0 a1_1=some (r1,r2)) :
  Calls Tryz.prog 122 #[.func (.func 113) #[] #[],.agg #[.bool a0_0,.string a0_1],.agg #[.bool a1_0,.string a1_1]] w fun e w'=>e = .returned (.agg #[.bool r1,.string r2])∧Below w.heap.size w w':=by
 unfold rat_do_of_whole_Sub.f at h;obtain⟨⟨x1,x2,x3⟩,hx,he⟩:=Option.map_eq_some_iff.1 h;simp only[Prod.mk.injEq]at he;obtain⟨rfl,rfl⟩:=he;exact do_Sub _ _ _ _ _ _ _ (qh fun w=>whole_Sub.calls _ _ _ _ _ _ _ w hx) w
theorem eqA55 (d:Nat) (w:World) (x0 y0 x1 y1:Int) (x2 y2:Bool) :
  (Op.equalIn (d+2) 55 (.agg #[.int .i64 x0,.int .i64 x1,.bool x2]) (.agg #[.int .i64 y0,.int .i64 y1,.bool y2])).run Tryz.prog w = .ok (x0==y0&&(x1==y1&&(x2==y2))) w:=by
 refine eqA_of Tryz.underlying55 (by kernel_rfl) ?_;refine eqf_cons (by rfl) (by go_simp;rfl) (by go_simp;rfl) (by go_simp) ?_;refine eqf_cons (by rfl) (by go_simp;rfl) (by go_simp;rfl) (by go_simp) ?_;exact eqf_last (by rfl) (by go_simp;rfl) (by go_simp;rfl) (by go_simp)
end Go.Proofs.YtfcjnhkkfmgmpaaGreatH.R
