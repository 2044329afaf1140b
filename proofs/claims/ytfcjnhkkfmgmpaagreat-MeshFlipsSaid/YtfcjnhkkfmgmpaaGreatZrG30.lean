import Derived.Test.YtfcjnhkkfmgmpaaGreatZrG36
set_option linter.all false
set_option maxRecDepth 100000
set_option maxHeartbeats 8000000
namespace Go.Proofs.YtfcjnhkkfmgmpaaGreatH.R
open Go.RowKit Go.Proofs.YtfcjnhkkfmgmpaaGreatH.Z Go.Proofs.YtfcjnhkkfmgmpaaGreatW.PrintWords Go.Proofs.YtfcjnhkkfmgmpaaGreatW.PrintLast Go.Proofs.YtfcjnhkkfmgmpaaGreatW.PrintMore
attribute [local go_sem] max2_int min2_int max_two min_two max_three min_three max_four min_four
def gussetref03_Sign.f (a0_0:Bool) (a0_1 a0_2:ByteArray):Option (Int):=if a0_0=true then (some (-1)) else (if a0_1.toList=([]:List UInt8) then (some 0) else (some 1))
theorem gussetref03_Sign.calls (a0_0:Bool) (a0_1 a0_2:ByteArray) (r:Int) (w:World) (h:gussetref03_Sign.f a0_0 a0_1 a0_2=some r) :
  Calls Tryz.prog 53 #[.agg #[.bool a0_0,.string a0_1,.string a0_2]] w fun e w'=>e = .returned (.int .i64 r)∧Below w.heap.size w w':=by
 have hu40:=Tryz.underlying40;have HB:=qa (Below.refl w.heap.size w);unfold gussetref03_Sign.f at h;have H:=h;clear h;by_cases c2:a0_0=true
 ·subst c2
  rw[if_pos rfl]at H
  obtain rfl:=Option.some.inj H;go_enter Tryz.func53,Tryz.ntmps53;go_wp2_with (first|((with_reducible refine gate_dst (N:=1) rfl ?_);refine zY 1 #[.bool true,.string a0_1,.string a0_2] 40 ?_;intro gb124 hg w3 hbox hb;have BK124:=qa (hbox);have GW124:=zG hg HB;have GE124:=zG hg HB;replace HB:=zS HB hb;clear hb hbox hg;obtain⟨hcz4_0,hcz4_1,hcz4_2,hfz4_0,hfz4_1,hfz4_2⟩:=z3 BK124))
  go_ret
  exact⟨zH,zT HB⟩
 ·replace c2:=Bool.eq_false_iff.mpr c2
  subst c2;rw[if_neg zn]at H
  by_cases c5:a0_1.toList=([]:List UInt8)
  ·rw[if_pos c5]at H
   have c5b0:=beq_iff_eq.mpr c5;have c5b1:=bne_eq_false_iff_eq.mpr c5;clear c5;obtain rfl:=Option.some.inj H;go_enter Tryz.func53,Tryz.ntmps53;go_wp2_with (first|((with_reducible refine gate_dst (N:=1) rfl ?_);refine zY 1 #[.bool false,.string a0_1,.string a0_2] 40 ?_;intro gb124 hg w6 hbox hb;have BK124:=qa (hbox);have GW124:=zG hg HB;have GE124:=zG hg HB;replace HB:=zS HB hb;clear hb hbox hg;obtain⟨hcz7_0,hcz7_1,hcz7_2,hfz7_0,hfz7_1,hfz7_2⟩:=z3 BK124))
   go_ret
   exact⟨zH,zT HB⟩
  ·rw[if_neg c5]at H
   have c5b0:=beq_eq_false_iff_ne.mpr c5;have c5b1:=bne_iff_ne.mpr c5;obtain rfl:=Option.some.inj H;go_enter Tryz.func53,Tryz.ntmps53;go_wp2_with (first|((with_reducible refine gate_dst (N:=1) rfl ?_);refine zY 1 #[.bool false,.string a0_1,.string a0_2] 40 ?_;intro gb124 hg w8 hbox hb;have BK124:=qa (hbox);have GW124:=zG hg HB;have GE124:=zG hg HB;replace HB:=zS HB hb;clear hb hbox hg;obtain⟨hcz9_0,hcz9_1,hcz9_2,hfz9_0,hfz9_1,hfz9_2⟩:=z3 BK124))
   go_ret
   exact⟨zH,zT HB⟩
def gussetref03_Negate.f (a0_0:Bool) (a0_1 a0_2:ByteArray):Option (Bool × ByteArray × ByteArray):=(gussetref02_Negate.f a0_0 a0_1).bind fun bt152=>(some (bt152.1,bt152.2,a0_2))
theorem gussetref03_Negate.calls (a0_0:Bool) (a0_1 a0_2:ByteArray) (r1:Bool) (r2 r3:ByteArray) (w:World) (h:gussetref03_Negate.f a0_0 a0_1 a0_2=some (r1,r2,r3)) :
  Calls Tryz.prog 75 #[.agg #[.bool a0_0,.string a0_1,.string a0_2]] w fun e w'=>e = .returned (.agg #[.bool r1,.string r2,.string r3])∧Below w.heap.size w w':=by
 have hu40:=Tryz.underlying40;have hu38:=Tryz.underlying38;have hf0:=zf240;have hf1:=zf241;have hf2:=zf270;have hf3:=zf271;have HB:=qa (Below.refl w.heap.size w);unfold gussetref03_Negate.f at h;have H:=h;clear h;obtain⟨⟨t152,t153⟩,A2,H⟩:=zo H;try dsimp only at H
 simp only[Option.some.injEq,Prod.mk.injEq]at H;obtain⟨rfl,rfl,rfl⟩:=H;go_enter Tryz.func75,Tryz.ntmps75;try go_wp2_with (first|((with_reducible refine gate_dst (N:=1) rfl ?_);refine zY 1 #[.bool a0_0,.string a0_1,.string a0_2] 40 ?_;intro gb150 hg w3 hbox hb;have BK150:=qa (hbox);have GW150:=zG hg HB;have GE150:=zG hg HB;replace HB:=zS HB hb;clear hb hbox hg)|((with_reducible refine gate_dst (N:=2) rfl ?_);refine zY 2 #[.bool false,.string ⟨#[]⟩,.string ⟨#[]⟩] 40 ?_;intro gb151 hg w4 hbox hb;have BK151:=qa (hbox);have GW151:=zG hg HB;have GE151:=zG hg HB;obtain⟨NB150_151,NB151_150⟩:=zQ hg BK150;replace BK150:=zB BK150 hb;replace HB:=zS HB hb;clear hb hbox hg))
 replace BK150:=zD BK150;replace BK151:=zD BK151;replace HB:=zF HB;refine start_ (n:=7) (S:=fun w'=>w'.cell? ⟨gb150,0,none⟩=some (.bool a0_0)∧w'.cell? ⟨gb150,1,none⟩=some (.string a0_1)∧w'.cell? ⟨gb150,2,none⟩=some (.string a0_2)) (ds:=[]) (zb 7 0) (by kernel_rfl) rfl rfl ⟨zc BK150 0,zc BK150 1,zc BK150 2⟩ (fun hHeld=>?_);generalize w4.drew=w5 at BK150 BK151 HB hHeld ⊢;refine pure_ (i:=0) (N:=some 3) (v:=?_) (a':=?_) (zb 7 1) rfl rfl (by kernel_rfl) (fun _ _ _ h=>h) (Or.inl ⟨by rfl,?_⟩) ?_ ?_;rotate_left
 ·intro w'
  go_simp
  with_reducible rfl
 rotate_left
 ·simp only[Act.put,List.setIfInBounds_toArray,List.set_cons_zero,List.set_cons_succ,i64_w,i32_w]
  rfl
 refine pure_ (i:=3) (N:=some 6) (v:=?_) (a':=?_) (zb 7 9) rfl rfl (by kernel_rfl) (fun _ _ _ h=>h) (Or.inl ⟨by rfl,?_⟩) ?_ ?_;rotate_left
 ·intro w'
  go_simp
  with_reducible rfl
 rotate_left
 ·simp only[Act.put,List.setIfInBounds_toArray,List.set_cons_zero,List.set_cons_succ,i64_w,i32_w]
  rfl
 refine take_ (i:=1) (N:=some 4) (v:=?_) (a':=?_) (zb 7 11) rfl rfl (by kernel_rfl) (fun _ _ _ h=>h) (Or.inl ⟨by rfl,?_⟩) hHeld ?_ ?_;rotate_left
 ·rintro w' ⟨s0,s1,s2⟩
  go_simp
  with_reducible rfl
 rotate_left
 ·simp only[Act.put,List.setIfInBounds_toArray,List.set_cons_zero,List.set_cons_succ,i64_w,i32_w]
  rfl
 refine take_ (i:=4) (N:=some 7) (v:=?_) (a':=?_) (zb 7 27) rfl rfl (by kernel_rfl) (fun _ _ _ h=>h) (Or.inl ⟨by rfl,?_⟩) hHeld ?_ ?_;rotate_left
 ·rintro w' ⟨s0,s1,s2⟩
  go_simp
  with_reducible rfl
 rotate_left
 ·simp only[Act.put,List.setIfInBounds_toArray,List.set_cons_zero,List.set_cons_succ,i64_w,i32_w]
  rfl
 refine one_ (i:=2) (N:=some 5) (zb 7 31) rfl rfl (by kernel_rfl) (by decide) (fun K hK=>?_);refine zJ Tryz.func90 (by kernel_rfl) (gussetref02_Negate.calls a0_0 a0_1 t152 t153 _ A2.out) fun w6 hb=>?_;obtain⟨BK150,BK151⟩:=zB2 BK150 BK151 hb;replace HB:=zS HB hb
 (try clear hb)
 refine hK.out _ _ ⟨zc BK150 0,zc BK150 1,zc BK150 2⟩ (fun hHeld=>?_);clear hK K;refine zW (some 5) ?_;refine pure_ (i:=5) (N:=some 8) (v:=?_) (a':=?_) (zb 7 63) rfl rfl (by kernel_rfl) (fun _ _ _ h=>h) (Or.inl ⟨by rfl,?_⟩) ?_ ?_;rotate_left
 ·intro w'
  go_simp
  with_reducible rfl
 rotate_left
 ·simp only[Act.put,List.setIfInBounds_toArray,List.set_cons_zero,List.set_cons_succ,i64_w,i32_w]
  rfl
 refine one_ (i:=6) (N:=none) (zb 7 127) rfl rfl (by kernel_rfl) (by decide) (fun K hK=>?_);have hs7:w6.cell? ⟨gb151,0,none⟩=some (.bool false):=zc BK151 0;have hfs7:=blk_frozen BK151.out 0;have hns7_0:=NB150_151.out;have hms7_0:=NB151_150.out;have hs8:w6.cell? ⟨gb151,1,none⟩=some (.string ⟨#[]⟩):=zc BK151 1;have hfs8:=blk_frozen BK151.out 1;have hns8_0:=NB150_151.out;have hms8_0:=NB151_150.out;have hs9:w6.cell? ⟨gb151,2,none⟩=some (.string ⟨#[]⟩):=zc BK151 2;have hfs9:=blk_frozen BK151.out 2;have hns9_0:=NB150_151.out;have hms9_0:=NB151_150.out;refine skip_ (w1:=?_) (by rfl) rfl ?_ ?_;rotate_left
 ·go_simp
  rfl
 refine hK.out _ _ ⟨((cell_far (p:=⟨gb151,_,none⟩) NB150_151.out _).trans (((cell_far (p:=⟨gb151,_,none⟩) NB150_151.out _).trans (((cell_far (p:=⟨gb151,_,none⟩) NB150_151.out _).trans (hHeld.1)))))),((cell_far (p:=⟨gb151,_,none⟩) NB150_151.out _).trans (((cell_far (p:=⟨gb151,_,none⟩) NB150_151.out _).trans (((cell_far (p:=⟨gb151,_,none⟩) NB150_151.out _).trans (hHeld.2.1)))))),((cell_far (p:=⟨gb151,_,none⟩) NB150_151.out _).trans (((cell_far (p:=⟨gb151,_,none⟩) NB150_151.out _).trans (((cell_far (p:=⟨gb151,_,none⟩) NB150_151.out _).trans (hHeld.2.2))))))⟩ (fun hHeld=>?_);clear hK K;refine done_ (by kernel_rfl) ?_;try go_wp2
 refine bodyPost_ret (results_cell_row rfl _ _ gb151 40 #[.bool t152,.string t153,.string a0_2] (0,0) _ rfl (by (with_reducible repeat(first|refine blk_drewN ?_ _|refine blk_drew ?_|refine blk_alloc ?_ _));refine zP (cs:=#[.bool t152,.string t153,.string ⟨#[]⟩]) ?_ 2 _;(with_reducible repeat(first|refine blk_drewN ?_ _|refine blk_drew ?_|refine blk_alloc ?_ _));refine zP (cs:=#[.bool t152,.string ⟨#[]⟩,.string ⟨#[]⟩]) ?_ 1 _;(with_reducible repeat(first|refine blk_drewN ?_ _|refine blk_drew ?_|refine blk_alloc ?_ _));refine zP (cs:=#[.bool false,.string ⟨#[]⟩,.string ⟨#[]⟩]) ?_ 0 _;(with_reducible repeat(first|refine blk_drewN ?_ _|refine blk_drew ?_|refine blk_alloc ?_ _));exact BK151.out) Tryz.underlying40 rfl (by kernel_rfl)) rfl ?_;exact⟨zH,zT HB⟩
def vec_points.l0:Nat→List (S42)→Int→Int→Option (Int)
 | 0,_,_,_=>none
 | k+1,x6,x7,x8=>if x8<x7 then (if 0≤x8 then (if x8<(x6.length:Int) then ((vec_Check.f k ((rd_T42 x6 x8).f0.f0.f0) ((rd_T42 x6 x8).f0.f0.f1) ((rd_T42 x6 x8).f0.f1) ((rd_T42 x6 x8).f1.f0.f0) ((rd_T42 x6 x8).f1.f0.f1) ((rd_T42 x6 x8).f1.f1)).bind fun t261=>(if t261=0 then (vec_points.l0 k x6 x7 (wrap64 (x8+1))) else (some t261))) else (none)) else (none)) else (some 0)
def vec_points.f (k:Nat) (l0:List (S42)):Option (Int):=vec_points.l0 k l0 (l0.length:Int) 0
theorem vec_points.calls (k:Nat) (A0:Option Addr) (c0:Nat) (l0:List (S42)) (r:Int) (w:World) (hr0:Kd.C k42 w A0 l0.length l0) (hc0:l0.length≤c0) (h:vec_points.f k l0=some r) :
  Calls Tryz.prog 96 #[.slice A0 l0.length c0] w fun e w'=>e = .returned (.int .i64 r)∧Below w.heap.size w w':=by
 have hu42:=Tryz.underlying42;have HR0:=qa hr0;have HC0:=qa hc0;clear hr0 hc0;have HB:=qa (Below.refl w.heap.size w);unfold vec_points.f at h;have H:=h;clear h;have H':=qa H;clear H;go_enter Tryz.func96,Tryz.ntmps96;go_wp2
 go_loopg [8] k (fun kq v8 w'=>∃ (x8_1:Int),v8 = .int .i64 x8_1∧Aside0 (vec_points.l0 kq l0 (l0.length:Int) x8_1=some r)∧Aside0 (kq≤k)∧Aside0 (Below w.heap.size w w'))
 case atStart=>exact⟨(0),zR,H',⟨Nat.le_refl _⟩,⟨zT HB⟩⟩
 case round =>
  clear H';obtain⟨x8_1,rfl,HA,HK1,HB⟩:=hrel;cases gk with
  | zero=>exact absurd HA.out (by simp[vec_points.l0])
  | succ k1 =>
   have H:=HA.out;clear HA;simp only[vec_points.l0]at H;by_cases c2:x8_1<(l0.length:Int)
   ·rw[if_pos c2]at H
    have c2b0:=decide_eq_true c2;clear c2;by_cases c3:0≤x8_1
    ·rw[if_pos c3]at H
     have c3b0:=decide_eq_true c3;clear c3;by_cases c4:x8_1<(l0.length:Int)
     ·rw[if_pos c4]at H
      have c4b0:=decide_eq_true c4;clear c4;obtain⟨t261,A5,H⟩:=zo H;by_cases c6:t261=0
      ·rw[if_pos c6]at H
       have c6b0:=beq_iff_eq.mpr c6;have c6b1:=bne_eq_false_iff_eq.mpr c6;clear c6;have H':=qa H;clear H;have p259:0≤(x8_1:Int):=of_decide_eq_true (by first|(with_reducible assumption)|assumption);have q259:x8_1<(l0.length:Int):=of_decide_eq_true (by first|(with_reducible assumption)|assumption);obtain⟨ad259,e259,hx259_0,hx259_1,hx259_2,hx259_3,hx259_4,hx259_5⟩:=at_T42 HR0.out x8_1 p259 q259;cases e259;replace hx259_0:=(HB.out.cell (World.block_lt_of_cell? w _ hx259_0)).trans hx259_0;replace hx259_1:=(HB.out.cell (World.block_lt_of_cell? w _ hx259_1)).trans hx259_1;replace hx259_2:=(HB.out.cell (World.block_lt_of_cell? w _ hx259_2)).trans hx259_2;replace hx259_3:=(HB.out.cell (World.block_lt_of_cell? w _ hx259_3)).trans hx259_3;replace hx259_4:=(HB.out.cell (World.block_lt_of_cell? w _ hx259_4)).trans hx259_4;replace hx259_5:=(HB.out.cell (World.block_lt_of_cell? w _ hx259_5)).trans hx259_5;replace p259:=eq_true p259;replace q259:=eq_true q259;go_wp2_with (first|((with_reducible refine gate_dst (N:=4) rfl ?_);refine zY 4 #[.bool false,.string ⟨#[]⟩,.string ⟨#[]⟩,.bool false,.string ⟨#[]⟩,.string ⟨#[]⟩] 42 ?_;intro gb260 hg w7 hbox hb;have BK260:=qa (hbox);have GW260:=zG hg HB;have GE260:=zG hg HB;replace HB:=zS HB hb;clear hb hbox hg;obtain⟨hcz8_0,hcz8_1,hcz8_2,hcz8_3,hcz8_4,hcz8_5,hfz8_0,hfz8_1,hfz8_2,hfz8_3,hfz8_4,hfz8_5⟩:=z6 BK260)|((with_reducible refine gate_callee (f:=66) rfl ?_);refine zO Tryz.func66 (by kernel_rfl) (vec_Check.calls k1 ((rd_T42 l0 x8_1).f0.f0.f0) ((rd_T42 l0 x8_1).f0.f0.f1) ((rd_T42 l0 x8_1).f0.f1) ((rd_T42 l0 x8_1).f1.f0.f0) ((rd_T42 l0 x8_1).f1.f0.f1) ((rd_T42 l0 x8_1).f1.f1) t261 _ A5.out) fun w9 hb=>?_;replace BK260:=qa (blk_below (g:=gb260) (o := .cells #[.bool ((rd_T42 l0 x8_1).f0.f0.f0),.string ((rd_T42 l0 x8_1).f0.f0.f1),.string ((rd_T42 l0 x8_1).f0.f1),.bool ((rd_T42 l0 x8_1).f1.f0.f0),.string ((rd_T42 l0 x8_1).f1.f0.f1),.string ((rd_T42 l0 x8_1).f1.f1)] 42 (0,0)) (by (with_reducible repeat(first|refine blk_drewN ?_ _|refine blk_drew ?_|refine blk_alloc ?_ _));refine zP (cs:=#[.bool ((rd_T42 l0 x8_1).f0.f0.f0),.string ((rd_T42 l0 x8_1).f0.f0.f1),.string ((rd_T42 l0 x8_1).f0.f1),.bool ((rd_T42 l0 x8_1).f1.f0.f0),.string ((rd_T42 l0 x8_1).f1.f0.f1),.string ⟨#[]⟩]) ?_ 5 _;(with_reducible repeat(first|refine blk_drewN ?_ _|refine blk_drew ?_|refine blk_alloc ?_ _));refine zP (cs:=#[.bool ((rd_T42 l0 x8_1).f0.f0.f0),.string ((rd_T42 l0 x8_1).f0.f0.f1),.string ((rd_T42 l0 x8_1).f0.f1),.bool ((rd_T42 l0 x8_1).f1.f0.f0),.string ⟨#[]⟩,.string ⟨#[]⟩]) ?_ 4 _;(with_reducible repeat(first|refine blk_drewN ?_ _|refine blk_drew ?_|refine blk_alloc ?_ _));refine zP (cs:=#[.bool ((rd_T42 l0 x8_1).f0.f0.f0),.string ((rd_T42 l0 x8_1).f0.f0.f1),.string ((rd_T42 l0 x8_1).f0.f1),.bool false,.string ⟨#[]⟩,.string ⟨#[]⟩]) ?_ 3 _;(with_reducible repeat(first|refine blk_drewN ?_ _|refine blk_drew ?_|refine blk_alloc ?_ _));refine zP (cs:=#[.bool ((rd_T42 l0 x8_1).f0.f0.f0),.string ((rd_T42 l0 x8_1).f0.f0.f1),.string ⟨#[]⟩,.bool false,.string ⟨#[]⟩,.string ⟨#[]⟩]) ?_ 2 _;(with_reducible repeat(first|refine blk_drewN ?_ _|refine blk_drew ?_|refine blk_alloc ?_ _));refine zP (cs:=#[.bool ((rd_T42 l0 x8_1).f0.f0.f0),.string ⟨#[]⟩,.string ⟨#[]⟩,.bool false,.string ⟨#[]⟩,.string ⟨#[]⟩]) ?_ 1 _;(with_reducible repeat(first|refine blk_drewN ?_ _|refine blk_drew ?_|refine blk_alloc ?_ _));refine zP (cs:=#[.bool false,.string ⟨#[]⟩,.string ⟨#[]⟩,.bool false,.string ⟨#[]⟩,.string ⟨#[]⟩]) ?_ 0 _;(with_reducible repeat(first|refine blk_drewN ?_ _|refine blk_drew ?_|refine blk_alloc ?_ _));exact BK260.out) hb);replace HB:=zS HB hb;(try clear hb)))
       go_roundg k1
       case measure=>have:=HK1.out;omega
       case rel=>exact⟨(wrap64 (x8_1+1)),zR,H',⟨by have:=HK1.out;omega⟩,⟨zT HB⟩⟩
      ·rw[if_neg c6]at H
       have c6b0:=beq_eq_false_iff_ne.mpr c6;have c6b1:=bne_iff_ne.mpr c6;obtain rfl:=Option.some.inj H;have p259:0≤(x8_1:Int):=of_decide_eq_true (by first|(with_reducible assumption)|assumption);have q259:x8_1<(l0.length:Int):=of_decide_eq_true (by first|(with_reducible assumption)|assumption);obtain⟨ad259,e259,hx259_0,hx259_1,hx259_2,hx259_3,hx259_4,hx259_5⟩:=at_T42 HR0.out x8_1 p259 q259;cases e259;replace hx259_0:=(HB.out.cell (World.block_lt_of_cell? w _ hx259_0)).trans hx259_0;replace hx259_1:=(HB.out.cell (World.block_lt_of_cell? w _ hx259_1)).trans hx259_1;replace hx259_2:=(HB.out.cell (World.block_lt_of_cell? w _ hx259_2)).trans hx259_2;replace hx259_3:=(HB.out.cell (World.block_lt_of_cell? w _ hx259_3)).trans hx259_3;replace hx259_4:=(HB.out.cell (World.block_lt_of_cell? w _ hx259_4)).trans hx259_4;replace hx259_5:=(HB.out.cell (World.block_lt_of_cell? w _ hx259_5)).trans hx259_5;replace p259:=eq_true p259;replace q259:=eq_true q259;go_wp2_with (first|((with_reducible refine gate_dst (N:=4) rfl ?_);refine zY 4 #[.bool false,.string ⟨#[]⟩,.string ⟨#[]⟩,.bool false,.string ⟨#[]⟩,.string ⟨#[]⟩] 42 ?_;intro gb260 hg w10 hbox hb;have BK260:=qa (hbox);have GW260:=zG hg HB;have GE260:=zG hg HB;replace HB:=zS HB hb;clear hb hbox hg;obtain⟨hcz11_0,hcz11_1,hcz11_2,hcz11_3,hcz11_4,hcz11_5,hfz11_0,hfz11_1,hfz11_2,hfz11_3,hfz11_4,hfz11_5⟩:=z6 BK260)|((with_reducible refine gate_callee (f:=66) rfl ?_);refine zO Tryz.func66 (by kernel_rfl) (vec_Check.calls k1 ((rd_T42 l0 x8_1).f0.f0.f0) ((rd_T42 l0 x8_1).f0.f0.f1) ((rd_T42 l0 x8_1).f0.f1) ((rd_T42 l0 x8_1).f1.f0.f0) ((rd_T42 l0 x8_1).f1.f0.f1) ((rd_T42 l0 x8_1).f1.f1) t261 _ A5.out) fun w12 hb=>?_;replace BK260:=qa (blk_below (g:=gb260) (o := .cells #[.bool ((rd_T42 l0 x8_1).f0.f0.f0),.string ((rd_T42 l0 x8_1).f0.f0.f1),.string ((rd_T42 l0 x8_1).f0.f1),.bool ((rd_T42 l0 x8_1).f1.f0.f0),.string ((rd_T42 l0 x8_1).f1.f0.f1),.string ((rd_T42 l0 x8_1).f1.f1)] 42 (0,0)) (by (with_reducible repeat(first|refine blk_drewN ?_ _|refine blk_drew ?_|refine blk_alloc ?_ _));refine zP (cs:=#[.bool ((rd_T42 l0 x8_1).f0.f0.f0),.string ((rd_T42 l0 x8_1).f0.f0.f1),.string ((rd_T42 l0 x8_1).f0.f1),.bool ((rd_T42 l0 x8_1).f1.f0.f0),.string ((rd_T42 l0 x8_1).f1.f0.f1),.string ⟨#[]⟩]) ?_ 5 _;(with_reducible repeat(first|refine blk_drewN ?_ _|refine blk_drew ?_|refine blk_alloc ?_ _));refine zP (cs:=#[.bool ((rd_T42 l0 x8_1).f0.f0.f0),.string ((rd_T42 l0 x8_1).f0.f0.f1),.string ((rd_T42 l0 x8_1).f0.f1),.bool ((rd_T42 l0 x8_1).f1.f0.f0),.string ⟨#[]⟩,.string ⟨#[]⟩]) ?_ 4 _;(with_reducible repeat(first|refine blk_drewN ?_ _|refine blk_drew ?_|refine blk_alloc ?_ _));refine zP (cs:=#[.bool ((rd_T42 l0 x8_1).f0.f0.f0),.string ((rd_T42 l0 x8_1).f0.f0.f1),.string ((rd_T42 l0 x8_1).f0.f1),.bool false,.string ⟨#[]⟩,.string ⟨#[]⟩]) ?_ 3 _;(with_reducible repeat(first|refine blk_drewN ?_ _|refine blk_drew ?_|refine blk_alloc ?_ _));refine zP (cs:=#[.bool ((rd_T42 l0 x8_1).f0.f0.f0),.string ((rd_T42 l0 x8_1).f0.f0.f1),.string ⟨#[]⟩,.bool false,.string ⟨#[]⟩,.string ⟨#[]⟩]) ?_ 2 _;(with_reducible repeat(first|refine blk_drewN ?_ _|refine blk_drew ?_|refine blk_alloc ?_ _));refine zP (cs:=#[.bool ((rd_T42 l0 x8_1).f0.f0.f0),.string ⟨#[]⟩,.string ⟨#[]⟩,.bool false,.string ⟨#[]⟩,.string ⟨#[]⟩]) ?_ 1 _;(with_reducible repeat(first|refine blk_drewN ?_ _|refine blk_drew ?_|refine blk_alloc ?_ _));refine zP (cs:=#[.bool false,.string ⟨#[]⟩,.string ⟨#[]⟩,.bool false,.string ⟨#[]⟩,.string ⟨#[]⟩]) ?_ 0 _;(with_reducible repeat(first|refine blk_drewN ?_ _|refine blk_drew ?_|refine blk_alloc ?_ _));exact BK260.out) hb);replace HB:=zS HB hb;(try clear hb)))
       go_ret
       exact⟨zH,zT HB⟩
     ·rw[if_neg c4]at H
      exact absurd H (by simp)
    ·rw[if_neg c3]at H
     exact absurd H (by simp)
   ·rw[if_neg c2]at H
    have c2b0:=decide_eq_false c2;clear c2;obtain rfl:=Option.some.inj H;go_wp2
    go_ret
    exact⟨zH,zT HB⟩
def gussetref03_Of.f (a0:Int):Option (Bool × ByteArray × ByteArray):=(gussetref02_Of.f a0).bind fun bt433=>(some (bt433.1,bt433.2,(⟨#[1]⟩:ByteArray)))
theorem gussetref03_Of.calls (a0:Int) (r1:Bool) (r2 r3:ByteArray) (w:World) (h:gussetref03_Of.f a0=some (r1,r2,r3)) :
  Calls Tryz.prog 61 #[.int .i64 a0] w fun e w'=>e = .returned (.agg #[.bool r1,.string r2,.string r3])∧Below w.heap.size w w':=by
 have hu40:=Tryz.underlying40;have HB:=qa (Below.refl w.heap.size w);unfold gussetref03_Of.f at h;have H:=h;clear h;obtain⟨⟨t433,t434⟩,A2,H⟩:=zo H;try dsimp only at H
 simp only[Option.some.injEq,Prod.mk.injEq]at H;obtain⟨rfl,rfl,rfl⟩:=H;go_enter Tryz.func61,Tryz.ntmps61;go_wp2_with (first|((with_reducible refine gate_dst (N:=2) rfl ?_);refine zY 2 #[.bool false,.string ⟨#[]⟩,.string ⟨#[]⟩] 40 ?_;intro gb432 hg w3 hbox hb;have BK432:=qa (hbox);have GW432:=zG hg HB;have GE432:=zG hg HB;replace HB:=zS HB hb;clear hb hbox hg)|((with_reducible refine gate_callee (f:=73) rfl ?_);refine zO Tryz.func73 (by kernel_rfl) (gussetref02_Of.calls a0 t433 t434 _ A2.out) fun w4 hb=>?_;replace BK432:=zB BK432 hb;replace HB:=zS HB hb;(try clear hb);obtain⟨hcz5_0,hcz5_1,hcz5_2,hfz5_0,hfz5_1,hfz5_2⟩:=z3 BK432))
 refine bodyPost_ret (results_cell_row rfl _ _ gb432 40 #[.bool t433,.string t434,.string (⟨#[1]⟩:ByteArray)] (0,0) _ rfl (by (with_reducible repeat(first|refine blk_drewN ?_ _|refine blk_drew ?_|refine blk_alloc ?_ _));refine zP (cs:=#[.bool t433,.string t434,.string ⟨#[]⟩]) ?_ 2 _;(with_reducible repeat(first|refine blk_drewN ?_ _|refine blk_drew ?_|refine blk_alloc ?_ _));refine zP (cs:=#[.bool t433,.string ⟨#[]⟩,.string ⟨#[]⟩]) ?_ 1 _;(with_reducible repeat(first|refine blk_drewN ?_ _|refine blk_drew ?_|refine blk_alloc ?_ _));refine zP (cs:=#[.bool false,.string ⟨#[]⟩,.string ⟨#[]⟩]) ?_ 0 _;(with_reducible repeat(first|refine blk_drewN ?_ _|refine blk_drew ?_|refine blk_alloc ?_ _));exact BK432.out) Tryz.underlying40 rfl (by kernel_rfl)) rfl ?_;exact⟨zH,zT HB⟩
end Go.Proofs.YtfcjnhkkfmgmpaaGreatH.R
