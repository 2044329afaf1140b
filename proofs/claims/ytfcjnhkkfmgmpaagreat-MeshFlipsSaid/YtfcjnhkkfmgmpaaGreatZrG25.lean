import Derived.Test.YtfcjnhkkfmgmpaaGreatZrG35
set_option linter.all false
set_option maxRecDepth 100000
set_option maxHeartbeats 8000000
namespace Go.Proofs.YtfcjnhkkfmgmpaaGreatH.R
open Go.RowKit Go.Proofs.YtfcjnhkkfmgmpaaGreatH.Z Go.Proofs.YtfcjnhkkfmgmpaaGreatW.PrintWords Go.Proofs.YtfcjnhkkfmgmpaaGreatW.PrintLast Go.Proofs.YtfcjnhkkfmgmpaaGreatW.PrintMore
attribute [local go_sem] max2_int min2_int max_two min_two max_three min_three max_four min_four
mutual
def gussetref03_Check.j0:Nat→Bool→Bool→ByteArray→ByteArray→Option (Int)
 | 0,_,_,_,_=>none
 | k+1,x13,x106000,x106001,x106002=>if x13=true then (some 5) else ((gussetref02_Check.f x106000 x106001).bind fun t106=>(if t106=0 then ((gussetref01_IsNat.f x106002).bind fun t107=>(if t107=true then (if x106002.toList=([]:List UInt8) then (gussetref03_Check.j1 k true) else ((gussetref03_den.f x106000 x106001 x106002).bind fun bt108=>((gussetref02_Common.f x106000 x106001 bt108.1 bt108.2).bind fun bt110=>(gussetref03_Check.j1 k (bt110.2.toList != ([1]:List UInt8)))))) else (gussetref03_Check.j1 k true))) else (gussetref03_Check.j1 k true)))
def gussetref03_Check.j1:Nat→Bool→Option (Int)
 | 0,_=>none
 | k+1,x37=>if x37=true then (some 1) else (some 0)
end
def gussetref03_Check.f (k:Nat) (a0_0:Bool) (a0_1 a0_2:ByteArray):Option (Int):=if (a0_1.size:Int) > 8000 then (gussetref03_Check.j0 k true a0_0 a0_1 a0_2) else (gussetref03_Check.j0 k (decide ((a0_2.size:Int) > 8000)) a0_0 a0_1 a0_2)
def gussetref03_Check.T3:Bool × List (List Nat × List Nat):=(true,[([],[]),([0],[0]),([1],[1]),([2],[2]),([3,2],[3]),([4],[4]),([5,4],[4,5]),([6,4,4],[4,6]),([7,4],[4,7]),([4,8],[4,8]),([9,7],[9]),([10],[10]),([11,10],[10,11]),([12,10],[10,12]),([10,13],[10,13]),([14,10],[14]),([15],[15]),([16,15],[15,16]),([15],[15]),([18,15,15],[15,18]),([17,19,19,15],[15,17,19]),([20,15],[15,20]),([21,15],[15,21]),([15,22],[15,22])])
def gussetref03_Check.B3:List Nat:=[0,1,3,7,15,31,63,127,255,511,1023,2047,4095,8191,16383,32767,65535,131071,65535,327679,1048575,2097151,4194303,8388607]
theorem gussetref03_Check.tab3:rtab .any (opsOf Tryz.f72 3)=gussetref03_Check.T3:=by kernel_rfl
theorem gussetref03_Check.bits3:waitsOk gussetref03_Check.T3.2 gussetref03_Check.B3=true:=by kernel_rfl
theorem gussetref03_Check.calls (k:Nat) (a0_0:Bool) (a0_1 a0_2:ByteArray) (r:Int) (w:World) (h:gussetref03_Check.f k a0_0 a0_1 a0_2=some r) :
  Calls Tryz.prog 72 #[.agg #[.bool a0_0,.string a0_1,.string a0_2]] w fun e w'=>e = .returned (.int .i64 r)∧Below w.heap.size w w':=by
 have hu40:=Tryz.underlying40;have hu38:=Tryz.underlying38;have hf0:=zf240;have hf1:=zf241;have hf2:=zf270;have hf3:=zf271;have HB:=qa (Below.refl w.heap.size w);unfold gussetref03_Check.f at h;have H:=h;clear h;have HC2:=qa H;clear H;go_enter Tryz.func72,Tryz.ntmps72;go_upto_region 1 with (first|((with_reducible refine gate_dst (N:=1) rfl ?_);(try(refine gate_guard (by rfl) ?_;dsimp only));refine zY 1 #[.bool a0_0,.string a0_1,.string a0_2] 40 ?_;intro gb105 hg w3 hbox hb;have BK105:=qa (hbox);have GW105:=zG hg HB;have GE105:=zG hg HB;replace HB:=zS HB hb;clear hb hbox hg))
 (try simp only[Act.put,List.setIfInBounds_toArray,List.set_cons_zero,List.set_cons_succ])
 go_cut [13] (fun v13 wc=>∃ (kq:Nat) (x13_1:Bool),v13 = .bool x13_1∧Aside0 (gussetref03_Check.j0 kq x13_1 a0_0 a0_1 a0_2=some r)∧Aside0 (kq≤k)∧Aside0 (wc.heap[gb105]?=some (.cells #[.bool a0_0,.string a0_1,.string a0_2] 40 (0,0)))∧Aside0 (Below w.heap.size w wc))
 case first =>
  have H:=HC2.out;clear HC2;by_cases c4:(a0_1.size:Int) > 8000
  ·rw[if_pos c4]at H
   have c4b0:=decide_eq_true c4;have c4b1:decide (8000<a0_1.size)=true:=decide_eq_true (by omega);clear c4
   (first|rw[c4b0]|(simp only[i64_w,i32_w];rw[c4b0])|skip)
   have H':=qa H;clear H;obtain⟨hcz5_0,hcz5_1,hcz5_2,hfz5_0,hfz5_1,hfz5_2⟩:=z3 BK105;go_wp2
   go_meet
   case rel=>exact⟨_,(true),zR,H',zL,zK BK105,⟨zT HB⟩⟩
  ·rw[if_neg c4]at H
   have c4b0:=decide_eq_false c4;have c4b1:decide (8000<a0_1.size)=false:=decide_eq_false (by omega);clear c4
   (first|rw[c4b0]|(simp only[i64_w,i32_w];rw[c4b0])|skip)
   have H':=qa H;clear H;obtain⟨hcz6_0,hcz6_1,hcz6_2,hfz6_0,hfz6_1,hfz6_2⟩:=z3 BK105;go_wp2
   go_meet
   case rel=>exact⟨_,(decide ((a0_2.size:Int) > 8000)),zR,H',zL,zK BK105,⟨zT HB⟩⟩
 case rest =>
  clear HC2;try clear p2;try clear c4;try clear c4b0;try clear c4b1;try clear hcz5_0;try clear hcz5_1;try clear hcz5_2;try clear hcz6_0;try clear hcz6_1;try clear hcz6_2;try clear hfz5_0;try clear hfz5_1;try clear hfz5_2;try clear hfz6_0;try clear hfz6_1;try clear hfz6_2
  obtain⟨kq,x13_1,rfl,HA,HJ1,BK105,HB⟩:=hcut;cases kq with
  | zero=>exact absurd HA.out (by simp[gussetref03_Check.j0])
  | succ kj1 =>
   have H:=HA.out;clear HA;simp only[gussetref03_Check.j0]at H;by_cases c7:x13_1=true
   ·subst c7
    rw[if_pos rfl]at H
    obtain rfl:=Option.some.inj H;go_wp2
    go_ret
    exact⟨zH,zT HB⟩
   ·replace c7:=Bool.eq_false_iff.mpr c7
    subst c7;rw[if_neg zn]at H
    have HC8:=qa H;clear H;go_upto_region 3 with (fail)
    go_cut [37] (fun v37 wc=>∃ (kq:Nat) (x37_7:Bool),v37 = .bool x37_7∧Aside0 (gussetref03_Check.j1 kq x37_7=some r)∧Aside0 (kq≤kj1)∧Aside0 (wc.heap[gb105]?=some (.cells #[.bool a0_0,.string a0_1,.string a0_2] 40 (0,0)))∧Aside0 (Below w.heap.size w wc))
    case first =>
     have H:=HC8.out;clear HC8;obtain⟨t106,A9,H⟩:=zo H;by_cases c10:t106=0
     ·rw[if_pos c10]at H
      have c10b0:=beq_iff_eq.mpr c10;have c10b1:=bne_eq_false_iff_eq.mpr c10;clear c10
      (first|rw[c10b0]|(simp only[i64_w,i32_w];rw[c10b0])|skip)
      obtain⟨t107,A11,H⟩:=zo H;by_cases c12:t107=true
      ·subst c12
       rw[if_pos rfl]at H
       by_cases c13:a0_2.toList=([]:List UInt8)
       ·rw[if_pos c13]at H
        have c13b0:=beq_iff_eq.mpr c13;have c13b1:=bne_eq_false_iff_eq.mpr c13;clear c13;have H':=qa H;clear H;try go_wp2
        replace BK105:=zD BK105;replace HB:=zF HB;refine start_ (n:=24) (S:=fun w'=>w'.cell? ⟨gb105,0,none⟩=some (.bool a0_0)∧w'.cell? ⟨gb105,1,none⟩=some (.string a0_1)∧w'.cell? ⟨gb105,2,none⟩=some (.string a0_2)) (ds:=[]) (zb 24 0) (by kernel_rfl) rfl rfl ⟨zc BK105 0,zc BK105 1,zc BK105 2⟩ (fun hHeld=>?_);refine with_tabW gussetref03_Check.tab3 gussetref03_Check.bits3 (fun HT_ HW_=>?_);generalize wc.drew=w14 at BK105 HB hHeld ⊢;refine zU (i:=0) (N:=some 14) (zb 24 1) (any_of HT_.out (by kernel_rfl)) ?_;refine zV (i:=1) (N:=some 15) (zb 24 3) (take_ofW HT_.out HW_.out (by kernel_rfl)) hHeld ?_;refine one_ (i:=2) (N:=some 16) (zb 24 7) rfl rfl (one_of HT_.out (by kernel_rfl)) (by decide) (fun K hK=>?_);refine zJ Tryz.func84 (by kernel_rfl) (gussetref02_Check.calls a0_0 a0_1 t106 _ A9.out) fun w15 hb=>?_;replace BK105:=zB BK105 hb;replace HB:=zS HB hb
        (try clear hb)
        refine hK.out _ _ ⟨zc BK105 0,zc BK105 1,zc BK105 2⟩ (fun hHeld=>?_);clear hK K;refine zW (some 16) ?_;refine zU (i:=3) (N:=some 17) (zb 24 15) (any_of HT_.out (by kernel_rfl)) ?_;refine zU (i:=4) (N:=some 18) (zb 24 31) (any_of HT_.out (by kernel_rfl)) ?_;refine zU (i:=5) (N:=some 19) (zb 24 63) (any_of HT_.out (by kernel_rfl)) ?_;refine zV (i:=6) (N:=some 20) (zb 24 127) (take_ofW HT_.out HW_.out (by kernel_rfl)) hHeld ?_;refine one_ (i:=7) (N:=some 21) (zb 24 255) rfl rfl (one_of HT_.out (by kernel_rfl)) (by decide) (fun K hK=>?_);refine zJ Tryz.func85 (by kernel_rfl) (gussetref01_IsNat.calls a0_2 true _ A11.out) fun w16 hb=>?_;replace BK105:=zB BK105 hb;replace HB:=zS HB hb
        (try clear hb)
        refine hK.out _ _ ⟨zc BK105 0,zc BK105 1,zc BK105 2⟩ (fun hHeld=>?_);clear hK K;refine zW (some 21) ?_;refine zU (i:=8) (N:=some 22) (zb 24 511) (any_of HT_.out (by kernel_rfl)) ?_;refine zU (i:=9) (N:=some 23) (zb 24 1023) (any_of HT_.out (by kernel_rfl)) ?_;refine zU (i:=10) (N:=some 24) (zb 24 2047) (any_of HT_.out (by kernel_rfl)) ?_;refine zU (i:=11) (N:=some 25) (zb 24 4095) (any_of HT_.out (by kernel_rfl)) ?_;refine zV (i:=12) (N:=some 26) (zb 24 8191) (take_ofW HT_.out HW_.out (by kernel_rfl)) hHeld ?_;refine zU (i:=13) (N:=some 27) (zb 24 16383) (any_of HT_.out (by kernel_rfl)) ?_;refine zU (i:=14) (N:=some 28) (zb 24 32767) (any_of HT_.out (by kernel_rfl)) ?_;refine zU (i:=15) (N:=some 29) (zb 24 65535) (any_of HT_.out (by kernel_rfl)) ?_;refine pure_ (i:=16) (N:=some 30) (v:=undef) (a':=?_) (zb 24 131071) rfl rfl (any_of HT_.out (by kernel_rfl)) (fun _ _ _ h=>h) (Or.inr ⟨by rfl,rfl⟩) ?_ ?_;rotate_left
        ·simp only[Act.put,List.setIfInBounds_toArray,List.set_cons_zero,List.set_cons_succ,i64_w,i32_w]
         rfl
        refine pure_ (i:=17) (N:=some 31) (v:=undef) (a':=?_) (zb 24 262143) rfl rfl (any_of HT_.out (by kernel_rfl)) (fun _ _ _ h=>h) (Or.inr ⟨by rfl,rfl⟩) ?_ ?_;rotate_left
        ·simp only[Act.put,List.setIfInBounds_toArray,List.set_cons_zero,List.set_cons_succ,i64_w,i32_w]
         rfl
        refine pure_ (i:=18) (N:=some 32) (v:=undef) (a':=?_) (zb 24 524287) rfl rfl (any_of HT_.out (by kernel_rfl)) (fun _ _ _ h=>h) (Or.inr ⟨by rfl,rfl⟩) ?_ ?_;rotate_left
        ·simp only[Act.put,List.setIfInBounds_toArray,List.set_cons_zero,List.set_cons_succ,i64_w,i32_w]
         rfl
        refine pure_ (i:=19) (N:=some 33) (v:=undef) (a':=?_) (zb 24 1048575) rfl rfl (any_of HT_.out (by kernel_rfl)) (fun _ _ _ h=>h) (Or.inr ⟨by rfl,rfl⟩) ?_ ?_;rotate_left
        ·simp only[Act.put,List.setIfInBounds_toArray,List.set_cons_zero,List.set_cons_succ,i64_w,i32_w]
         rfl
        refine pure_ (i:=20) (N:=some 34) (v:=undef) (a':=?_) (zb 24 2097151) rfl rfl (any_of HT_.out (by kernel_rfl)) (fun _ _ _ h=>h) (Or.inr ⟨by rfl,rfl⟩) ?_ ?_;rotate_left
        ·simp only[Act.put,List.setIfInBounds_toArray,List.set_cons_zero,List.set_cons_succ,i64_w,i32_w]
         rfl
        refine pure_ (i:=21) (N:=some 35) (v:=undef) (a':=?_) (zb 24 4194303) rfl rfl (any_of HT_.out (by kernel_rfl)) (fun _ _ _ h=>h) (Or.inr ⟨by rfl,rfl⟩) ?_ ?_;rotate_left
        ·simp only[Act.put,List.setIfInBounds_toArray,List.set_cons_zero,List.set_cons_succ,i64_w,i32_w]
         rfl
        refine pure_ (i:=22) (N:=some 36) (v:=undef) (a':=?_) (zb 24 8388607) rfl rfl (any_of HT_.out (by kernel_rfl)) (fun _ _ _ h=>h) (Or.inr ⟨by rfl,rfl⟩) ?_ ?_;rotate_left
        ·simp only[Act.put,List.setIfInBounds_toArray,List.set_cons_zero,List.set_cons_succ,i64_w,i32_w]
         rfl
        refine zU (i:=23) (N:=some 37) (zb 24 16777215) (any_of HT_.out (by kernel_rfl)) ?_;refine done_ (done_of HT_.out (by kernel_rfl)) ?_;try go_wp2
        go_meet
        case rel=>exact⟨_,(true),zR,H',⟨by have:=HJ1.out;first|omega|exact Nat.le_refl _⟩,zK BK105,⟨zT HB⟩⟩
       ·rw[if_neg c13]at H
        have c13b0:=beq_eq_false_iff_ne.mpr c13;have c13b1:=bne_iff_ne.mpr c13;obtain⟨⟨t108,t109⟩,A17,H⟩:=zo H;try dsimp only at H
        obtain⟨⟨t110,t111⟩,A18,H⟩:=zo H;try dsimp only at H
        have H':=qa H;clear H;try go_wp2
        replace BK105:=zD BK105;replace HB:=zF HB;refine start_ (n:=24) (S:=fun w'=>w'.cell? ⟨gb105,0,none⟩=some (.bool a0_0)∧w'.cell? ⟨gb105,1,none⟩=some (.string a0_1)∧w'.cell? ⟨gb105,2,none⟩=some (.string a0_2)) (ds:=[]) (zb 24 0) (by kernel_rfl) rfl rfl ⟨zc BK105 0,zc BK105 1,zc BK105 2⟩ (fun hHeld=>?_);refine with_tabW gussetref03_Check.tab3 gussetref03_Check.bits3 (fun HT_ HW_=>?_);generalize wc.drew=w19 at BK105 HB hHeld ⊢;refine zU (i:=0) (N:=some 14) (zb 24 1) (any_of HT_.out (by kernel_rfl)) ?_;refine zV (i:=1) (N:=some 15) (zb 24 3) (take_ofW HT_.out HW_.out (by kernel_rfl)) hHeld ?_;refine one_ (i:=2) (N:=some 16) (zb 24 7) rfl rfl (one_of HT_.out (by kernel_rfl)) (by decide) (fun K hK=>?_);refine zJ Tryz.func84 (by kernel_rfl) (gussetref02_Check.calls a0_0 a0_1 t106 _ A9.out) fun w20 hb=>?_;replace BK105:=zB BK105 hb;replace HB:=zS HB hb
        (try clear hb)
        refine hK.out _ _ ⟨zc BK105 0,zc BK105 1,zc BK105 2⟩ (fun hHeld=>?_);clear hK K;refine zW (some 16) ?_;refine zU (i:=3) (N:=some 17) (zb 24 15) (any_of HT_.out (by kernel_rfl)) ?_;refine zU (i:=4) (N:=some 18) (zb 24 31) (any_of HT_.out (by kernel_rfl)) ?_;refine zU (i:=5) (N:=some 19) (zb 24 63) (any_of HT_.out (by kernel_rfl)) ?_;refine zV (i:=6) (N:=some 20) (zb 24 127) (take_ofW HT_.out HW_.out (by kernel_rfl)) hHeld ?_;refine one_ (i:=7) (N:=some 21) (zb 24 255) rfl rfl (one_of HT_.out (by kernel_rfl)) (by decide) (fun K hK=>?_);refine zJ Tryz.func85 (by kernel_rfl) (gussetref01_IsNat.calls a0_2 true _ A11.out) fun w21 hb=>?_;replace BK105:=zB BK105 hb;replace HB:=zS HB hb
        (try clear hb)
        refine hK.out _ _ ⟨zc BK105 0,zc BK105 1,zc BK105 2⟩ (fun hHeld=>?_);clear hK K;refine zW (some 21) ?_;refine zU (i:=8) (N:=some 22) (zb 24 511) (any_of HT_.out (by kernel_rfl)) ?_;refine zU (i:=9) (N:=some 23) (zb 24 1023) (any_of HT_.out (by kernel_rfl)) ?_;refine zU (i:=10) (N:=some 24) (zb 24 2047) (any_of HT_.out (by kernel_rfl)) ?_;refine zU (i:=11) (N:=some 25) (zb 24 4095) (any_of HT_.out (by kernel_rfl)) ?_;refine zV (i:=12) (N:=some 26) (zb 24 8191) (take_ofW HT_.out HW_.out (by kernel_rfl)) hHeld ?_;refine zU (i:=13) (N:=some 27) (zb 24 16383) (any_of HT_.out (by kernel_rfl)) ?_;refine zU (i:=14) (N:=some 28) (zb 24 32767) (any_of HT_.out (by kernel_rfl)) ?_;refine zU (i:=15) (N:=some 29) (zb 24 65535) (any_of HT_.out (by kernel_rfl)) ?_;refine zU (i:=16) (N:=some 30) (zb 24 131071) (any_of HT_.out (by kernel_rfl)) ?_;refine zV (i:=17) (N:=some 31) (zb 24 262143) (take_ofW HT_.out HW_.out (by kernel_rfl)) hHeld ?_;refine zV (i:=18) (N:=some 32) (zb 24 524287) (take_ofW HT_.out HW_.out (by kernel_rfl)) hHeld ?_;refine one_ (i:=19) (N:=some 33) (zb 24 1048575) rfl rfl (one_of HT_.out (by kernel_rfl)) (by decide) (fun K hK=>?_);refine zJ Tryz.func78 (by kernel_rfl) (gussetref03_den.calls a0_0 a0_1 a0_2 t108 t109 _ A17.out) fun w22 hb=>?_;replace BK105:=zB BK105 hb;replace HB:=zS HB hb
        (try clear hb)
        refine hK.out _ _ ⟨zc BK105 0,zc BK105 1,zc BK105 2⟩ (fun hHeld=>?_);clear hK K;refine zW (some 33) ?_;refine one_ (i:=20) (N:=some 34) (zb 24 2097151) rfl rfl (one_of HT_.out (by kernel_rfl)) (by decide) (fun K hK=>?_);refine zJ Tryz.func86 (by kernel_rfl) (gussetref02_Common.calls a0_0 a0_1 t108 t109 t110 t111 _ A18.out) fun w23 hb=>?_;replace BK105:=zB BK105 hb;replace HB:=zS HB hb
        (try clear hb)
        refine hK.out _ _ ⟨zc BK105 0,zc BK105 1,zc BK105 2⟩ (fun hHeld=>?_);clear hK K;refine zW (some 34) ?_;refine zU (i:=21) (N:=some 35) (zb 24 4194303) (any_of HT_.out (by kernel_rfl)) ?_;refine zU (i:=22) (N:=some 36) (zb 24 8388607) (any_of HT_.out (by kernel_rfl)) ?_;refine zU (i:=23) (N:=some 37) (zb 24 16777215) (any_of HT_.out (by kernel_rfl)) ?_;refine done_ (done_of HT_.out (by kernel_rfl)) ?_;try go_wp2
        go_meet
        case rel=>exact⟨_,((t111.toList != ([1]:List UInt8))),zR,H',⟨by have:=HJ1.out;first|omega|exact Nat.le_refl _⟩,zK BK105,⟨zT HB⟩⟩
      ·replace c12:=Bool.eq_false_iff.mpr c12
       subst c12;rw[if_neg zn]at H
       have H':=qa H;clear H;try go_wp2
       replace BK105:=zD BK105;replace HB:=zF HB;refine start_ (n:=24) (S:=fun w'=>w'.cell? ⟨gb105,0,none⟩=some (.bool a0_0)∧w'.cell? ⟨gb105,1,none⟩=some (.string a0_1)∧w'.cell? ⟨gb105,2,none⟩=some (.string a0_2)) (ds:=[]) (zb 24 0) (by kernel_rfl) rfl rfl ⟨zc BK105 0,zc BK105 1,zc BK105 2⟩ (fun hHeld=>?_);refine with_tabW gussetref03_Check.tab3 gussetref03_Check.bits3 (fun HT_ HW_=>?_);generalize wc.drew=w24 at BK105 HB hHeld ⊢;refine zU (i:=0) (N:=some 14) (zb 24 1) (any_of HT_.out (by kernel_rfl)) ?_;refine zV (i:=1) (N:=some 15) (zb 24 3) (take_ofW HT_.out HW_.out (by kernel_rfl)) hHeld ?_;refine one_ (i:=2) (N:=some 16) (zb 24 7) rfl rfl (one_of HT_.out (by kernel_rfl)) (by decide) (fun K hK=>?_);refine zJ Tryz.func84 (by kernel_rfl) (gussetref02_Check.calls a0_0 a0_1 t106 _ A9.out) fun w25 hb=>?_;replace BK105:=zB BK105 hb;replace HB:=zS HB hb
       (try clear hb)
       refine hK.out _ _ ⟨zc BK105 0,zc BK105 1,zc BK105 2⟩ (fun hHeld=>?_);clear hK K;refine zW (some 16) ?_;refine zU (i:=3) (N:=some 17) (zb 24 15) (any_of HT_.out (by kernel_rfl)) ?_;refine zU (i:=4) (N:=some 18) (zb 24 31) (any_of HT_.out (by kernel_rfl)) ?_;refine zU (i:=5) (N:=some 19) (zb 24 63) (any_of HT_.out (by kernel_rfl)) ?_;refine zV (i:=6) (N:=some 20) (zb 24 127) (take_ofW HT_.out HW_.out (by kernel_rfl)) hHeld ?_;refine one_ (i:=7) (N:=some 21) (zb 24 255) rfl rfl (one_of HT_.out (by kernel_rfl)) (by decide) (fun K hK=>?_);refine zJ Tryz.func85 (by kernel_rfl) (gussetref01_IsNat.calls a0_2 false _ A11.out) fun w26 hb=>?_;replace BK105:=zB BK105 hb;replace HB:=zS HB hb
       (try clear hb)
       refine hK.out _ _ ⟨zc BK105 0,zc BK105 1,zc BK105 2⟩ (fun hHeld=>?_);clear hK K;refine zW (some 21) ?_;refine zU (i:=8) (N:=some 22) (zb 24 511) (any_of HT_.out (by kernel_rfl)) ?_;refine zU (i:=9) (N:=some 23) (zb 24 1023) (any_of HT_.out (by kernel_rfl)) ?_;refine zU (i:=10) (N:=some 24) (zb 24 2047) (any_of HT_.out (by kernel_rfl)) ?_;refine pure_ (i:=11) (N:=some 25) (v:=undef) (a':=?_) (zb 24 4095) rfl rfl (any_of HT_.out (by kernel_rfl)) (fun _ _ _ h=>h) (Or.inr ⟨by rfl,rfl⟩) ?_ ?_;rotate_left
       ·simp only[Act.put,List.setIfInBounds_toArray,List.set_cons_zero,List.set_cons_succ,i64_w,i32_w]
        rfl
       refine pure_ (i:=12) (N:=some 26) (v:=undef) (a':=?_) (zb 24 8191) rfl rfl (any_of HT_.out (by kernel_rfl)) (fun _ _ _ h=>h) (Or.inr ⟨by rfl,rfl⟩) ?_ ?_;rotate_left
       ·simp only[Act.put,List.setIfInBounds_toArray,List.set_cons_zero,List.set_cons_succ,i64_w,i32_w]
        rfl
       refine pure_ (i:=13) (N:=some 27) (v:=undef) (a':=?_) (zb 24 16383) rfl rfl (any_of HT_.out (by kernel_rfl)) (fun _ _ _ h=>h) (Or.inr ⟨by rfl,rfl⟩) ?_ ?_;rotate_left
       ·simp only[Act.put,List.setIfInBounds_toArray,List.set_cons_zero,List.set_cons_succ,i64_w,i32_w]
        rfl
       refine zU (i:=14) (N:=some 28) (zb 24 32767) (any_of HT_.out (by kernel_rfl)) ?_;refine zU (i:=15) (N:=some 29) (zb 24 65535) (any_of HT_.out (by kernel_rfl)) ?_;refine pure_ (i:=16) (N:=some 30) (v:=undef) (a':=?_) (zb 24 131071) rfl rfl (any_of HT_.out (by kernel_rfl)) (fun _ _ _ h=>h) (Or.inr ⟨by rfl,rfl⟩) ?_ ?_;rotate_left
       ·simp only[Act.put,List.setIfInBounds_toArray,List.set_cons_zero,List.set_cons_succ,i64_w,i32_w]
        rfl
       refine pure_ (i:=17) (N:=some 31) (v:=undef) (a':=?_) (zb 24 262143) rfl rfl (any_of HT_.out (by kernel_rfl)) (fun _ _ _ h=>h) (Or.inr ⟨by rfl,rfl⟩) ?_ ?_;rotate_left
       ·simp only[Act.put,List.setIfInBounds_toArray,List.set_cons_zero,List.set_cons_succ,i64_w,i32_w]
        rfl
       refine pure_ (i:=18) (N:=some 32) (v:=undef) (a':=?_) (zb 24 524287) rfl rfl (any_of HT_.out (by kernel_rfl)) (fun _ _ _ h=>h) (Or.inr ⟨by rfl,rfl⟩) ?_ ?_;rotate_left
       ·simp only[Act.put,List.setIfInBounds_toArray,List.set_cons_zero,List.set_cons_succ,i64_w,i32_w]
        rfl
       refine pure_ (i:=19) (N:=some 33) (v:=undef) (a':=?_) (zb 24 1048575) rfl rfl (any_of HT_.out (by kernel_rfl)) (fun _ _ _ h=>h) (Or.inr ⟨by rfl,rfl⟩) ?_ ?_;rotate_left
       ·simp only[Act.put,List.setIfInBounds_toArray,List.set_cons_zero,List.set_cons_succ,i64_w,i32_w]
        rfl
       refine pure_ (i:=20) (N:=some 34) (v:=undef) (a':=?_) (zb 24 2097151) rfl rfl (any_of HT_.out (by kernel_rfl)) (fun _ _ _ h=>h) (Or.inr ⟨by rfl,rfl⟩) ?_ ?_;rotate_left
       ·simp only[Act.put,List.setIfInBounds_toArray,List.set_cons_zero,List.set_cons_succ,i64_w,i32_w]
        rfl
       refine pure_ (i:=21) (N:=some 35) (v:=undef) (a':=?_) (zb 24 4194303) rfl rfl (any_of HT_.out (by kernel_rfl)) (fun _ _ _ h=>h) (Or.inr ⟨by rfl,rfl⟩) ?_ ?_;rotate_left
       ·simp only[Act.put,List.setIfInBounds_toArray,List.set_cons_zero,List.set_cons_succ,i64_w,i32_w]
        rfl
       refine pure_ (i:=22) (N:=some 36) (v:=undef) (a':=?_) (zb 24 8388607) rfl rfl (any_of HT_.out (by kernel_rfl)) (fun _ _ _ h=>h) (Or.inr ⟨by rfl,rfl⟩) ?_ ?_;rotate_left
       ·simp only[Act.put,List.setIfInBounds_toArray,List.set_cons_zero,List.set_cons_succ,i64_w,i32_w]
        rfl
       refine zU (i:=23) (N:=some 37) (zb 24 16777215) (any_of HT_.out (by kernel_rfl)) ?_;refine done_ (done_of HT_.out (by kernel_rfl)) ?_;try go_wp2
       go_meet
       case rel=>exact⟨_,(true),zR,H',⟨by have:=HJ1.out;first|omega|exact Nat.le_refl _⟩,zK BK105,⟨zT HB⟩⟩
     ·rw[if_neg c10]at H
      have c10b0:=beq_eq_false_iff_ne.mpr c10;have c10b1:=bne_iff_ne.mpr c10
      (first|rw[c10b0]|(simp only[i64_w,i32_w];rw[c10b0])|skip)
      have H':=qa H;clear H;try go_wp2
      replace BK105:=zD BK105;replace HB:=zF HB;refine start_ (n:=24) (S:=fun w'=>w'.cell? ⟨gb105,0,none⟩=some (.bool a0_0)∧w'.cell? ⟨gb105,1,none⟩=some (.string a0_1)∧w'.cell? ⟨gb105,2,none⟩=some (.string a0_2)) (ds:=[]) (zb 24 0) (by kernel_rfl) rfl rfl ⟨zc BK105 0,zc BK105 1,zc BK105 2⟩ (fun hHeld=>?_);refine with_tabW gussetref03_Check.tab3 gussetref03_Check.bits3 (fun HT_ HW_=>?_);generalize wc.drew=w27 at BK105 HB hHeld ⊢;refine zU (i:=0) (N:=some 14) (zb 24 1) (any_of HT_.out (by kernel_rfl)) ?_;refine zV (i:=1) (N:=some 15) (zb 24 3) (take_ofW HT_.out HW_.out (by kernel_rfl)) hHeld ?_;refine one_ (i:=2) (N:=some 16) (zb 24 7) rfl rfl (one_of HT_.out (by kernel_rfl)) (by decide) (fun K hK=>?_);refine zJ Tryz.func84 (by kernel_rfl) (gussetref02_Check.calls a0_0 a0_1 t106 _ A9.out) fun w28 hb=>?_;replace BK105:=zB BK105 hb;replace HB:=zS HB hb
      (try clear hb)
      refine hK.out _ _ ⟨zc BK105 0,zc BK105 1,zc BK105 2⟩ (fun hHeld=>?_);clear hK K;refine zW (some 16) ?_;refine zU (i:=3) (N:=some 17) (zb 24 15) (any_of HT_.out (by kernel_rfl)) ?_;refine zU (i:=4) (N:=some 18) (zb 24 31) (any_of HT_.out (by kernel_rfl)) ?_;refine pure_ (i:=5) (N:=some 19) (v:=undef) (a':=?_) (zb 24 63) rfl rfl (any_of HT_.out (by kernel_rfl)) (fun _ _ _ h=>h) (Or.inr ⟨by rfl,rfl⟩) ?_ ?_;rotate_left
      ·simp only[Act.put,List.setIfInBounds_toArray,List.set_cons_zero,List.set_cons_succ,i64_w,i32_w]
       rfl
      refine pure_ (i:=6) (N:=some 20) (v:=undef) (a':=?_) (zb 24 127) rfl rfl (any_of HT_.out (by kernel_rfl)) (fun _ _ _ h=>h) (Or.inr ⟨by rfl,rfl⟩) ?_ ?_;rotate_left
      ·simp only[Act.put,List.setIfInBounds_toArray,List.set_cons_zero,List.set_cons_succ,i64_w,i32_w]
       rfl
      refine pure_ (i:=7) (N:=some 21) (v:=undef) (a':=?_) (zb 24 255) rfl rfl (any_of HT_.out (by kernel_rfl)) (fun _ _ _ h=>h) (Or.inr ⟨by rfl,rfl⟩) ?_ ?_;rotate_left
      ·simp only[Act.put,List.setIfInBounds_toArray,List.set_cons_zero,List.set_cons_succ,i64_w,i32_w]
       rfl
      refine pure_ (i:=8) (N:=some 22) (v:=undef) (a':=?_) (zb 24 511) rfl rfl (any_of HT_.out (by kernel_rfl)) (fun _ _ _ h=>h) (Or.inr ⟨by rfl,rfl⟩) ?_ ?_;rotate_left
      ·simp only[Act.put,List.setIfInBounds_toArray,List.set_cons_zero,List.set_cons_succ,i64_w,i32_w]
       rfl
      refine zU (i:=9) (N:=some 23) (zb 24 1023) (any_of HT_.out (by kernel_rfl)) ?_;refine zU (i:=10) (N:=some 24) (zb 24 2047) (any_of HT_.out (by kernel_rfl)) ?_;refine pure_ (i:=11) (N:=some 25) (v:=undef) (a':=?_) (zb 24 4095) rfl rfl (any_of HT_.out (by kernel_rfl)) (fun _ _ _ h=>h) (Or.inr ⟨by rfl,rfl⟩) ?_ ?_;rotate_left
      ·simp only[Act.put,List.setIfInBounds_toArray,List.set_cons_zero,List.set_cons_succ,i64_w,i32_w]
       rfl
      refine pure_ (i:=12) (N:=some 26) (v:=undef) (a':=?_) (zb 24 8191) rfl rfl (any_of HT_.out (by kernel_rfl)) (fun _ _ _ h=>h) (Or.inr ⟨by rfl,rfl⟩) ?_ ?_;rotate_left
      ·simp only[Act.put,List.setIfInBounds_toArray,List.set_cons_zero,List.set_cons_succ,i64_w,i32_w]
       rfl
      refine pure_ (i:=13) (N:=some 27) (v:=undef) (a':=?_) (zb 24 16383) rfl rfl (any_of HT_.out (by kernel_rfl)) (fun _ _ _ h=>h) (Or.inr ⟨by rfl,rfl⟩) ?_ ?_;rotate_left
      ·simp only[Act.put,List.setIfInBounds_toArray,List.set_cons_zero,List.set_cons_succ,i64_w,i32_w]
       rfl
      refine zU (i:=14) (N:=some 28) (zb 24 32767) (any_of HT_.out (by kernel_rfl)) ?_;refine zU (i:=15) (N:=some 29) (zb 24 65535) (any_of HT_.out (by kernel_rfl)) ?_;refine pure_ (i:=16) (N:=some 30) (v:=undef) (a':=?_) (zb 24 131071) rfl rfl (any_of HT_.out (by kernel_rfl)) (fun _ _ _ h=>h) (Or.inr ⟨by rfl,rfl⟩) ?_ ?_;rotate_left
      ·simp only[Act.put,List.setIfInBounds_toArray,List.set_cons_zero,List.set_cons_succ,i64_w,i32_w]
       rfl
      refine pure_ (i:=17) (N:=some 31) (v:=undef) (a':=?_) (zb 24 262143) rfl rfl (any_of HT_.out (by kernel_rfl)) (fun _ _ _ h=>h) (Or.inr ⟨by rfl,rfl⟩) ?_ ?_;rotate_left
      ·simp only[Act.put,List.setIfInBounds_toArray,List.set_cons_zero,List.set_cons_succ,i64_w,i32_w]
       rfl
      refine pure_ (i:=18) (N:=some 32) (v:=undef) (a':=?_) (zb 24 524287) rfl rfl (any_of HT_.out (by kernel_rfl)) (fun _ _ _ h=>h) (Or.inr ⟨by rfl,rfl⟩) ?_ ?_;rotate_left
      ·simp only[Act.put,List.setIfInBounds_toArray,List.set_cons_zero,List.set_cons_succ,i64_w,i32_w]
       rfl
      refine pure_ (i:=19) (N:=some 33) (v:=undef) (a':=?_) (zb 24 1048575) rfl rfl (any_of HT_.out (by kernel_rfl)) (fun _ _ _ h=>h) (Or.inr ⟨by rfl,rfl⟩) ?_ ?_;rotate_left
      ·simp only[Act.put,List.setIfInBounds_toArray,List.set_cons_zero,List.set_cons_succ,i64_w,i32_w]
       rfl
      refine pure_ (i:=20) (N:=some 34) (v:=undef) (a':=?_) (zb 24 2097151) rfl rfl (any_of HT_.out (by kernel_rfl)) (fun _ _ _ h=>h) (Or.inr ⟨by rfl,rfl⟩) ?_ ?_;rotate_left
      ·simp only[Act.put,List.setIfInBounds_toArray,List.set_cons_zero,List.set_cons_succ,i64_w,i32_w]
       rfl
      refine pure_ (i:=21) (N:=some 35) (v:=undef) (a':=?_) (zb 24 4194303) rfl rfl (any_of HT_.out (by kernel_rfl)) (fun _ _ _ h=>h) (Or.inr ⟨by rfl,rfl⟩) ?_ ?_;rotate_left
      ·simp only[Act.put,List.setIfInBounds_toArray,List.set_cons_zero,List.set_cons_succ,i64_w,i32_w]
       rfl
      refine pure_ (i:=22) (N:=some 36) (v:=undef) (a':=?_) (zb 24 8388607) rfl rfl (any_of HT_.out (by kernel_rfl)) (fun _ _ _ h=>h) (Or.inr ⟨by rfl,rfl⟩) ?_ ?_;rotate_left
      ·simp only[Act.put,List.setIfInBounds_toArray,List.set_cons_zero,List.set_cons_succ,i64_w,i32_w]
       rfl
      refine zU (i:=23) (N:=some 37) (zb 24 16777215) (any_of HT_.out (by kernel_rfl)) ?_;refine done_ (done_of HT_.out (by kernel_rfl)) ?_;try go_wp2
      go_meet
      case rel=>exact⟨_,(true),zR,H',⟨by have:=HJ1.out;first|omega|exact Nat.le_refl _⟩,zK BK105,⟨zT HB⟩⟩
    case rest =>
     clear HC8;try clear c1;try clear p2;try clear c7;try clear c8;try clear c10;try clear c10b0;try clear c10b1;try clear c12
     obtain⟨kq,x37_7,rfl,HA,HJ7,BK105,HB⟩:=hcut;cases kq with
     | zero=>exact absurd HA.out (by simp[gussetref03_Check.j1])
     | succ kj7 =>
      have H:=HA.out;clear HA;simp only[gussetref03_Check.j1]at H;by_cases c29:x37_7=true
      ·subst c29
       rw[if_pos rfl]at H
       obtain rfl:=Option.some.inj H;go_wp2
       go_ret
       exact⟨zH,zT HB⟩
      ·replace c29:=Bool.eq_false_iff.mpr c29
       subst c29;rw[if_neg zn]at H
       obtain rfl:=Option.some.inj H;go_wp2
       go_ret
       exact⟨zH,zT HB⟩
end Go.Proofs.YtfcjnhkkfmgmpaaGreatH.R
