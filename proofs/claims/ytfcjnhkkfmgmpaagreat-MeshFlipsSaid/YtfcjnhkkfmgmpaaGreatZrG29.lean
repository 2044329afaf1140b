import Derived.Test.YtfcjnhkkfmgmpaaGreatZrG35
set_option linter.all false
set_option maxRecDepth 100000
set_option maxHeartbeats 8000000
namespace Go.Proofs.YtfcjnhkkfmgmpaaGreatH.R
open Go.RowKit Go.Proofs.YtfcjnhkkfmgmpaaGreatH.Z Go.Proofs.YtfcjnhkkfmgmpaaGreatW.PrintWords Go.Proofs.YtfcjnhkkfmgmpaaGreatW.PrintLast Go.Proofs.YtfcjnhkkfmgmpaaGreatW.PrintMore
attribute [local go_sem] max2_int min2_int max_two min_two max_three min_three max_four min_four
mutual
def rat_Check.j0:Nat→Bool→Bool→ByteArray→ByteArray→Option (Int)
 | 0,_,_,_,_=>none
 | k+1,x15,x228000,x228001,x228002=>if x15=true then (some 5) else ((whole_Check.f x228000 x228001).bind fun t228=>(if t228=0 then ((rat_den.f x228000 x228001 x228002).bind fun bt229=>((whole_Check.f bt229.1 bt229.2).bind fun t231=>(if t231=0 then (rat_Check.j1 k (x228002.toList==([]:List UInt8)) x228000 x228001 x228002) else (rat_Check.j1 k true x228000 x228001 x228002)))) else (rat_Check.j1 k true x228000 x228001 x228002)))
def rat_Check.j1:Nat→Bool→Bool→ByteArray→ByteArray→Option (Int)
 | 0,_,_,_,_=>none
 | k+1,x30,x228000,x228001,x228002=>if x30=true then (some 1) else (if x228002.toList=([1]:List UInt8) then (some 0) else ((rat_den.f x228000 x228001 x228002).bind fun bt232=>((whole_Gcd.f x228000 x228001 bt232.1 bt232.2).bind fun bt234=>(if bt234.2.1.toList=([1]:List UInt8) then (some 0) else (some 1)))))
end
def rat_Check.f (k:Nat) (a0_0:Bool) (a0_1 a0_2:ByteArray):Option (Int):=if (a0_1.size:Int) > 8000 then (rat_Check.j0 k true a0_0 a0_1 a0_2) else (rat_Check.j0 k (decide ((a0_2.size:Int) > 8000)) a0_0 a0_1 a0_2)
def rat_Check.T7:Bool × List (List Nat × List Nat):=(true,[([],[]),([0],[0]),([],[]),([2],[2]),([1,3,3],[1,3]),([4],[4]),([5],[5]),([5],[5]),([],[]),([8,6,4,0,1,2,3,4,5,6,8],[6,8]),([7,9,0,1,2,3,4,5,6,7,8,9],[7])])
def rat_Check.B7:List Nat:=[0,1,0,4,15,31,63,63,0,383,1023]
theorem rat_Check.tab7:rtab .any (opsOf Tryz.f95 7)=rat_Check.T7:=by kernel_rfl
theorem rat_Check.bits7:waitsOk rat_Check.T7.2 rat_Check.B7=true:=by kernel_rfl
theorem rat_Check.calls (k:Nat) (a0_0:Bool) (a0_1 a0_2:ByteArray) (r:Int) (w:World) (h:rat_Check.f k a0_0 a0_1 a0_2=some r) :
  Calls Tryz.prog 95 #[.agg #[.bool a0_0,.string a0_1,.string a0_2]] w fun e w'=>e = .returned (.int .i64 r)∧Below w.heap.size w w':=by
 have hu40:=Tryz.underlying40;have hu38:=Tryz.underlying38;have hf0:=zf240;have hf1:=zf241;have hf2:=zf270;have hf3:=zf271;have HB:=qa (Below.refl w.heap.size w);unfold rat_Check.f at h;have H:=h;clear h;have HC2:=qa H;clear H;go_enter Tryz.func95,Tryz.ntmps95;go_upto_region 1 with (first|((with_reducible refine gate_dst (N:=1) rfl ?_);(try(refine gate_guard (by rfl) ?_;dsimp only));refine zY 1 #[.bool a0_0,.string a0_1,.string a0_2] 40 ?_;intro gb227 hg w3 hbox hb;have BK227:=qa (hbox);have GW227:=zG hg HB;have GE227:=zG hg HB;replace HB:=zS HB hb;clear hb hbox hg))
 (try simp only[Act.put,List.setIfInBounds_toArray,List.set_cons_zero,List.set_cons_succ])
 go_cut [15] (fun v15 wc=>∃ (kq:Nat) (x15_1:Bool),v15 = .bool x15_1∧Aside0 (rat_Check.j0 kq x15_1 a0_0 a0_1 a0_2=some r)∧Aside0 (kq≤k)∧Aside0 (wc.heap[gb227]?=some (.cells #[.bool a0_0,.string a0_1,.string a0_2] 40 (0,0)))∧Aside0 (Below w.heap.size w wc))
 case first =>
  have H:=HC2.out;clear HC2;by_cases c4:(a0_1.size:Int) > 8000
  ·rw[if_pos c4]at H
   have c4b0:=decide_eq_true c4;have c4b1:decide (8000<a0_1.size)=true:=decide_eq_true (by omega);clear c4
   (first|rw[c4b0]|(simp only[i64_w,i32_w];rw[c4b0])|skip)
   have H':=qa H;clear H;obtain⟨hcz5_0,hcz5_1,hcz5_2,hfz5_0,hfz5_1,hfz5_2⟩:=z3 BK227;go_wp2
   go_meet
   case rel=>exact⟨_,(true),zR,H',zL,zK BK227,⟨zT HB⟩⟩
  ·rw[if_neg c4]at H
   have c4b0:=decide_eq_false c4;have c4b1:decide (8000<a0_1.size)=false:=decide_eq_false (by omega);clear c4
   (first|rw[c4b0]|(simp only[i64_w,i32_w];rw[c4b0])|skip)
   have H':=qa H;clear H;obtain⟨hcz6_0,hcz6_1,hcz6_2,hfz6_0,hfz6_1,hfz6_2⟩:=z3 BK227;go_wp2
   go_meet
   case rel=>exact⟨_,(decide ((a0_2.size:Int) > 8000)),zR,H',zL,zK BK227,⟨zT HB⟩⟩
 case rest =>
  clear HC2;try clear p2;try clear c4;try clear c4b0;try clear c4b1;try clear hcz5_0;try clear hcz5_1;try clear hcz5_2;try clear hcz6_0;try clear hcz6_1;try clear hcz6_2;try clear hfz5_0;try clear hfz5_1;try clear hfz5_2;try clear hfz6_0;try clear hfz6_1;try clear hfz6_2
  obtain⟨kq,x15_1,rfl,HA,HJ1,BK227,HB⟩:=hcut;cases kq with
  | zero=>exact absurd HA.out (by simp[rat_Check.j0])
  | succ kj1 =>
   have H:=HA.out;clear HA;simp only[rat_Check.j0]at H;by_cases c7:x15_1=true
   ·subst c7
    rw[if_pos rfl]at H
    obtain rfl:=Option.some.inj H;go_wp2
    go_ret
    exact⟨zH,zT HB⟩
   ·replace c7:=Bool.eq_false_iff.mpr c7
    subst c7;rw[if_neg zn]at H
    have HC8:=qa H;clear H;go_upto_region 3 with (fail)
    go_cut [30] (fun v30 wc=>∃ (kq:Nat) (x30_7:Bool),v30 = .bool x30_7∧Aside0 (rat_Check.j1 kq x30_7 a0_0 a0_1 a0_2=some r)∧Aside0 (kq≤kj1)∧Aside0 (wc.heap[gb227]?=some (.cells #[.bool a0_0,.string a0_1,.string a0_2] 40 (0,0)))∧Aside0 (Below w.heap.size w wc))
    case first =>
     have H:=HC8.out;clear HC8;obtain⟨t228,A9,H⟩:=zo H;by_cases c10:t228=0
     ·rw[if_pos c10]at H
      have c10b0:=beq_iff_eq.mpr c10;have c10b1:=bne_eq_false_iff_eq.mpr c10;clear c10
      (first|rw[c10b0]|(simp only[i64_w,i32_w];rw[c10b0])|skip)
      obtain⟨⟨t229,t230⟩,A11,H⟩:=zo H;try dsimp only at H
      obtain⟨t231,A12,H⟩:=zo H;by_cases c13:t231=0
      ·rw[if_pos c13]at H
       have c13b0:=beq_iff_eq.mpr c13;have c13b1:=bne_eq_false_iff_eq.mpr c13;clear c13;have H':=qa H;clear H;obtain⟨hcz14_0,hcz14_1,hcz14_2,hfz14_0,hfz14_1,hfz14_2⟩:=z3 BK227;go_wp2_with (first|((with_reducible refine gate_callee (f:=107) rfl ?_);refine zO Tryz.func107 (by kernel_rfl) (whole_Check.calls a0_0 a0_1 t228 _ A9.out) fun w15 hb=>?_;replace BK227:=zB BK227 hb;replace HB:=zS HB hb;(try clear hb);obtain⟨hcz16_0,hcz16_1,hcz16_2,hfz16_0,hfz16_1,hfz16_2⟩:=z3 BK227)|(go_at_call 108;(with_reducible refine(rat_den.calls a0_0 a0_1 a0_2 t229 t230 _ A11.out).mono ?_);rintro e w17 ⟨rfl,hb⟩;replace BK227:=zB BK227 hb;replace HB:=zS HB hb;(try clear hb))|(go_at_call 107;(with_reducible refine(whole_Check.calls t229 t230 t231 _ A12.out).mono ?_);rintro e w18 ⟨rfl,hb⟩;replace BK227:=zB BK227 hb;replace HB:=zS HB hb;(try clear hb);obtain⟨hcz19_0,hcz19_1,hcz19_2,hfz19_0,hfz19_1,hfz19_2⟩:=z3 BK227))
       go_meet
       case rel=>exact⟨_,((a0_2.toList==([]:List UInt8))),zR,H',⟨by have:=HJ1.out;first|omega|exact Nat.le_refl _⟩,zK BK227,⟨zT HB⟩⟩
      ·rw[if_neg c13]at H
       have c13b0:=beq_eq_false_iff_ne.mpr c13;have c13b1:=bne_iff_ne.mpr c13;have H':=qa H;clear H;obtain⟨hcz20_0,hcz20_1,hcz20_2,hfz20_0,hfz20_1,hfz20_2⟩:=z3 BK227;go_wp2_with (first|((with_reducible refine gate_callee (f:=107) rfl ?_);refine zO Tryz.func107 (by kernel_rfl) (whole_Check.calls a0_0 a0_1 t228 _ A9.out) fun w21 hb=>?_;replace BK227:=zB BK227 hb;replace HB:=zS HB hb;(try clear hb);obtain⟨hcz22_0,hcz22_1,hcz22_2,hfz22_0,hfz22_1,hfz22_2⟩:=z3 BK227)|(go_at_call 108;(with_reducible refine(rat_den.calls a0_0 a0_1 a0_2 t229 t230 _ A11.out).mono ?_);rintro e w23 ⟨rfl,hb⟩;replace BK227:=zB BK227 hb;replace HB:=zS HB hb;(try clear hb))|(go_at_call 107;(with_reducible refine(whole_Check.calls t229 t230 t231 _ A12.out).mono ?_);rintro e w24 ⟨rfl,hb⟩;replace BK227:=zB BK227 hb;replace HB:=zS HB hb;(try clear hb)))
       go_meet
       case rel=>exact⟨_,(true),zR,H',⟨by have:=HJ1.out;first|omega|exact Nat.le_refl _⟩,zK BK227,⟨zT HB⟩⟩
     ·rw[if_neg c10]at H
      have c10b0:=beq_eq_false_iff_ne.mpr c10;have c10b1:=bne_iff_ne.mpr c10
      (first|rw[c10b0]|(simp only[i64_w,i32_w];rw[c10b0])|skip)
      have H':=qa H;clear H;obtain⟨hcz25_0,hcz25_1,hcz25_2,hfz25_0,hfz25_1,hfz25_2⟩:=z3 BK227;go_wp2_with (first|((with_reducible refine gate_callee (f:=107) rfl ?_);refine zO Tryz.func107 (by kernel_rfl) (whole_Check.calls a0_0 a0_1 t228 _ A9.out) fun w26 hb=>?_;replace BK227:=zB BK227 hb;replace HB:=zS HB hb;(try clear hb)))
      go_meet
      case rel=>exact⟨_,(true),zR,H',⟨by have:=HJ1.out;first|omega|exact Nat.le_refl _⟩,zK BK227,⟨zT HB⟩⟩
    case rest =>
     clear HC8;try clear c1;try clear p2;try clear c4;try clear c4b0;try clear c4b1;try clear c7;try clear c9;try clear c10;try clear c10b0;try clear c10b1;try clear c13;try clear c13b0;try clear c13b1;try clear hcz14_0;try clear hcz14_1;try clear hcz14_2;try clear hcz16_0;try clear hcz16_1;try clear hcz16_2;try clear hcz19_0;try clear hcz19_1;try clear hcz19_2;try clear hcz20_0;try clear hcz20_1;try clear hcz20_2;try clear hcz22_0;try clear hcz22_1;try clear hcz22_2;try clear hcz25_0;try clear hcz25_1;try clear hcz25_2;try clear hcz5_0;try clear hcz5_1;try clear hcz5_2;try clear hcz6_0;try clear hcz6_1;try clear hcz6_2;try clear hfz14_0;try clear hfz14_1;try clear hfz14_2;try clear hfz16_0;try clear hfz16_1;try clear hfz16_2;try clear hfz19_0;try clear hfz19_1;try clear hfz19_2;try clear hfz20_0;try clear hfz20_1;try clear hfz20_2;try clear hfz22_0;try clear hfz22_1;try clear hfz22_2;try clear hfz25_0;try clear hfz25_1;try clear hfz25_2;try clear hfz5_0;try clear hfz5_1;try clear hfz5_2;try clear hfz6_0;try clear hfz6_1;try clear hfz6_2;try clear p2
     obtain⟨kq,x30_7,rfl,HA,HJ7,BK227,HB⟩:=hcut;cases kq with
     | zero=>exact absurd HA.out (by simp[rat_Check.j1])
     | succ kj7 =>
      have H:=HA.out;clear HA;simp only[rat_Check.j1]at H;by_cases c27:x30_7=true
      ·subst c27
       rw[if_pos rfl]at H
       obtain rfl:=Option.some.inj H;go_wp2
       go_ret
       exact⟨zH,zT HB⟩
      ·replace c27:=Bool.eq_false_iff.mpr c27
       subst c27;rw[if_neg zn]at H
       by_cases c28:a0_2.toList=([1]:List UInt8)
       ·rw[if_pos c28]at H
        have c28b0:=beq_iff_eq.mpr c28;have c28b1:=bne_eq_false_iff_eq.mpr c28;clear c28;obtain rfl:=Option.some.inj H;obtain⟨hcz29_0,hcz29_1,hcz29_2,hfz29_0,hfz29_1,hfz29_2⟩:=z3 BK227;go_wp2
        go_ret
        exact⟨zH,zT HB⟩
       ·rw[if_neg c28]at H
        have c28b0:=beq_eq_false_iff_ne.mpr c28;have c28b1:=bne_iff_ne.mpr c28;obtain⟨⟨t232,t233⟩,A30,H⟩:=zo H;try dsimp only at H
        obtain⟨⟨t234,t235,t236⟩,A31,H⟩:=zo H;try dsimp only at H
        by_cases c32:t235.toList=([1]:List UInt8)
        ·rw[if_pos c32]at H
         have c32b0:=beq_iff_eq.mpr c32;have c32b1:=bne_eq_false_iff_eq.mpr c32;clear c32;obtain rfl:=Option.some.inj H;obtain⟨hcz33_0,hcz33_1,hcz33_2,hfz33_0,hfz33_1,hfz33_2⟩:=z3 BK227;try go_wp2
         replace BK227:=zD BK227;replace HB:=zF HB;refine start_ (n:=11) (S:=fun w'=>w'.cell? ⟨gb227,0,none⟩=some (.bool a0_0)∧w'.cell? ⟨gb227,1,none⟩=some (.string a0_1)∧w'.cell? ⟨gb227,2,none⟩=some (.string a0_2)) (ds:=[]) (zb 11 0) (by kernel_rfl) rfl rfl ⟨zc BK227 0,zc BK227 1,zc BK227 2⟩ (fun hHeld=>?_);refine with_tabW rat_Check.tab7 rat_Check.bits7 (fun HT_ HW_=>?_);generalize wc.drew=w34 at BK227 HB hHeld ⊢;refine zU (i:=0) (N:=some 35) (zb 11 1) (any_of HT_.out (by kernel_rfl)) ?_;refine zV (i:=1) (N:=some 36) (zb 11 3) (take_ofW HT_.out HW_.out (by kernel_rfl)) hHeld ?_;refine zV (i:=2) (N:=some 37) (zb 11 7) (take_ofW HT_.out HW_.out (by kernel_rfl)) hHeld ?_;refine join_ (σ:=Nat) 2 (zb 11 511) (fun s_=>[(38,.agg #[.bool t232,.string t233]),(39,.tuple #[.agg #[.bool t234,.string t235],.int .i64 t236]),(3,.pointer (some ⟨s_,0,none⟩)),(34,.tuple #[.agg #[.bool t234,.string t235],.int .i64 t236]),(40,.agg #[.bool t234,.string t235]),(41,.int .i64 t236)]) (fun s_ w'=>(w'.cell? ⟨gb227,0,none⟩=some (.bool a0_0)∧w'.cell? ⟨gb227,1,none⟩=some (.string a0_1)∧w'.cell? ⟨gb227,2,none⟩=some (.string a0_2))∧(w'.heap[gb227]?=some (.cells #[.bool a0_0,.string a0_1,.string a0_2] 40 (0,0)))∧(w'.heap[s_]?=some (.cells #[.bool false,.string ⟨#[]⟩] 38 (0,0)))∧(w.heap.size≤s_)∧(w.heap.size≤s_)∧(gb227≠s_)∧(s_≠gb227)∧(Below w.heap.size w w')) ?_ ?_;rotate_left
         ·intro hCont
          refine two_ (i:=3) (j:=8) (Ni:=some 38) (Nj:=some 3) (zb 11 15) (zb 11 263) rfl rfl rfl rfl (two_of HT_.out (by kernel_rfl)) (by decide) (by decide) (fun K hK=>?_) (fun K hK=>?_)
          ·skip
           refine zJ Tryz.func108 (by kernel_rfl) (rat_den.calls a0_0 a0_1 a0_2 t232 t233 _ A30.out) fun w35 hb=>?_;replace BK227:=zB BK227 hb;replace HB:=zS HB hb
           (try clear hb)
           refine hK.out _ _ ⟨zc BK227 0,zc BK227 1,zc BK227 2⟩ (fun hHeld=>?_);clear hK K;refine zW (some 38) ?_;refine two_ (i:=4) (j:=8) (Ni:=some 39) (Nj:=some 3) (zb 11 31) (zb 11 271) rfl rfl rfl rfl (two_of HT_.out (by kernel_rfl)) (by decide) (by decide) (fun K hK=>?_) (fun K hK=>?_)
           ·skip
            refine zJ Tryz.func109 (by kernel_rfl) (whole_Gcd.calls a0_0 a0_1 t232 t233 t234 t235 t236 _ A31.out) fun w36 hb=>?_;replace BK227:=zB BK227 hb;replace HB:=zS HB hb
            (try clear hb)
            refine hK.out _ _ ⟨zc BK227 0,zc BK227 1,zc BK227 2⟩ (fun hHeld=>?_);clear hK K;refine zW (some 39) ?_;refine zU (i:=5) (N:=some 34) (zb 11 63) (any_of HT_.out (by kernel_rfl)) ?_;refine zU (i:=6) (N:=some 40) (zb 11 127) (any_of HT_.out (by kernel_rfl)) ?_;refine zU (i:=7) (N:=some 41) (zb 11 255) (any_of HT_.out (by kernel_rfl)) ?_;refine one_ (i:=8) (N:=some 3) (zb 11 511) rfl rfl (one_of HT_.out (by kernel_rfl)) (by decide) (fun K hK=>?_);refine box_step ?hg (N:=3) ?hd (cs:=#[.bool false,.string ⟨#[]⟩]) (t:=38) ?hr ?_;(case hd=>rfl);(case hg=>rfl);(case hr=>first|(go_simp;done)|(go_simp;rfl))
            intro gb237 hg w37 hbox hb;have BK237:=qa (hbox);have GW237:=zG hg HB;have GE237:=zG hg HB;obtain⟨NB227_237,NB237_227⟩:=zQ hg BK227;replace BK227:=zB BK227 hb;replace HB:=zS HB hb;clear hb hbox hg;refine hK.out _ _ ⟨zc BK227 0,zc BK227 1,zc BK227 2⟩ (fun hHeld=>?_);clear hK K;refine zW (some 3) ?_;exact norm_ (by simp only[putAll,Act.put,List.setIfInBounds_toArray,List.set_cons_zero,List.set_cons_succ]) (hCont (gb237) _ ⟨hHeld,(zK BK227).out,(zK BK237).out,GW237.out,GE237.out,NB227_237.out,NB237_227.out,(zT HB)⟩)
           ·skip
            refine box_step ?hg (N:=3) ?hd (cs:=#[.bool false,.string ⟨#[]⟩]) (t:=38) ?hr ?_;(case hd=>rfl);(case hg=>rfl);(case hr=>first|(go_simp;done)|(go_simp;rfl))
            intro gb237 hg w36 hbox hb;have BK237:=qa (hbox);have GW237:=zG hg HB;have GE237:=zG hg HB;obtain⟨NB227_237,NB237_227⟩:=zQ hg BK227;replace BK227:=zB BK227 hb;replace HB:=zS HB hb;clear hb hbox hg;refine hK.out _ _ ⟨zc BK227 0,zc BK227 1,zc BK227 2⟩ (fun hHeld=>?_);clear hK K;refine zW (some 3) ?_;refine one_ (i:=4) (N:=some 39) (zb 11 287) rfl rfl (one_of HT_.out (by kernel_rfl)) (by decide) (fun K hK=>?_);refine zJ Tryz.func109 (by kernel_rfl) (whole_Gcd.calls a0_0 a0_1 t232 t233 t234 t235 t236 _ A31.out) fun w37 hb=>?_;obtain⟨BK227,BK237⟩:=zB2 BK227 BK237 hb;replace HB:=zS HB hb
            (try clear hb)
            refine hK.out _ _ ⟨zc BK227 0,zc BK227 1,zc BK227 2⟩ (fun hHeld=>?_);clear hK K;refine zW (some 39) ?_;refine zU (i:=5) (N:=some 34) (zb 11 319) (any_of HT_.out (by kernel_rfl)) ?_;refine zU (i:=6) (N:=some 40) (zb 11 383) (any_of HT_.out (by kernel_rfl)) ?_;refine zU (i:=7) (N:=some 41) (zb 11 511) (any_of HT_.out (by kernel_rfl)) ?_;exact norm_ (by simp only[putAll,Act.put,List.setIfInBounds_toArray,List.set_cons_zero,List.set_cons_succ]) (hCont (gb237) _ ⟨hHeld,(zK BK227).out,(zK BK237).out,GW237.out,GE237.out,NB227_237.out,NB237_227.out,(zT HB)⟩)
          ·skip
           refine box_step ?hg (N:=3) ?hd (cs:=#[.bool false,.string ⟨#[]⟩]) (t:=38) ?hr ?_;(case hd=>rfl);(case hg=>rfl);(case hr=>first|(go_simp;done)|(go_simp;rfl))
           intro gb237 hg w35 hbox hb;have BK237:=qa (hbox);have GW237:=zG hg HB;have GE237:=zG hg HB;obtain⟨NB227_237,NB237_227⟩:=zQ hg BK227;replace BK227:=zB BK227 hb;replace HB:=zS HB hb;clear hb hbox hg;refine hK.out _ _ ⟨zc BK227 0,zc BK227 1,zc BK227 2⟩ (fun hHeld=>?_);clear hK K;refine zW (some 3) ?_;refine one_ (i:=3) (N:=some 38) (zb 11 271) rfl rfl (one_of HT_.out (by kernel_rfl)) (by decide) (fun K hK=>?_);refine zJ Tryz.func108 (by kernel_rfl) (rat_den.calls a0_0 a0_1 a0_2 t232 t233 _ A30.out) fun w36 hb=>?_;obtain⟨BK227,BK237⟩:=zB2 BK227 BK237 hb;replace HB:=zS HB hb
           (try clear hb)
           refine hK.out _ _ ⟨zc BK227 0,zc BK227 1,zc BK227 2⟩ (fun hHeld=>?_);clear hK K;refine zW (some 38) ?_;refine one_ (i:=4) (N:=some 39) (zb 11 287) rfl rfl (one_of HT_.out (by kernel_rfl)) (by decide) (fun K hK=>?_);refine zJ Tryz.func109 (by kernel_rfl) (whole_Gcd.calls a0_0 a0_1 t232 t233 t234 t235 t236 _ A31.out) fun w37 hb=>?_;obtain⟨BK227,BK237⟩:=zB2 BK227 BK237 hb;replace HB:=zS HB hb
           (try clear hb)
           refine hK.out _ _ ⟨zc BK227 0,zc BK227 1,zc BK227 2⟩ (fun hHeld=>?_);clear hK K;refine zW (some 39) ?_;refine zU (i:=5) (N:=some 34) (zb 11 319) (any_of HT_.out (by kernel_rfl)) ?_;refine zU (i:=6) (N:=some 40) (zb 11 383) (any_of HT_.out (by kernel_rfl)) ?_;refine zU (i:=7) (N:=some 41) (zb 11 511) (any_of HT_.out (by kernel_rfl)) ?_;exact norm_ (by simp only[putAll,Act.put,List.setIfInBounds_toArray,List.set_cons_zero,List.set_cons_succ]) (hCont (gb237) _ ⟨hHeld,(zK BK227).out,(zK BK237).out,GW237.out,GE237.out,NB227_237.out,NB237_227.out,(zT HB)⟩)
         rintro gb237 w38 ⟨hS_,h0_,h1_,h2_,h3_,h4_,h5_,h6_⟩;replace BK227:=qa h0_;have BK237:=qa h1_;have GW237:=qa h2_;have GE237:=qa h3_;have NB227_237:=qa h4_;have NB237_227:=qa h5_;replace HB:=qa h6_;clear h0_ h1_ h2_ h3_ h4_ h5_ h6_;have hHeld:=hS_;refine norm_ (a':=?_) ?_ ?_;rotate_left
         ·simp only[putAll,Act.put,List.setIfInBounds_toArray,List.set_cons_zero,List.set_cons_succ]
          rfl
         refine one_ (i:=9) (N:=none) (zb 11 1023) rfl rfl (one_of HT_.out (by kernel_rfl)) (by decide) (fun K hK=>?_);have hs39:w38.cell? ⟨gb237,0,none⟩=some (.bool false):=zc BK237 0;have hfs39:=blk_frozen BK237.out 0;have hns39_0:=NB227_237.out;have hms39_0:=NB237_227.out;have hs40:w38.cell? ⟨gb237,1,none⟩=some (.string ⟨#[]⟩):=zc BK237 1;have hfs40:=blk_frozen BK237.out 1;have hns40_0:=NB227_237.out;have hms40_0:=NB237_227.out;refine skip_ (w1:=?_) (by rfl) rfl ?_ ?_;rotate_left
         ·go_simp
          rfl
         refine hK.out _ _ ⟨((cell_far (p:=⟨gb237,_,none⟩) NB227_237.out _).trans (((cell_far (p:=⟨gb237,_,none⟩) NB227_237.out _).trans (hHeld.1)))),((cell_far (p:=⟨gb237,_,none⟩) NB227_237.out _).trans (((cell_far (p:=⟨gb237,_,none⟩) NB227_237.out _).trans (hHeld.2.1)))),((cell_far (p:=⟨gb237,_,none⟩) NB227_237.out _).trans (((cell_far (p:=⟨gb237,_,none⟩) NB227_237.out _).trans (hHeld.2.2))))⟩ (fun hHeld=>?_);clear hK K;refine zU (i:=10) (N:=some 4) (zb 11 2047) (any_of HT_.out (by kernel_rfl)) ?_;refine done_ (done_of HT_.out (by kernel_rfl)) ?_;have hnb41:=NB237_227.out;have hnc41:=NB227_237.out;obtain⟨hcz42_0,hcz42_1,hfz42_0,hfz42_1⟩:=z2 BK237;try go_wp2
         go_ret
         exact⟨zH,zT HB⟩
        ·rw[if_neg c32]at H
         have c32b0:=beq_eq_false_iff_ne.mpr c32;have c32b1:=bne_iff_ne.mpr c32;obtain rfl:=Option.some.inj H;obtain⟨hcz43_0,hcz43_1,hcz43_2,hfz43_0,hfz43_1,hfz43_2⟩:=z3 BK227;try go_wp2
         replace BK227:=zD BK227;replace HB:=zF HB;refine start_ (n:=11) (S:=fun w'=>w'.cell? ⟨gb227,0,none⟩=some (.bool a0_0)∧w'.cell? ⟨gb227,1,none⟩=some (.string a0_1)∧w'.cell? ⟨gb227,2,none⟩=some (.string a0_2)) (ds:=[]) (zb 11 0) (by kernel_rfl) rfl rfl ⟨zc BK227 0,zc BK227 1,zc BK227 2⟩ (fun hHeld=>?_);refine with_tabW rat_Check.tab7 rat_Check.bits7 (fun HT_ HW_=>?_);generalize wc.drew=w44 at BK227 HB hHeld ⊢;refine zU (i:=0) (N:=some 35) (zb 11 1) (any_of HT_.out (by kernel_rfl)) ?_;refine zV (i:=1) (N:=some 36) (zb 11 3) (take_ofW HT_.out HW_.out (by kernel_rfl)) hHeld ?_;refine zV (i:=2) (N:=some 37) (zb 11 7) (take_ofW HT_.out HW_.out (by kernel_rfl)) hHeld ?_;refine join_ (σ:=Nat) 2 (zb 11 511) (fun s_=>[(38,.agg #[.bool t232,.string t233]),(39,.tuple #[.agg #[.bool t234,.string t235],.int .i64 t236]),(3,.pointer (some ⟨s_,0,none⟩)),(34,.tuple #[.agg #[.bool t234,.string t235],.int .i64 t236]),(40,.agg #[.bool t234,.string t235]),(41,.int .i64 t236)]) (fun s_ w'=>(w'.cell? ⟨gb227,0,none⟩=some (.bool a0_0)∧w'.cell? ⟨gb227,1,none⟩=some (.string a0_1)∧w'.cell? ⟨gb227,2,none⟩=some (.string a0_2))∧(w'.heap[gb227]?=some (.cells #[.bool a0_0,.string a0_1,.string a0_2] 40 (0,0)))∧(w'.heap[s_]?=some (.cells #[.bool false,.string ⟨#[]⟩] 38 (0,0)))∧(w.heap.size≤s_)∧(w.heap.size≤s_)∧(gb227≠s_)∧(s_≠gb227)∧(Below w.heap.size w w')) ?_ ?_;rotate_left
         ·intro hCont
          refine two_ (i:=3) (j:=8) (Ni:=some 38) (Nj:=some 3) (zb 11 15) (zb 11 263) rfl rfl rfl rfl (two_of HT_.out (by kernel_rfl)) (by decide) (by decide) (fun K hK=>?_) (fun K hK=>?_)
          ·skip
           refine zJ Tryz.func108 (by kernel_rfl) (rat_den.calls a0_0 a0_1 a0_2 t232 t233 _ A30.out) fun w45 hb=>?_;replace BK227:=zB BK227 hb;replace HB:=zS HB hb
           (try clear hb)
           refine hK.out _ _ ⟨zc BK227 0,zc BK227 1,zc BK227 2⟩ (fun hHeld=>?_);clear hK K;refine zW (some 38) ?_;refine two_ (i:=4) (j:=8) (Ni:=some 39) (Nj:=some 3) (zb 11 31) (zb 11 271) rfl rfl rfl rfl (two_of HT_.out (by kernel_rfl)) (by decide) (by decide) (fun K hK=>?_) (fun K hK=>?_)
           ·skip
            refine zJ Tryz.func109 (by kernel_rfl) (whole_Gcd.calls a0_0 a0_1 t232 t233 t234 t235 t236 _ A31.out) fun w46 hb=>?_;replace BK227:=zB BK227 hb;replace HB:=zS HB hb
            (try clear hb)
            refine hK.out _ _ ⟨zc BK227 0,zc BK227 1,zc BK227 2⟩ (fun hHeld=>?_);clear hK K;refine zW (some 39) ?_;refine zU (i:=5) (N:=some 34) (zb 11 63) (any_of HT_.out (by kernel_rfl)) ?_;refine zU (i:=6) (N:=some 40) (zb 11 127) (any_of HT_.out (by kernel_rfl)) ?_;refine zU (i:=7) (N:=some 41) (zb 11 255) (any_of HT_.out (by kernel_rfl)) ?_;refine one_ (i:=8) (N:=some 3) (zb 11 511) rfl rfl (one_of HT_.out (by kernel_rfl)) (by decide) (fun K hK=>?_);refine box_step ?hg (N:=3) ?hd (cs:=#[.bool false,.string ⟨#[]⟩]) (t:=38) ?hr ?_;(case hd=>rfl);(case hg=>rfl);(case hr=>first|(go_simp;done)|(go_simp;rfl))
            intro gb237 hg w47 hbox hb;have BK237:=qa (hbox);have GW237:=zG hg HB;have GE237:=zG hg HB;obtain⟨NB227_237,NB237_227⟩:=zQ hg BK227;replace BK227:=zB BK227 hb;replace HB:=zS HB hb;clear hb hbox hg;refine hK.out _ _ ⟨zc BK227 0,zc BK227 1,zc BK227 2⟩ (fun hHeld=>?_);clear hK K;refine zW (some 3) ?_;exact norm_ (by simp only[putAll,Act.put,List.setIfInBounds_toArray,List.set_cons_zero,List.set_cons_succ]) (hCont (gb237) _ ⟨hHeld,(zK BK227).out,(zK BK237).out,GW237.out,GE237.out,NB227_237.out,NB237_227.out,(zT HB)⟩)
           ·skip
            refine box_step ?hg (N:=3) ?hd (cs:=#[.bool false,.string ⟨#[]⟩]) (t:=38) ?hr ?_;(case hd=>rfl);(case hg=>rfl);(case hr=>first|(go_simp;done)|(go_simp;rfl))
            intro gb237 hg w46 hbox hb;have BK237:=qa (hbox);have GW237:=zG hg HB;have GE237:=zG hg HB;obtain⟨NB227_237,NB237_227⟩:=zQ hg BK227;replace BK227:=zB BK227 hb;replace HB:=zS HB hb;clear hb hbox hg;refine hK.out _ _ ⟨zc BK227 0,zc BK227 1,zc BK227 2⟩ (fun hHeld=>?_);clear hK K;refine zW (some 3) ?_;refine one_ (i:=4) (N:=some 39) (zb 11 287) rfl rfl (one_of HT_.out (by kernel_rfl)) (by decide) (fun K hK=>?_);refine zJ Tryz.func109 (by kernel_rfl) (whole_Gcd.calls a0_0 a0_1 t232 t233 t234 t235 t236 _ A31.out) fun w47 hb=>?_;obtain⟨BK227,BK237⟩:=zB2 BK227 BK237 hb;replace HB:=zS HB hb
            (try clear hb)
            refine hK.out _ _ ⟨zc BK227 0,zc BK227 1,zc BK227 2⟩ (fun hHeld=>?_);clear hK K;refine zW (some 39) ?_;refine zU (i:=5) (N:=some 34) (zb 11 319) (any_of HT_.out (by kernel_rfl)) ?_;refine zU (i:=6) (N:=some 40) (zb 11 383) (any_of HT_.out (by kernel_rfl)) ?_;refine zU (i:=7) (N:=some 41) (zb 11 511) (any_of HT_.out (by kernel_rfl)) ?_;exact norm_ (by simp only[putAll,Act.put,List.setIfInBounds_toArray,List.set_cons_zero,List.set_cons_succ]) (hCont (gb237) _ ⟨hHeld,(zK BK227).out,(zK BK237).out,GW237.out,GE237.out,NB227_237.out,NB237_227.out,(zT HB)⟩)
          ·skip
           refine box_step ?hg (N:=3) ?hd (cs:=#[.bool false,.string ⟨#[]⟩]) (t:=38) ?hr ?_;(case hd=>rfl);(case hg=>rfl);(case hr=>first|(go_simp;done)|(go_simp;rfl))
           intro gb237 hg w45 hbox hb;have BK237:=qa (hbox);have GW237:=zG hg HB;have GE237:=zG hg HB;obtain⟨NB227_237,NB237_227⟩:=zQ hg BK227;replace BK227:=zB BK227 hb;replace HB:=zS HB hb;clear hb hbox hg;refine hK.out _ _ ⟨zc BK227 0,zc BK227 1,zc BK227 2⟩ (fun hHeld=>?_);clear hK K;refine zW (some 3) ?_;refine one_ (i:=3) (N:=some 38) (zb 11 271) rfl rfl (one_of HT_.out (by kernel_rfl)) (by decide) (fun K hK=>?_);refine zJ Tryz.func108 (by kernel_rfl) (rat_den.calls a0_0 a0_1 a0_2 t232 t233 _ A30.out) fun w46 hb=>?_;obtain⟨BK227,BK237⟩:=zB2 BK227 BK237 hb;replace HB:=zS HB hb
           (try clear hb)
           refine hK.out _ _ ⟨zc BK227 0,zc BK227 1,zc BK227 2⟩ (fun hHeld=>?_);clear hK K;refine zW (some 38) ?_;refine one_ (i:=4) (N:=some 39) (zb 11 287) rfl rfl (one_of HT_.out (by kernel_rfl)) (by decide) (fun K hK=>?_);refine zJ Tryz.func109 (by kernel_rfl) (whole_Gcd.calls a0_0 a0_1 t232 t233 t234 t235 t236 _ A31.out) fun w47 hb=>?_;obtain⟨BK227,BK237⟩:=zB2 BK227 BK237 hb;replace HB:=zS HB hb
           (try clear hb)
           refine hK.out _ _ ⟨zc BK227 0,zc BK227 1,zc BK227 2⟩ (fun hHeld=>?_);clear hK K;refine zW (some 39) ?_;refine zU (i:=5) (N:=some 34) (zb 11 319) (any_of HT_.out (by kernel_rfl)) ?_;refine zU (i:=6) (N:=some 40) (zb 11 383) (any_of HT_.out (by kernel_rfl)) ?_;refine zU (i:=7) (N:=some 41) (zb 11 511) (any_of HT_.out (by kernel_rfl)) ?_;exact norm_ (by simp only[putAll,Act.put,List.setIfInBounds_toArray,List.set_cons_zero,List.set_cons_succ]) (hCont (gb237) _ ⟨hHeld,(zK BK227).out,(zK BK237).out,GW237.out,GE237.out,NB227_237.out,NB237_227.out,(zT HB)⟩)
         rintro gb237 w48 ⟨hS_,h0_,h1_,h2_,h3_,h4_,h5_,h6_⟩;replace BK227:=qa h0_;have BK237:=qa h1_;have GW237:=qa h2_;have GE237:=qa h3_;have NB227_237:=qa h4_;have NB237_227:=qa h5_;replace HB:=qa h6_;clear h0_ h1_ h2_ h3_ h4_ h5_ h6_;have hHeld:=hS_;refine norm_ (a':=?_) ?_ ?_;rotate_left
         ·simp only[putAll,Act.put,List.setIfInBounds_toArray,List.set_cons_zero,List.set_cons_succ]
          rfl
         refine one_ (i:=9) (N:=none) (zb 11 1023) rfl rfl (one_of HT_.out (by kernel_rfl)) (by decide) (fun K hK=>?_);have hs49:w48.cell? ⟨gb237,0,none⟩=some (.bool false):=zc BK237 0;have hfs49:=blk_frozen BK237.out 0;have hns49_0:=NB227_237.out;have hms49_0:=NB237_227.out;have hs50:w48.cell? ⟨gb237,1,none⟩=some (.string ⟨#[]⟩):=zc BK237 1;have hfs50:=blk_frozen BK237.out 1;have hns50_0:=NB227_237.out;have hms50_0:=NB237_227.out;refine skip_ (w1:=?_) (by rfl) rfl ?_ ?_;rotate_left
         ·go_simp
          rfl
         refine hK.out _ _ ⟨((cell_far (p:=⟨gb237,_,none⟩) NB227_237.out _).trans (((cell_far (p:=⟨gb237,_,none⟩) NB227_237.out _).trans (hHeld.1)))),((cell_far (p:=⟨gb237,_,none⟩) NB227_237.out _).trans (((cell_far (p:=⟨gb237,_,none⟩) NB227_237.out _).trans (hHeld.2.1)))),((cell_far (p:=⟨gb237,_,none⟩) NB227_237.out _).trans (((cell_far (p:=⟨gb237,_,none⟩) NB227_237.out _).trans (hHeld.2.2))))⟩ (fun hHeld=>?_);clear hK K;refine zU (i:=10) (N:=some 4) (zb 11 2047) (any_of HT_.out (by kernel_rfl)) ?_;refine done_ (done_of HT_.out (by kernel_rfl)) ?_;have hnb51:=NB237_227.out;have hnc51:=NB227_237.out;obtain⟨hcz52_0,hcz52_1,hfz52_0,hfz52_1⟩:=z2 BK237;try go_wp2
         go_ret
         exact⟨zH,zT HB⟩
end Go.Proofs.YtfcjnhkkfmgmpaaGreatH.R
