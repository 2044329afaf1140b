import Derived.Test.YtfcjnhkkfmgmpaaGreatZrG41
set_option linter.all false
set_option maxRecDepth 100000
set_option maxHeartbeats 8000000
namespace Go.Proofs.YtfcjnhkkfmgmpaaGreatH.R
open Go.RowKit Go.Proofs.YtfcjnhkkfmgmpaaGreatH.Z Go.Proofs.YtfcjnhkkfmgmpaaGreatW.PrintWords Go.Proofs.YtfcjnhkkfmgmpaaGreatW.PrintLast Go.Proofs.YtfcjnhkkfmgmpaaGreatW.PrintMore
attribute [local go_sem] max2_int min2_int max_two min_two max_three min_three max_four min_four
mutual
def gussetref05_Asked.l0:Nat→List (S42)→Int→Option (Int)
 | 0,_,_=>none
 | k+1,x0,x3=>if x3<(x0.length:Int) then (if 0≤x3 then ((gussetref05_long.f ((rd_T42 x0 x3).f0.f0.f0) ((rd_T42 x0 x3).f0.f0.f1) ((rd_T42 x0 x3).f0.f1)).bind fun t119=>(if t119=true then (gussetref05_Asked.j1 k x0 x3 true) else ((gussetref05_long.f ((rd_T42 x0 x3).f1.f0.f0) ((rd_T42 x0 x3).f1.f0.f1) ((rd_T42 x0 x3).f1.f1)).bind fun t121=>(gussetref05_Asked.j1 k x0 x3 t121)))) else (none)) else (some 0)
def gussetref05_Asked.j1:Nat→List (S42)→Int→Bool→Option (Int)
 | 0,_,_,_=>none
 | k+1,x0,x3,x24=>if x24=true then (some 5) else (if 0≤x3 then (if x3<(x0.length:Int) then ((gussetref04_Check.f k ((rd_T42 x0 x3).f0.f0.f0) ((rd_T42 x0 x3).f0.f0.f1) ((rd_T42 x0 x3).f0.f1) ((rd_T42 x0 x3).f1.f0.f0) ((rd_T42 x0 x3).f1.f0.f1) ((rd_T42 x0 x3).f1.f1)).bind fun t123=>(if t123=0 then (gussetref05_Asked.l0 k x0 (wrap64 (x3+1))) else (some t123))) else (none)) else (none))
end
def gussetref05_Asked.f (k:Nat) (l0:List (S42)):Option (Int):=gussetref05_Asked.l0 k l0 0
theorem gussetref05_Asked.calls (k:Nat) (A0:Option Addr) (c0:Nat) (l0:List (S42)) (r:Int) (w:World) (hr0:Kd.C k42 w A0 l0.length l0) (hc0:l0.length≤c0) (h:gussetref05_Asked.f k l0=some r) :
  Calls Tryz.prog 18 #[.slice A0 l0.length c0] w fun e w'=>e = .returned (.int .i64 r)∧Below w.heap.size w w':=by
 have hu40:=Tryz.underlying40;have hu42:=Tryz.underlying42;have HR0:=qa hr0;have HC0:=qa hc0;clear hr0 hc0;have HB:=qa (Below.refl w.heap.size w);unfold gussetref05_Asked.f at h;have H:=h;clear h;have H':=qa H;clear H;go_enter Tryz.func18,Tryz.ntmps18;go_wp2
 go_loopg [3] k (fun kq v3 w'=>∃ (x3_1:Int),v3 = .int .i64 x3_1∧Aside0 (gussetref05_Asked.l0 kq l0 x3_1=some r)∧Aside0 (kq≤k)∧Aside0 (Below w.heap.size w w'))
 case atStart=>exact⟨(0),zR,H',⟨Nat.le_refl _⟩,⟨zT HB⟩⟩
 case round =>
  clear H';try clear c1
  obtain⟨x3_1,rfl,HA,HK1,HB⟩:=hrel;cases gk with
  | zero=>exact absurd HA.out (by simp[gussetref05_Asked.l0])
  | succ k1 =>
   have H:=HA.out;clear HA;simp only[gussetref05_Asked.l0]at H;by_cases c2:x3_1<(l0.length:Int)
   ·rw[if_pos c2]at H
    have c2b0:=decide_eq_true c2;clear c2;have HC3:=qa H;clear H;go_upto_region 4 with (fail)
    go_cut [24] (fun v24 wc=>∃ (kq:Nat) (x24_2:Bool),v24 = .bool x24_2∧Aside0 (gussetref05_Asked.j1 kq l0 x3_1 x24_2=some r)∧Aside0 (kq≤k1)∧Aside0 (Below w.heap.size w wc))
    case first =>
     have H:=HC3.out;clear HC3;by_cases c4:0≤x3_1
     ·rw[if_pos c4]at H
      have c4b0:=decide_eq_true c4;clear c4
      (first|rw[c4b0]|(simp only[i64_w,i32_w];rw[c4b0])|skip)
      obtain⟨t119,A5,H⟩:=zo H;by_cases c6:t119=true
      ·subst c6
       rw[if_pos rfl]at H
       have H':=qa H;clear H;have p118:0≤(x3_1:Int):=of_decide_eq_true (by first|(with_reducible assumption)|assumption);have q118:x3_1<(l0.length:Int):=of_decide_eq_true (by first|(with_reducible assumption)|assumption);obtain⟨ad118,e118,hx118_0,hx118_1,hx118_2,hx118_3,hx118_4,hx118_5⟩:=at_T42 HR0.out x3_1 p118 q118;cases e118;replace hx118_0:=(HB.out.cell (World.block_lt_of_cell? w _ hx118_0)).trans hx118_0;replace hx118_1:=(HB.out.cell (World.block_lt_of_cell? w _ hx118_1)).trans hx118_1;replace hx118_2:=(HB.out.cell (World.block_lt_of_cell? w _ hx118_2)).trans hx118_2;replace hx118_3:=(HB.out.cell (World.block_lt_of_cell? w _ hx118_3)).trans hx118_3;replace hx118_4:=(HB.out.cell (World.block_lt_of_cell? w _ hx118_4)).trans hx118_4;replace hx118_5:=(HB.out.cell (World.block_lt_of_cell? w _ hx118_5)).trans hx118_5;replace p118:=eq_true p118;replace q118:=eq_true q118;go_wp2_with (first|((with_reducible refine gate_callee (f:=43) rfl ?_);refine zO Tryz.func43 (by kernel_rfl) (gussetref05_long.calls ((rd_T42 l0 x3_1).f0.f0.f0) ((rd_T42 l0 x3_1).f0.f0.f1) ((rd_T42 l0 x3_1).f0.f1) true _ A5.out) fun w7 hb=>?_;replace HB:=zS HB hb;(try clear hb)))
       go_meet
       case rel=>exact⟨_,(true),zR,H',⟨by have:=HK1.out;first|omega|exact Nat.le_refl _⟩,⟨zT HB⟩⟩
      ·replace c6:=Bool.eq_false_iff.mpr c6
       subst c6;rw[if_neg zn]at H
       obtain⟨t121,A8,H⟩:=zo H;have H':=qa H;clear H;have p118:0≤(x3_1:Int):=of_decide_eq_true (by first|(with_reducible assumption)|assumption);have q118:x3_1<(l0.length:Int):=of_decide_eq_true (by first|(with_reducible assumption)|assumption);obtain⟨ad118,e118,hx118_0,hx118_1,hx118_2,hx118_3,hx118_4,hx118_5⟩:=at_T42 HR0.out x3_1 p118 q118;cases e118;replace hx118_0:=(HB.out.cell (World.block_lt_of_cell? w _ hx118_0)).trans hx118_0;replace hx118_1:=(HB.out.cell (World.block_lt_of_cell? w _ hx118_1)).trans hx118_1;replace hx118_2:=(HB.out.cell (World.block_lt_of_cell? w _ hx118_2)).trans hx118_2;replace hx118_3:=(HB.out.cell (World.block_lt_of_cell? w _ hx118_3)).trans hx118_3;replace hx118_4:=(HB.out.cell (World.block_lt_of_cell? w _ hx118_4)).trans hx118_4;replace hx118_5:=(HB.out.cell (World.block_lt_of_cell? w _ hx118_5)).trans hx118_5;replace p118:=eq_true p118;replace q118:=eq_true q118;go_wp2_with (first|((with_reducible refine gate_callee (f:=43) rfl ?_);refine zO Tryz.func43 (by kernel_rfl) (gussetref05_long.calls ((rd_T42 l0 x3_1).f0.f0.f0) ((rd_T42 l0 x3_1).f0.f0.f1) ((rd_T42 l0 x3_1).f0.f1) false _ A5.out) fun w9 hb=>?_;replace HB:=zS HB hb;(try clear hb);have p120:0≤(x3_1:Int):=of_decide_eq_true (by first|(with_reducible assumption)|assumption);have q120:x3_1<(l0.length:Int):=of_decide_eq_true (by first|(with_reducible assumption)|assumption);obtain⟨ad120,e120,hx120_0,hx120_1,hx120_2,hx120_3,hx120_4,hx120_5⟩:=at_T42 HR0.out x3_1 p120 q120;obtain rfl:ad118=ad120:=(by injection e120);replace hx120_0:=(HB.out.cell (World.block_lt_of_cell? w _ hx120_0)).trans hx120_0;replace hx120_1:=(HB.out.cell (World.block_lt_of_cell? w _ hx120_1)).trans hx120_1;replace hx120_2:=(HB.out.cell (World.block_lt_of_cell? w _ hx120_2)).trans hx120_2;replace hx120_3:=(HB.out.cell (World.block_lt_of_cell? w _ hx120_3)).trans hx120_3;replace hx120_4:=(HB.out.cell (World.block_lt_of_cell? w _ hx120_4)).trans hx120_4;replace hx120_5:=(HB.out.cell (World.block_lt_of_cell? w _ hx120_5)).trans hx120_5;replace p120:=eq_true p120;replace q120:=eq_true q120)|(go_at_call 43;(with_reducible refine(gussetref05_long.calls ((rd_T42 l0 x3_1).f1.f0.f0) ((rd_T42 l0 x3_1).f1.f0.f1) ((rd_T42 l0 x3_1).f1.f1) t121 _ A8.out).mono ?_);rintro e w10 ⟨rfl,hb⟩;replace HB:=zS HB hb;(try clear hb)))
       go_meet
       case rel=>exact⟨_,(t121),zR,H',⟨by have:=HK1.out;first|omega|exact Nat.le_refl _⟩,⟨zT HB⟩⟩
     ·rw[if_neg c4]at H
      exact absurd H (by simp)
    case rest =>
     clear HC3;try clear c1;try clear p1;try clear q1;try clear hx1;try clear c2;try clear c2b0;try clear p2;try clear c4;try clear c4b0;try clear c6;try clear hx118_0;try clear hx118_1;try clear hx118_2;try clear hx118_3;try clear hx118_4;try clear hx118_5;try clear hx120_0;try clear hx120_1;try clear hx120_2;try clear hx120_3;try clear hx120_4;try clear hx120_5;try clear p118;try clear p120;try clear q118;try clear q120
     obtain⟨kq,x24_2,rfl,HA,HJ2,HB⟩:=hcut;cases kq with
     | zero=>exact absurd HA.out (by simp[gussetref05_Asked.j1])
     | succ kj2 =>
      have H:=HA.out;clear HA;simp only[gussetref05_Asked.j1]at H;by_cases c11:x24_2=true
      ·subst c11
       rw[if_pos rfl]at H
       obtain rfl:=Option.some.inj H;go_wp2
       go_ret
       exact⟨zH,zT HB⟩
      ·replace c11:=Bool.eq_false_iff.mpr c11
       subst c11;rw[if_neg zn]at H
       by_cases c12:0≤x3_1
       ·rw[if_pos c12]at H
        have c12b0:=decide_eq_true c12;clear c12;by_cases c13:x3_1<(l0.length:Int)
        ·rw[if_pos c13]at H
         have c13b0:=decide_eq_true c13;clear c13;obtain⟨t123,A14,H⟩:=zo H;by_cases c15:t123=0
         ·rw[if_pos c15]at H
          have c15b0:=beq_iff_eq.mpr c15;have c15b1:=bne_eq_false_iff_eq.mpr c15;clear c15;have H':=qa H;clear H;have p122:0≤(x3_1:Int):=of_decide_eq_true (by first|(with_reducible assumption)|assumption);have q122:x3_1<(l0.length:Int):=of_decide_eq_true (by first|(with_reducible assumption)|assumption);obtain⟨ad122,e122,hx122_0,hx122_1,hx122_2,hx122_3,hx122_4,hx122_5⟩:=at_T42 HR0.out x3_1 p122 q122;cases e122;replace hx122_0:=(HB.out.cell (World.block_lt_of_cell? w _ hx122_0)).trans hx122_0;replace hx122_1:=(HB.out.cell (World.block_lt_of_cell? w _ hx122_1)).trans hx122_1;replace hx122_2:=(HB.out.cell (World.block_lt_of_cell? w _ hx122_2)).trans hx122_2;replace hx122_3:=(HB.out.cell (World.block_lt_of_cell? w _ hx122_3)).trans hx122_3;replace hx122_4:=(HB.out.cell (World.block_lt_of_cell? w _ hx122_4)).trans hx122_4;replace hx122_5:=(HB.out.cell (World.block_lt_of_cell? w _ hx122_5)).trans hx122_5;replace p122:=eq_true p122;replace q122:=eq_true q122;go_wp2_with (first|((with_reducible refine gate_callee (f:=44) rfl ?_);refine zO Tryz.func44 (by kernel_rfl) (gussetref04_Check.calls kj2 ((rd_T42 l0 x3_1).f0.f0.f0) ((rd_T42 l0 x3_1).f0.f0.f1) ((rd_T42 l0 x3_1).f0.f1) ((rd_T42 l0 x3_1).f1.f0.f0) ((rd_T42 l0 x3_1).f1.f0.f1) ((rd_T42 l0 x3_1).f1.f1) t123 _ A14.out) fun w16 hb=>?_;replace HB:=zS HB hb;(try clear hb)))
          go_roundg kj2
          case measure=>have:=HK1.out;have:=HJ2.out;omega
          case rel=>exact⟨(wrap64 (x3_1+1)),zR,H',⟨by have:=HK1.out;have:=HJ2.out;omega⟩,⟨zT HB⟩⟩
         ·rw[if_neg c15]at H
          have c15b0:=beq_eq_false_iff_ne.mpr c15;have c15b1:=bne_iff_ne.mpr c15;obtain rfl:=Option.some.inj H;have p122:0≤(x3_1:Int):=of_decide_eq_true (by first|(with_reducible assumption)|assumption);have q122:x3_1<(l0.length:Int):=of_decide_eq_true (by first|(with_reducible assumption)|assumption);obtain⟨ad122,e122,hx122_0,hx122_1,hx122_2,hx122_3,hx122_4,hx122_5⟩:=at_T42 HR0.out x3_1 p122 q122;cases e122;replace hx122_0:=(HB.out.cell (World.block_lt_of_cell? w _ hx122_0)).trans hx122_0;replace hx122_1:=(HB.out.cell (World.block_lt_of_cell? w _ hx122_1)).trans hx122_1;replace hx122_2:=(HB.out.cell (World.block_lt_of_cell? w _ hx122_2)).trans hx122_2;replace hx122_3:=(HB.out.cell (World.block_lt_of_cell? w _ hx122_3)).trans hx122_3;replace hx122_4:=(HB.out.cell (World.block_lt_of_cell? w _ hx122_4)).trans hx122_4;replace hx122_5:=(HB.out.cell (World.block_lt_of_cell? w _ hx122_5)).trans hx122_5;replace p122:=eq_true p122;replace q122:=eq_true q122;go_wp2_with (first|((with_reducible refine gate_callee (f:=44) rfl ?_);refine zO Tryz.func44 (by kernel_rfl) (gussetref04_Check.calls kj2 ((rd_T42 l0 x3_1).f0.f0.f0) ((rd_T42 l0 x3_1).f0.f0.f1) ((rd_T42 l0 x3_1).f0.f1) ((rd_T42 l0 x3_1).f1.f0.f0) ((rd_T42 l0 x3_1).f1.f0.f1) ((rd_T42 l0 x3_1).f1.f1) t123 _ A14.out) fun w17 hb=>?_;replace HB:=zS HB hb;(try clear hb)))
          go_ret
          exact⟨zH,zT HB⟩
        ·rw[if_neg c13]at H
         exact absurd H (by simp)
       ·rw[if_neg c12]at H
        exact absurd H (by simp)
   ·rw[if_neg c2]at H
    have c2b0:=decide_eq_false c2;clear c2;obtain rfl:=Option.some.inj H;go_wp2
    go_ret
    exact⟨zH,zT HB⟩
def mesh_asked.l0:Nat→List (S42)→Int→Int→Option (Int)
 | 0,_,_,_=>none
 | k+1,x7,x8,x9=>if x9<x8 then (if 0≤x9 then (if x9<(x7.length:Int) then ((geom_Orient.f k ((rd_T42 x7 x9).f0.f0.f0) ((rd_T42 x7 x9).f0.f0.f1) ((rd_T42 x7 x9).f0.f1) ((rd_T42 x7 x9).f1.f0.f0) ((rd_T42 x7 x9).f1.f0.f1) ((rd_T42 x7 x9).f1.f1) ((rd_T42 x7 x9).f0.f0.f0) ((rd_T42 x7 x9).f0.f0.f1) ((rd_T42 x7 x9).f0.f1) ((rd_T42 x7 x9).f1.f0.f0) ((rd_T42 x7 x9).f1.f0.f1) ((rd_T42 x7 x9).f1.f1) ((rd_T42 x7 x9).f0.f0.f0) ((rd_T42 x7 x9).f0.f0.f1) ((rd_T42 x7 x9).f0.f1) ((rd_T42 x7 x9).f1.f0.f0) ((rd_T42 x7 x9).f1.f0.f1) ((rd_T42 x7 x9).f1.f1)).bind fun bt430=>(if bt430.2=0 then (mesh_asked.l0 k x7 x8 (wrap64 (x9+1))) else (some bt430.2))) else (none)) else (none)) else (some 0)
def mesh_asked.f (k:Nat) (l0:List (S42)):Option (Int):=mesh_asked.l0 k l0 (l0.length:Int) 0
theorem mesh_asked.calls (k:Nat) (A0:Option Addr) (c0:Nat) (l0:List (S42)) (r:Int) (w:World) (hr0:Kd.C k42 w A0 l0.length l0) (hc0:l0.length≤c0) (h:mesh_asked.f k l0=some r) :
  Calls Tryz.prog 46 #[.slice A0 l0.length c0] w fun e w'=>e = .returned (.int .i64 r)∧Below w.heap.size w w':=by
 have hu42:=Tryz.underlying42;have HR0:=qa hr0;have HC0:=qa hc0;clear hr0 hc0;have HB:=qa (Below.refl w.heap.size w);unfold mesh_asked.f at h;have H:=h;clear h;have H':=qa H;clear H;go_enter Tryz.func46,Tryz.ntmps46;go_wp2
 go_loopg [9] k (fun kq v9 w'=>∃ (x9_1:Int),v9 = .int .i64 x9_1∧Aside0 (mesh_asked.l0 kq l0 (l0.length:Int) x9_1=some r)∧Aside0 (kq≤k)∧Aside0 (Below w.heap.size w w'))
 case atStart=>exact⟨(0),zR,H',⟨Nat.le_refl _⟩,⟨zT HB⟩⟩
 case round =>
  clear H';obtain⟨x9_1,rfl,HA,HK1,HB⟩:=hrel;cases gk with
  | zero=>exact absurd HA.out (by simp[mesh_asked.l0])
  | succ k1 =>
   have H:=HA.out;clear HA;simp only[mesh_asked.l0]at H;by_cases c2:x9_1<(l0.length:Int)
   ·rw[if_pos c2]at H
    have c2b0:=decide_eq_true c2;clear c2;by_cases c3:0≤x9_1
    ·rw[if_pos c3]at H
     have c3b0:=decide_eq_true c3;clear c3;by_cases c4:x9_1<(l0.length:Int)
     ·rw[if_pos c4]at H
      have c4b0:=decide_eq_true c4;clear c4;obtain⟨⟨t430,t431⟩,A5,H⟩:=zo H;try dsimp only at H
      by_cases c6:t431=0
      ·rw[if_pos c6]at H
       have c6b0:=beq_iff_eq.mpr c6;have c6b1:=bne_eq_false_iff_eq.mpr c6;clear c6;have H':=qa H;clear H;have p428:0≤(x9_1:Int):=of_decide_eq_true (by first|(with_reducible assumption)|assumption);have q428:x9_1<(l0.length:Int):=of_decide_eq_true (by first|(with_reducible assumption)|assumption);obtain⟨ad428,e428,hx428_0,hx428_1,hx428_2,hx428_3,hx428_4,hx428_5⟩:=at_T42 HR0.out x9_1 p428 q428;cases e428;replace hx428_0:=(HB.out.cell (World.block_lt_of_cell? w _ hx428_0)).trans hx428_0;replace hx428_1:=(HB.out.cell (World.block_lt_of_cell? w _ hx428_1)).trans hx428_1;replace hx428_2:=(HB.out.cell (World.block_lt_of_cell? w _ hx428_2)).trans hx428_2;replace hx428_3:=(HB.out.cell (World.block_lt_of_cell? w _ hx428_3)).trans hx428_3;replace hx428_4:=(HB.out.cell (World.block_lt_of_cell? w _ hx428_4)).trans hx428_4;replace hx428_5:=(HB.out.cell (World.block_lt_of_cell? w _ hx428_5)).trans hx428_5;replace p428:=eq_true p428;replace q428:=eq_true q428;go_wp2_with (first|((with_reducible refine gate_dst (N:=4) rfl ?_);refine zY 4 #[.bool false,.string ⟨#[]⟩,.string ⟨#[]⟩,.bool false,.string ⟨#[]⟩,.string ⟨#[]⟩] 42 ?_;intro gb429 hg w7 hbox hb;have BK429:=qa (hbox);have GW429:=zG hg HB;have GE429:=zG hg HB;replace HB:=zS HB hb;clear hb hbox hg;obtain⟨hcz8_0,hcz8_1,hcz8_2,hcz8_3,hcz8_4,hcz8_5,hfz8_0,hfz8_1,hfz8_2,hfz8_3,hfz8_4,hfz8_5⟩:=z6 BK429)|((with_reducible refine gate_callee (f:=52) rfl ?_);refine zO Tryz.func52 (by kernel_rfl) (geom_Orient.calls k1 ((rd_T42 l0 x9_1).f0.f0.f0) ((rd_T42 l0 x9_1).f0.f0.f1) ((rd_T42 l0 x9_1).f0.f1) ((rd_T42 l0 x9_1).f1.f0.f0) ((rd_T42 l0 x9_1).f1.f0.f1) ((rd_T42 l0 x9_1).f1.f1) ((rd_T42 l0 x9_1).f0.f0.f0) ((rd_T42 l0 x9_1).f0.f0.f1) ((rd_T42 l0 x9_1).f0.f1) ((rd_T42 l0 x9_1).f1.f0.f0) ((rd_T42 l0 x9_1).f1.f0.f1) ((rd_T42 l0 x9_1).f1.f1) ((rd_T42 l0 x9_1).f0.f0.f0) ((rd_T42 l0 x9_1).f0.f0.f1) ((rd_T42 l0 x9_1).f0.f1) ((rd_T42 l0 x9_1).f1.f0.f0) ((rd_T42 l0 x9_1).f1.f0.f1) ((rd_T42 l0 x9_1).f1.f1) t430 t431 _ A5.out) fun w9 hb=>?_;replace BK429:=qa (blk_below (g:=gb429) (o := .cells #[.bool ((rd_T42 l0 x9_1).f0.f0.f0),.string ((rd_T42 l0 x9_1).f0.f0.f1),.string ((rd_T42 l0 x9_1).f0.f1),.bool ((rd_T42 l0 x9_1).f1.f0.f0),.string ((rd_T42 l0 x9_1).f1.f0.f1),.string ((rd_T42 l0 x9_1).f1.f1)] 42 (0,0)) (by (with_reducible repeat(first|refine blk_drewN ?_ _|refine blk_drew ?_|refine blk_alloc ?_ _));refine zP (cs:=#[.bool ((rd_T42 l0 x9_1).f0.f0.f0),.string ((rd_T42 l0 x9_1).f0.f0.f1),.string ((rd_T42 l0 x9_1).f0.f1),.bool ((rd_T42 l0 x9_1).f1.f0.f0),.string ((rd_T42 l0 x9_1).f1.f0.f1),.string ⟨#[]⟩]) ?_ 5 _;(with_reducible repeat(first|refine blk_drewN ?_ _|refine blk_drew ?_|refine blk_alloc ?_ _));refine zP (cs:=#[.bool ((rd_T42 l0 x9_1).f0.f0.f0),.string ((rd_T42 l0 x9_1).f0.f0.f1),.string ((rd_T42 l0 x9_1).f0.f1),.bool ((rd_T42 l0 x9_1).f1.f0.f0),.string ⟨#[]⟩,.string ⟨#[]⟩]) ?_ 4 _;(with_reducible repeat(first|refine blk_drewN ?_ _|refine blk_drew ?_|refine blk_alloc ?_ _));refine zP (cs:=#[.bool ((rd_T42 l0 x9_1).f0.f0.f0),.string ((rd_T42 l0 x9_1).f0.f0.f1),.string ((rd_T42 l0 x9_1).f0.f1),.bool false,.string ⟨#[]⟩,.string ⟨#[]⟩]) ?_ 3 _;(with_reducible repeat(first|refine blk_drewN ?_ _|refine blk_drew ?_|refine blk_alloc ?_ _));refine zP (cs:=#[.bool ((rd_T42 l0 x9_1).f0.f0.f0),.string ((rd_T42 l0 x9_1).f0.f0.f1),.string ⟨#[]⟩,.bool false,.string ⟨#[]⟩,.string ⟨#[]⟩]) ?_ 2 _;(with_reducible repeat(first|refine blk_drewN ?_ _|refine blk_drew ?_|refine blk_alloc ?_ _));refine zP (cs:=#[.bool ((rd_T42 l0 x9_1).f0.f0.f0),.string ⟨#[]⟩,.string ⟨#[]⟩,.bool false,.string ⟨#[]⟩,.string ⟨#[]⟩]) ?_ 1 _;(with_reducible repeat(first|refine blk_drewN ?_ _|refine blk_drew ?_|refine blk_alloc ?_ _));refine zP (cs:=#[.bool false,.string ⟨#[]⟩,.string ⟨#[]⟩,.bool false,.string ⟨#[]⟩,.string ⟨#[]⟩]) ?_ 0 _;(with_reducible repeat(first|refine blk_drewN ?_ _|refine blk_drew ?_|refine blk_alloc ?_ _));exact BK429.out) hb);replace HB:=zS HB hb;(try clear hb)))
       go_roundg k1
       case measure=>have:=HK1.out;omega
       case rel=>exact⟨(wrap64 (x9_1+1)),zR,H',⟨by have:=HK1.out;omega⟩,⟨zT HB⟩⟩
      ·rw[if_neg c6]at H
       have c6b0:=beq_eq_false_iff_ne.mpr c6;have c6b1:=bne_iff_ne.mpr c6;obtain rfl:=Option.some.inj H;have p428:0≤(x9_1:Int):=of_decide_eq_true (by first|(with_reducible assumption)|assumption);have q428:x9_1<(l0.length:Int):=of_decide_eq_true (by first|(with_reducible assumption)|assumption);obtain⟨ad428,e428,hx428_0,hx428_1,hx428_2,hx428_3,hx428_4,hx428_5⟩:=at_T42 HR0.out x9_1 p428 q428;cases e428;replace hx428_0:=(HB.out.cell (World.block_lt_of_cell? w _ hx428_0)).trans hx428_0;replace hx428_1:=(HB.out.cell (World.block_lt_of_cell? w _ hx428_1)).trans hx428_1;replace hx428_2:=(HB.out.cell (World.block_lt_of_cell? w _ hx428_2)).trans hx428_2;replace hx428_3:=(HB.out.cell (World.block_lt_of_cell? w _ hx428_3)).trans hx428_3;replace hx428_4:=(HB.out.cell (World.block_lt_of_cell? w _ hx428_4)).trans hx428_4;replace hx428_5:=(HB.out.cell (World.block_lt_of_cell? w _ hx428_5)).trans hx428_5;replace p428:=eq_true p428;replace q428:=eq_true q428;go_wp2_with (first|((with_reducible refine gate_dst (N:=4) rfl ?_);refine zY 4 #[.bool false,.string ⟨#[]⟩,.string ⟨#[]⟩,.bool false,.string ⟨#[]⟩,.string ⟨#[]⟩] 42 ?_;intro gb429 hg w10 hbox hb;have BK429:=qa (hbox);have GW429:=zG hg HB;have GE429:=zG hg HB;replace HB:=zS HB hb;clear hb hbox hg;obtain⟨hcz11_0,hcz11_1,hcz11_2,hcz11_3,hcz11_4,hcz11_5,hfz11_0,hfz11_1,hfz11_2,hfz11_3,hfz11_4,hfz11_5⟩:=z6 BK429)|((with_reducible refine gate_callee (f:=52) rfl ?_);refine zO Tryz.func52 (by kernel_rfl) (geom_Orient.calls k1 ((rd_T42 l0 x9_1).f0.f0.f0) ((rd_T42 l0 x9_1).f0.f0.f1) ((rd_T42 l0 x9_1).f0.f1) ((rd_T42 l0 x9_1).f1.f0.f0) ((rd_T42 l0 x9_1).f1.f0.f1) ((rd_T42 l0 x9_1).f1.f1) ((rd_T42 l0 x9_1).f0.f0.f0) ((rd_T42 l0 x9_1).f0.f0.f1) ((rd_T42 l0 x9_1).f0.f1) ((rd_T42 l0 x9_1).f1.f0.f0) ((rd_T42 l0 x9_1).f1.f0.f1) ((rd_T42 l0 x9_1).f1.f1) ((rd_T42 l0 x9_1).f0.f0.f0) ((rd_T42 l0 x9_1).f0.f0.f1) ((rd_T42 l0 x9_1).f0.f1) ((rd_T42 l0 x9_1).f1.f0.f0) ((rd_T42 l0 x9_1).f1.f0.f1) ((rd_T42 l0 x9_1).f1.f1) t430 t431 _ A5.out) fun w12 hb=>?_;replace BK429:=qa (blk_below (g:=gb429) (o := .cells #[.bool ((rd_T42 l0 x9_1).f0.f0.f0),.string ((rd_T42 l0 x9_1).f0.f0.f1),.string ((rd_T42 l0 x9_1).f0.f1),.bool ((rd_T42 l0 x9_1).f1.f0.f0),.string ((rd_T42 l0 x9_1).f1.f0.f1),.string ((rd_T42 l0 x9_1).f1.f1)] 42 (0,0)) (by (with_reducible repeat(first|refine blk_drewN ?_ _|refine blk_drew ?_|refine blk_alloc ?_ _));refine zP (cs:=#[.bool ((rd_T42 l0 x9_1).f0.f0.f0),.string ((rd_T42 l0 x9_1).f0.f0.f1),.string ((rd_T42 l0 x9_1).f0.f1),.bool ((rd_T42 l0 x9_1).f1.f0.f0),.string ((rd_T42 l0 x9_1).f1.f0.f1),.string ⟨#[]⟩]) ?_ 5 _;(with_reducible repeat(first|refine blk_drewN ?_ _|refine blk_drew ?_|refine blk_alloc ?_ _));refine zP (cs:=#[.bool ((rd_T42 l0 x9_1).f0.f0.f0),.string ((rd_T42 l0 x9_1).f0.f0.f1),.string ((rd_T42 l0 x9_1).f0.f1),.bool ((rd_T42 l0 x9_1).f1.f0.f0),.string ⟨#[]⟩,.string ⟨#[]⟩]) ?_ 4 _;(with_reducible repeat(first|refine blk_drewN ?_ _|refine blk_drew ?_|refine blk_alloc ?_ _));refine zP (cs:=#[.bool ((rd_T42 l0 x9_1).f0.f0.f0),.string ((rd_T42 l0 x9_1).f0.f0.f1),.string ((rd_T42 l0 x9_1).f0.f1),.bool false,.string ⟨#[]⟩,.string ⟨#[]⟩]) ?_ 3 _;(with_reducible repeat(first|refine blk_drewN ?_ _|refine blk_drew ?_|refine blk_alloc ?_ _));refine zP (cs:=#[.bool ((rd_T42 l0 x9_1).f0.f0.f0),.string ((rd_T42 l0 x9_1).f0.f0.f1),.string ⟨#[]⟩,.bool false,.string ⟨#[]⟩,.string ⟨#[]⟩]) ?_ 2 _;(with_reducible repeat(first|refine blk_drewN ?_ _|refine blk_drew ?_|refine blk_alloc ?_ _));refine zP (cs:=#[.bool ((rd_T42 l0 x9_1).f0.f0.f0),.string ⟨#[]⟩,.string ⟨#[]⟩,.bool false,.string ⟨#[]⟩,.string ⟨#[]⟩]) ?_ 1 _;(with_reducible repeat(first|refine blk_drewN ?_ _|refine blk_drew ?_|refine blk_alloc ?_ _));refine zP (cs:=#[.bool false,.string ⟨#[]⟩,.string ⟨#[]⟩,.bool false,.string ⟨#[]⟩,.string ⟨#[]⟩]) ?_ 0 _;(with_reducible repeat(first|refine blk_drewN ?_ _|refine blk_drew ?_|refine blk_alloc ?_ _));exact BK429.out) hb);replace HB:=zS HB hb;(try clear hb)))
       go_ret
       exact⟨zH,zT HB⟩
     ·rw[if_neg c4]at H
      exact absurd H (by simp)
    ·rw[if_neg c3]at H
     exact absurd H (by simp)
   ·rw[if_neg c2]at H
    have c2b0:=decide_eq_false c2;clear c2;obtain rfl:=Option.some.inj H;go_wp2
    go_ret
    exact⟨zH,zT HB⟩
end Go.Proofs.YtfcjnhkkfmgmpaaGreatH.R
