import Derived.Test.YtfcjnhkkfmgmpaaGreatZrG32
set_option linter.all false
set_option maxRecDepth 100000
set_option maxHeartbeats 8000000
namespace Go.Proofs.YtfcjnhkkfmgmpaaGreatH.R
open Go.RowKit Go.Proofs.YtfcjnhkkfmgmpaaGreatH.Z Go.Proofs.YtfcjnhkkfmgmpaaGreatW.PrintWords Go.Proofs.YtfcjnhkkfmgmpaaGreatW.PrintLast Go.Proofs.YtfcjnhkkfmgmpaaGreatW.PrintMore
attribute [local go_sem] max2_int min2_int max_two min_two max_three min_three max_four min_four
def gussetref04_Check.f (k:Nat) (a0_0:Bool) (a0_1 a0_2:ByteArray) (a0_3:Bool) (a0_4 a0_5:ByteArray):Option (Int):=(gussetref03_Both.f k a0_0 a0_1 a0_2 a0_3 a0_4 a0_5).bind fun t117=>(some t117)
theorem gussetref04_Check.calls (k:Nat) (a0_0:Bool) (a0_1 a0_2:ByteArray) (a0_3:Bool) (a0_4 a0_5:ByteArray) (r:Int) (w:World) (h:gussetref04_Check.f k a0_0 a0_1 a0_2 a0_3 a0_4 a0_5=some r) :
  Calls Tryz.prog 44 #[.agg #[.bool a0_0,.string a0_1,.string a0_2,.bool a0_3,.string a0_4,.string a0_5]] w fun e w'=>e = .returned (.int .i64 r)∧Below w.heap.size w w':=by
 have hu42:=Tryz.underlying42;have hu40:=Tryz.underlying40;have HB:=qa (Below.refl w.heap.size w);unfold gussetref04_Check.f at h;have H:=h;clear h;obtain⟨t117,A2,H⟩:=zo H;obtain rfl:=Option.some.inj H;go_enter Tryz.func44,Tryz.ntmps44;go_wp2_with (first|((with_reducible refine gate_dst (N:=1) rfl ?_);refine zY 1 #[.bool a0_0,.string a0_1,.string a0_2,.bool a0_3,.string a0_4,.string a0_5] 42 ?_;intro gb116 hg w3 hbox hb;have BK116:=qa (hbox);have GW116:=zG hg HB;have GE116:=zG hg HB;replace HB:=zS HB hb;clear hb hbox hg;obtain⟨hcz4_0,hcz4_1,hcz4_2,hcz4_3,hcz4_4,hcz4_5,hfz4_0,hfz4_1,hfz4_2,hfz4_3,hfz4_4,hfz4_5⟩:=z6 BK116)|((with_reducible refine gate_callee (f:=60) rfl ?_);refine zO Tryz.func60 (by kernel_rfl) (gussetref03_Both.calls k a0_0 a0_1 a0_2 a0_3 a0_4 a0_5 t117 _ A2.out) fun w5 hb=>?_;replace BK116:=zB BK116 hb;replace HB:=zS HB hb;(try clear hb)))
 go_ret
 exact⟨zH,zT HB⟩
mutual
def geom_asked.l0:Nat→List (S42)→Int→Int→Option (Int)
 | 0,_,_,_=>none
 | k+1,x8,x9,x10=>if x10<x9 then (if 0≤x10 then (if x10<(x8.length:Int) then ((some (([(⟨(⟨(rd_T42 x8 x10).f0.f0.f0,(rd_T42 x8 x10).f0.f0.f1⟩:S38),(rd_T42 x8 x10).f0.f1⟩:S40),(⟨(⟨(rd_T42 x8 x10).f1.f0.f0,(rd_T42 x8 x10).f1.f0.f1⟩:S38),(rd_T42 x8 x10).f1.f1⟩:S40)]:List (S40)):List (S40))).bind fun y248=>(geom_asked.l1 k x8 x9 x10 y248 (y248.length:Int) 0 ((rd_T42 x8 x10).f0.f0.f0) ((rd_T42 x8 x10).f0.f0.f1) ((rd_T42 x8 x10).f0.f1) ((rd_T42 x8 x10).f1.f0.f0) ((rd_T42 x8 x10).f1.f0.f1) ((rd_T42 x8 x10).f1.f1))) else (none)) else (none)) else (some 0)
def geom_asked.l1:Nat→List (S42)→Int→Int→List (S40)→Int→Int→Bool→ByteArray→ByteArray→Bool→ByteArray→ByteArray→Option (Int)
 | 0,_,_,_,_,_,_,_,_,_,_,_,_=>none
 | k+1,x8,x9,x10,x18,x19,x20,x248000,x248001,x248002,x248003,x248004,x248005=>if x20<x19 then (if 0≤x20 then (if x20<(x18.length:Int) then (if (((rd_T40 x18 x20).f0.f1).size:Int) > 100 then (geom_asked.j2 k x8 x9 x10 x18 x19 x20 true x248000 x248001 x248002 x248003 x248004 x248005) else (geom_asked.j2 k x8 x9 x10 x18 x19 x20 (decide ((((rd_T40 x18 x20).f1).size:Int) > 100)) x248000 x248001 x248002 x248003 x248004 x248005)) else (none)) else (none)) else ((vec_Check.f k x248000 x248001 x248002 x248003 x248004 x248005).bind fun t253=>(if t253=0 then (geom_asked.l0 k x8 x9 (wrap64 (x10+1))) else (some t253)))
def geom_asked.j2:Nat→List (S42)→Int→Int→List (S40)→Int→Int→Bool→Bool→ByteArray→ByteArray→Bool→ByteArray→ByteArray→Option (Int)
 | 0,_,_,_,_,_,_,_,_,_,_,_,_,_=>none
 | k+1,x8,x9,x10,x18,x19,x20,x34,x248000,x248001,x248002,x248003,x248004,x248005=>if x34=true then (some 5) else (geom_asked.l1 k x8 x9 x10 x18 x19 (wrap64 (x20+1)) x248000 x248001 x248002 x248003 x248004 x248005)
end
def geom_asked.f (k:Nat) (l0:List (S42)):Option (Int):=geom_asked.l0 k l0 (l0.length:Int) 0
theorem geom_asked.calls (k:Nat) (A0:Option Addr) (c0:Nat) (l0:List (S42)) (r:Int) (w:World) (hr0:Kd.C k42 w A0 l0.length l0) (hc0:l0.length≤c0) (h:geom_asked.f k l0=some r) :
  Calls Tryz.prog 56 #[.slice A0 l0.length c0] w fun e w'=>e = .returned (.int .i64 r)∧Below w.heap.size w w':=by
 have hu42:=Tryz.underlying42;have hu40:=Tryz.underlying40;have HR0:=qa hr0;have HC0:=qa hc0;clear hr0 hc0;have HB:=qa (Below.refl w.heap.size w);unfold geom_asked.f at h;have H:=h;clear h;have H':=qa H;clear H;go_enter Tryz.func56,Tryz.ntmps56;go_wp2
 go_loopg [10] k (fun kq v10 w'=>∃ (x10_1:Int),v10 = .int .i64 x10_1∧Aside0 (geom_asked.l0 kq l0 (l0.length:Int) x10_1=some r)∧Aside0 (kq≤k)∧Aside0 (Below w.heap.size w w'))
 case atStart=>exact⟨(0),zR,H',⟨Nat.le_refl _⟩,⟨zT HB⟩⟩
 case round =>
  clear H';obtain⟨x10_1,rfl,HA,HK1,HB⟩:=hrel;cases gk with
  | zero=>exact absurd HA.out (by simp[geom_asked.l0])
  | succ k1 =>
   have H:=HA.out;clear HA;simp only[geom_asked.l0]at H;by_cases c2:x10_1<(l0.length:Int)
   ·rw[if_pos c2]at H
    have c2b0:=decide_eq_true c2;clear c2;by_cases c3:0≤x10_1
    ·rw[if_pos c3]at H
     have c3b0:=decide_eq_true c3;clear c3;by_cases c4:x10_1<(l0.length:Int)
     ·rw[if_pos c4]at H
      have c4b0:=decide_eq_true c4;clear c4;obtain⟨y248,hy248⟩:∃ y_:List (S40),y_=(([(⟨(⟨(rd_T42 l0 x10_1).f0.f0.f0,(rd_T42 l0 x10_1).f0.f0.f1⟩:S38),(rd_T42 l0 x10_1).f0.f1⟩:S40),(⟨(⟨(rd_T42 l0 x10_1).f1.f0.f0,(rd_T42 l0 x10_1).f1.f0.f1⟩:S38),(rd_T42 l0 x10_1).f1.f1⟩:S40)]:List (S40))):=⟨_,rfl⟩
      replace H:(geom_asked.l1 k1 l0 (l0.length:Int) x10_1 y248 (y248.length:Int) 0 ((rd_T42 l0 x10_1).f0.f0.f0) ((rd_T42 l0 x10_1).f0.f0.f1) ((rd_T42 l0 x10_1).f0.f1) ((rd_T42 l0 x10_1).f1.f0.f0) ((rd_T42 l0 x10_1).f1.f0.f1) ((rd_T42 l0 x10_1).f1.f1))=some r:=by first|(rw[hy248];with_reducible exact H)|(have H2_:=(Option.bind_some _ _).symm.trans H;rw[hy248];with_reducible exact H2_)|(have H2_:=(Option.bind_some _ _).symm.trans H;with_reducible exact H2_)|with_reducible exact H|(rw[hy248];exact H)|exact H
      have Ny248:=qa hy248;clear hy248;have H':=qa H;clear H;have p246:0≤(x10_1:Int):=of_decide_eq_true (by first|(with_reducible assumption)|assumption);have q246:x10_1<(l0.length:Int):=of_decide_eq_true (by first|(with_reducible assumption)|assumption);obtain⟨ad246,e246,hx246_0,hx246_1,hx246_2,hx246_3,hx246_4,hx246_5⟩:=at_T42 HR0.out x10_1 p246 q246;cases e246;replace hx246_0:=(HB.out.cell (World.block_lt_of_cell? w _ hx246_0)).trans hx246_0;replace hx246_1:=(HB.out.cell (World.block_lt_of_cell? w _ hx246_1)).trans hx246_1;replace hx246_2:=(HB.out.cell (World.block_lt_of_cell? w _ hx246_2)).trans hx246_2;replace hx246_3:=(HB.out.cell (World.block_lt_of_cell? w _ hx246_3)).trans hx246_3;replace hx246_4:=(HB.out.cell (World.block_lt_of_cell? w _ hx246_4)).trans hx246_4;replace hx246_5:=(HB.out.cell (World.block_lt_of_cell? w _ hx246_5)).trans hx246_5;replace p246:=eq_true p246;replace q246:=eq_true q246;go_wp2_with (first|((with_reducible refine gate_dst (N:=4) rfl ?_);(try(refine gate_guard (by rfl) ?_;dsimp only));refine zY 4 #[.bool false,.string ⟨#[]⟩,.string ⟨#[]⟩,.bool false,.string ⟨#[]⟩,.string ⟨#[]⟩] 42 ?_;intro gb247 hg w5 hbox hb;have BK247:=qa (hbox);have GW247:=zG hg HB;have GE247:=zG hg HB;replace HB:=zS HB hb;clear hb hbox hg;obtain⟨hcz6_0,hcz6_1,hcz6_2,hcz6_3,hcz6_4,hcz6_5,hfz6_0,hfz6_1,hfz6_2,hfz6_3,hfz6_4,hfz6_5⟩:=z6 BK247)|((with_reducible refine gate_dst (N:=18) rfl ?_);(try(refine gate_guard (by rfl) ?_;dsimp only));refine Kd.R_lit k40 _ 40 ?hg (N:=18) ?hd (xs:=([(⟨(⟨(rd_T42 l0 x10_1).f0.f0.f0,(rd_T42 l0 x10_1).f0.f0.f1⟩:S38),(rd_T42 l0 x10_1).f0.f1⟩:S40),(⟨(⟨(rd_T42 l0 x10_1).f1.f0.f0,(rd_T42 l0 x10_1).f1.f0.f1⟩:S38),(rd_T42 l0 x10_1).f1.f1⟩:S40)]:List (S40))) (inner:=[.bool ((rd_T42 l0 x10_1).f0.f0.f0),.string ((rd_T42 l0 x10_1).f0.f0.f1),.string ((rd_T42 l0 x10_1).f0.f1),.bool ((rd_T42 l0 x10_1).f1.f0.f0),.string ((rd_T42 l0 x10_1).f1.f0.f1),.string ((rd_T42 l0 x10_1).f1.f1)]) (ok:=fun _=>True) (okp:=fun _=>True) ?hr ?hp (fun _ hk=>hk) trivial (Below.refl _ _) (Nat.le_refl _) (by simp) ?_;(case hd=>rfl);(case hg=>rfl);(case hr=>first|(go_simp;done)|(go_simp;rfl));(case hp=>exact(Reps.c3 (show Kd.M k40 _ _ _ (⟨(⟨(rd_T42 l0 x10_1).f0.f0.f0,(rd_T42 l0 x10_1).f0.f0.f1⟩:S38),(rd_T42 l0 x10_1).f0.f1⟩:S40) [.bool ((rd_T42 l0 x10_1).f0.f0.f0),.string ((rd_T42 l0 x10_1).f0.f0.f1),.string ((rd_T42 l0 x10_1).f0.f1)] from(k40_mkM _ _ _ (⟨(⟨(rd_T42 l0 x10_1).f0.f0.f0,(rd_T42 l0 x10_1).f0.f0.f1⟩:S38),(rd_T42 l0 x10_1).f0.f1⟩:S40) )) (Reps.c3 (show Kd.M k40 _ _ _ (⟨(⟨(rd_T42 l0 x10_1).f1.f0.f0,(rd_T42 l0 x10_1).f1.f0.f1⟩:S38),(rd_T42 l0 x10_1).f1.f1⟩:S40) [.bool ((rd_T42 l0 x10_1).f1.f0.f0),.string ((rd_T42 l0 x10_1).f1.f0.f1),.string ((rd_T42 l0 x10_1).f1.f1)] from(k40_mkM _ _ _ (⟨(⟨(rd_T42 l0 x10_1).f1.f0.f0,(rd_T42 l0 x10_1).f1.f0.f1⟩:S38),(rd_T42 l0 x10_1).f1.f1⟩:S40) )) (Reps.none _ _))));intro v249 w7 ho8 hb hg_ hnew_;clear hg_ hnew_;(first|rw[← Ny248.out]at ho8|(simp only[Int.reduceToNat]at ho8;rw[← Ny248.out]at ho8));have HO250:=qa (Kd.R_lower ho8 (below_size (zT HB)));replace BK247:=qa (blk_below (g:=gb247) (o := .cells #[.bool ((rd_T42 l0 x10_1).f0.f0.f0),.string ((rd_T42 l0 x10_1).f0.f0.f1),.string ((rd_T42 l0 x10_1).f0.f1),.bool ((rd_T42 l0 x10_1).f1.f0.f0),.string ((rd_T42 l0 x10_1).f1.f0.f1),.string ((rd_T42 l0 x10_1).f1.f1)] 42 (0,0)) (by (with_reducible repeat(first|refine blk_drewN ?_ _|refine blk_drew ?_|refine blk_alloc ?_ _));refine zP (cs:=#[.bool ((rd_T42 l0 x10_1).f0.f0.f0),.string ((rd_T42 l0 x10_1).f0.f0.f1),.string ((rd_T42 l0 x10_1).f0.f1),.bool ((rd_T42 l0 x10_1).f1.f0.f0),.string ((rd_T42 l0 x10_1).f1.f0.f1),.string ⟨#[]⟩]) ?_ 5 _;(with_reducible repeat(first|refine blk_drewN ?_ _|refine blk_drew ?_|refine blk_alloc ?_ _));refine zP (cs:=#[.bool ((rd_T42 l0 x10_1).f0.f0.f0),.string ((rd_T42 l0 x10_1).f0.f0.f1),.string ((rd_T42 l0 x10_1).f0.f1),.bool ((rd_T42 l0 x10_1).f1.f0.f0),.string ⟨#[]⟩,.string ⟨#[]⟩]) ?_ 4 _;(with_reducible repeat(first|refine blk_drewN ?_ _|refine blk_drew ?_|refine blk_alloc ?_ _));refine zP (cs:=#[.bool ((rd_T42 l0 x10_1).f0.f0.f0),.string ((rd_T42 l0 x10_1).f0.f0.f1),.string ((rd_T42 l0 x10_1).f0.f1),.bool false,.string ⟨#[]⟩,.string ⟨#[]⟩]) ?_ 3 _;(with_reducible repeat(first|refine blk_drewN ?_ _|refine blk_drew ?_|refine blk_alloc ?_ _));refine zP (cs:=#[.bool ((rd_T42 l0 x10_1).f0.f0.f0),.string ((rd_T42 l0 x10_1).f0.f0.f1),.string ⟨#[]⟩,.bool false,.string ⟨#[]⟩,.string ⟨#[]⟩]) ?_ 2 _;(with_reducible repeat(first|refine blk_drewN ?_ _|refine blk_drew ?_|refine blk_alloc ?_ _));refine zP (cs:=#[.bool ((rd_T42 l0 x10_1).f0.f0.f0),.string ⟨#[]⟩,.string ⟨#[]⟩,.bool false,.string ⟨#[]⟩,.string ⟨#[]⟩]) ?_ 1 _;(with_reducible repeat(first|refine blk_drewN ?_ _|refine blk_drew ?_|refine blk_alloc ?_ _));refine zP (cs:=#[.bool false,.string ⟨#[]⟩,.string ⟨#[]⟩,.bool false,.string ⟨#[]⟩,.string ⟨#[]⟩]) ?_ 0 _;(with_reducible repeat(first|refine blk_drewN ?_ _|refine blk_drew ?_|refine blk_alloc ?_ _));exact BK247.out) hb);replace HB:=zS HB hb;clear hb ho8;obtain⟨Ao9,co9,eo9⟩:=Kd.R_slice HO250.out;subst eo9))
      go_loopg [20] k1 (fun kq v20 w'=>∃ (x20_2:Int),v20 = .int .i64 x20_2∧Aside0 (geom_asked.l1 kq l0 (l0.length:Int) x10_1 y248 (y248.length:Int) x20_2 ((rd_T42 l0 x10_1).f0.f0.f0) ((rd_T42 l0 x10_1).f0.f0.f1) ((rd_T42 l0 x10_1).f0.f1) ((rd_T42 l0 x10_1).f1.f0.f0) ((rd_T42 l0 x10_1).f1.f0.f1) ((rd_T42 l0 x10_1).f1.f1)=some r)∧Aside0 (kq≤k1)∧Aside0 (Kd.R k40 40 w' w.heap.size (fun _=>True) (.slice Ao9 y248.length co9) y248)∧Aside0 (w'.heap[gb247]?=some (.cells #[.bool ((rd_T42 l0 x10_1).f0.f0.f0),.string ((rd_T42 l0 x10_1).f0.f0.f1),.string ((rd_T42 l0 x10_1).f0.f1),.bool ((rd_T42 l0 x10_1).f1.f0.f0),.string ((rd_T42 l0 x10_1).f1.f0.f1),.string ((rd_T42 l0 x10_1).f1.f1)] 42 (0,0)))∧Aside0 (Below w.heap.size w w'))
      case atStart=>exact⟨(0),zR,H',⟨Nat.le_refl _⟩,⟨by (with_reducible repeat(first|apply Kd.R_alloc|apply Kd.R_drewN|apply Kd.R_drew));exact HO250.out⟩,zK BK247,⟨zT HB⟩⟩
      case round =>
       clear H';try clear c2;try clear c2b0;try clear p2;try clear q2;try clear hx2;try clear c3;try clear c3b0;try clear c4;try clear c4b0;try clear c5;try clear hcz6_0;try clear hcz6_1;try clear hcz6_2;try clear hcz6_3;try clear hcz6_4;try clear hcz6_5;try clear hfz6_0;try clear hfz6_1;try clear hfz6_2;try clear hfz6_3;try clear hfz6_4;try clear hfz6_5;try clear hx246_0;try clear hx246_1;try clear hx246_2;try clear hx246_3;try clear hx246_4;try clear hx246_5;try clear p246;try clear q246
       obtain⟨x20_2,rfl,HA,HK2,HO_18,BK247,HB⟩:=hrel;cases gk with
       | zero=>exact absurd HA.out (by simp[geom_asked.l1])
       | succ k2 =>
        have H:=HA.out;clear HA;simp only[geom_asked.l1]at H;by_cases c10:x20_2<(y248.length:Int)
        ·rw[if_pos c10]at H
         have c10b0:=decide_eq_true c10;clear c10;by_cases c11:0≤x20_2
         ·rw[if_pos c11]at H
          have c11b0:=decide_eq_true c11;clear c11;by_cases c12:x20_2<(y248.length:Int)
          ·rw[if_pos c12]at H
           have c12b0:=decide_eq_true c12;clear c12;have HC13:=qa H;clear H;have p251:0≤(x20_2:Int):=of_decide_eq_true (by first|(with_reducible assumption)|assumption);have q251:x20_2<(y248.length:Int):=of_decide_eq_true (by first|(with_reducible assumption)|assumption);obtain⟨ad251,e251,hx251_0,hx251_1,hx251_2⟩:=at_T40 (Kd.R_reads' HO_18.out).2.2 x20_2 p251 q251;cases e251;replace p251:=eq_true p251;replace q251:=eq_true q251;go_upto_region 7 with (first|((with_reducible refine gate_dst (N:=6) rfl ?_);(try(refine gate_guard (by rfl) ?_;dsimp only));refine zY 6 #[.bool false,.string ⟨#[]⟩,.string ⟨#[]⟩] 40 ?_;intro gb252 hg w14 hbox hb;have BK252:=qa (hbox);have GW252:=zG hg HB;have GE252:=zG hg HB;obtain⟨NB247_252,NB252_247⟩:=zQ hg BK247;replace HO_18:=qa (Kd.R_below (Kd.R_elderB (by (with_reducible repeat(first|apply Kd.R_alloc|apply Kd.R_drewN|apply Kd.R_drew));exact HO_18.out) gb252 (Nat.le_of_eq hg.symm)) hb);replace BK247:=zB BK247 hb;replace HB:=zS HB hb;clear hb hbox hg;have hnb15:=NB252_247.out;have hnc15:=NB247_252.out;obtain⟨hcz16_0,hcz16_1,hcz16_2,hfz16_0,hfz16_1,hfz16_2⟩:=z3 BK252))
           (try simp only[Act.put,List.setIfInBounds_toArray,List.set_cons_zero,List.set_cons_succ])
           go_cut [34] (fun v34 wc=>∃ (kq:Nat) (x34_12:Bool),v34 = .bool x34_12∧Aside0 (geom_asked.j2 kq l0 (l0.length:Int) x10_1 y248 (y248.length:Int) x20_2 x34_12 ((rd_T42 l0 x10_1).f0.f0.f0) ((rd_T42 l0 x10_1).f0.f0.f1) ((rd_T42 l0 x10_1).f0.f1) ((rd_T42 l0 x10_1).f1.f0.f0) ((rd_T42 l0 x10_1).f1.f0.f1) ((rd_T42 l0 x10_1).f1.f1)=some r)∧Aside0 (kq≤k2)∧Aside0 (Kd.R k40 40 wc w.heap.size (fun k_=>k_≠gb252) (.slice (some ad251) y248.length co9) y248)∧Aside0 (wc.heap[gb247]?=some (.cells #[.bool ((rd_T42 l0 x10_1).f0.f0.f0),.string ((rd_T42 l0 x10_1).f0.f0.f1),.string ((rd_T42 l0 x10_1).f0.f1),.bool ((rd_T42 l0 x10_1).f1.f0.f0),.string ((rd_T42 l0 x10_1).f1.f0.f1),.string ((rd_T42 l0 x10_1).f1.f1)] 42 (0,0)))∧Aside0 (wc.heap[gb252]?=some (.cells #[.bool ((rd_T40 y248 x20_2).f0.f0),.string ((rd_T40 y248 x20_2).f0.f1),.string ((rd_T40 y248 x20_2).f1)] 40 (0,0)))∧Aside0 (Below w.heap.size w wc))
           case first =>
            have H:=HC13.out;clear HC13;by_cases c17:(((rd_T40 y248 x20_2).f0.f1).size:Int) > 100
            ·rw[if_pos c17]at H
             have c17b0:=decide_eq_true c17;have c17b1:decide (100<((rd_T40 y248 x20_2).f0.f1).size)=true:=decide_eq_true (by omega);clear c17
             (first|rw[c17b0]|(simp only[i64_w,i32_w];rw[c17b0])|skip)
             have H':=qa H;clear H;have hnb18:=NB252_247.out;have hnc18:=NB247_252.out;obtain⟨hcz19_0,hcz19_1,hcz19_2,hfz19_0,hfz19_1,hfz19_2⟩:=z3 BK252;go_wp2
             go_meet
             case rel=>exact⟨_,(true),zR,H',⟨by have:=HK1.out;have:=HK2.out;first|omega|exact Nat.le_refl _⟩,⟨by (with_reducible repeat(first|apply Kd.R_alloc|apply Kd.R_drewN|apply Kd.R_drew));exact Kd.R_mono (Kd.R_far (p:=⟨gb252,2,none⟩) (Kd.R_far (p:=⟨gb252,1,none⟩) (Kd.R_far (p:=⟨gb252,0,none⟩) (Kd.R_mono HO_18.out (fun k_ hk=>(⟨hk,hk.2⟩:_∧k_≠gb252))) (fun _ hk=>hk.2) (.bool ((rd_T40 y248 x20_2).f0.f0))) (fun _ hk=>hk.2) (.string ((rd_T40 y248 x20_2).f0.f1))) (fun _ hk=>hk.2) (.string ((rd_T40 y248 x20_2).f1))) (fun _ hk=>hk.1.2)⟩,zK BK247,⟨by (with_reducible repeat(first|refine blk_drewN ?_ _|refine blk_drew ?_|refine blk_alloc ?_ _));refine zP (cs:=#[.bool ((rd_T40 y248 x20_2).f0.f0),.string ((rd_T40 y248 x20_2).f0.f1),.string ⟨#[]⟩]) ?_ 2 _;(with_reducible repeat(first|refine blk_drewN ?_ _|refine blk_drew ?_|refine blk_alloc ?_ _));refine zP (cs:=#[.bool ((rd_T40 y248 x20_2).f0.f0),.string ⟨#[]⟩,.string ⟨#[]⟩]) ?_ 1 _;(with_reducible repeat(first|refine blk_drewN ?_ _|refine blk_drew ?_|refine blk_alloc ?_ _));refine zP (cs:=#[.bool false,.string ⟨#[]⟩,.string ⟨#[]⟩]) ?_ 0 _;(with_reducible repeat(first|refine blk_drewN ?_ _|refine blk_drew ?_|refine blk_alloc ?_ _));exact BK252.out⟩,⟨zT HB⟩⟩
            ·rw[if_neg c17]at H
             have c17b0:=decide_eq_false c17;have c17b1:decide (100<((rd_T40 y248 x20_2).f0.f1).size)=false:=decide_eq_false (by omega);clear c17
             (first|rw[c17b0]|(simp only[i64_w,i32_w];rw[c17b0])|skip)
             have H':=qa H;clear H;have hnb20:=NB252_247.out;have hnc20:=NB247_252.out;obtain⟨hcz21_0,hcz21_1,hcz21_2,hfz21_0,hfz21_1,hfz21_2⟩:=z3 BK252;go_wp2
             go_meet
             case rel=>exact⟨_,(decide ((((rd_T40 y248 x20_2).f1).size:Int) > 100)),zR,H',⟨by have:=HK1.out;have:=HK2.out;first|omega|exact Nat.le_refl _⟩,⟨by (with_reducible repeat(first|apply Kd.R_alloc|apply Kd.R_drewN|apply Kd.R_drew));exact Kd.R_mono (Kd.R_far (p:=⟨gb252,2,none⟩) (Kd.R_far (p:=⟨gb252,1,none⟩) (Kd.R_far (p:=⟨gb252,0,none⟩) (Kd.R_mono HO_18.out (fun k_ hk=>(⟨hk,hk.2⟩:_∧k_≠gb252))) (fun _ hk=>hk.2) (.bool ((rd_T40 y248 x20_2).f0.f0))) (fun _ hk=>hk.2) (.string ((rd_T40 y248 x20_2).f0.f1))) (fun _ hk=>hk.2) (.string ((rd_T40 y248 x20_2).f1))) (fun _ hk=>hk.1.2)⟩,zK BK247,⟨by (with_reducible repeat(first|refine blk_drewN ?_ _|refine blk_drew ?_|refine blk_alloc ?_ _));refine zP (cs:=#[.bool ((rd_T40 y248 x20_2).f0.f0),.string ((rd_T40 y248 x20_2).f0.f1),.string ⟨#[]⟩]) ?_ 2 _;(with_reducible repeat(first|refine blk_drewN ?_ _|refine blk_drew ?_|refine blk_alloc ?_ _));refine zP (cs:=#[.bool ((rd_T40 y248 x20_2).f0.f0),.string ⟨#[]⟩,.string ⟨#[]⟩]) ?_ 1 _;(with_reducible repeat(first|refine blk_drewN ?_ _|refine blk_drew ?_|refine blk_alloc ?_ _));refine zP (cs:=#[.bool false,.string ⟨#[]⟩,.string ⟨#[]⟩]) ?_ 0 _;(with_reducible repeat(first|refine blk_drewN ?_ _|refine blk_drew ?_|refine blk_alloc ?_ _));exact BK252.out⟩,⟨zT HB⟩⟩
           case rest =>
            clear HC13;try clear c1;try clear c2;try clear c2b0;try clear p2;try clear q2;try clear hx2;try clear c3;try clear c3b0;try clear c4;try clear c4b0;try clear c5;try clear c10;try clear c10b0;try clear c11;try clear c11b0;try clear c12;try clear c12b0;try clear c15;try clear c17;try clear c17b0;try clear c17b1;try clear c18;try clear c20;try clear hcz16_0;try clear hcz16_1;try clear hcz16_2;try clear hcz19_0;try clear hcz19_1;try clear hcz19_2;try clear hcz21_0;try clear hcz21_1;try clear hcz21_2;try clear hcz6_0;try clear hcz6_1;try clear hcz6_2;try clear hcz6_3;try clear hcz6_4;try clear hcz6_5;try clear hfz16_0;try clear hfz16_1;try clear hfz16_2;try clear hfz19_0;try clear hfz19_1;try clear hfz19_2;try clear hfz21_0;try clear hfz21_1;try clear hfz21_2;try clear hfz6_0;try clear hfz6_1;try clear hfz6_2;try clear hfz6_3;try clear hfz6_4;try clear hfz6_5;try clear hx246_0;try clear hx246_1;try clear hx246_2;try clear hx246_3;try clear hx246_4;try clear hx246_5;try clear hx251_0;try clear hx251_1;try clear hx251_2;try clear p2;try clear p246;try clear p251;try clear q2;try clear q246;try clear q251
            obtain⟨kq,x34_12,rfl,HA,HJ12,HO_18,BK247,BK252,HB⟩:=hcut;cases kq with
            | zero=>exact absurd HA.out (by simp[geom_asked.j2])
            | succ kj12 =>
             have H:=HA.out;clear HA;simp only[geom_asked.j2]at H;by_cases c22:x34_12=true
             ·subst c22
              rw[if_pos rfl]at H
              obtain rfl:=Option.some.inj H;go_wp2
              go_ret
              exact⟨zH,zT HB⟩
             ·replace c22:=Bool.eq_false_iff.mpr c22
              subst c22;rw[if_neg zn]at H
              have H':=qa H;clear H;go_wp2
              go_roundg kj12
              case measure=>have:=HK1.out;have:=HK2.out;have:=HJ12.out;omega
              case rel=>exact⟨(wrap64 (x20_2+1)),zR,H',⟨by have:=HK1.out;have:=HK2.out;have:=HJ12.out;omega⟩,⟨by (with_reducible repeat(first|apply Kd.R_alloc|apply Kd.R_drewN|apply Kd.R_drew));exact Kd.R_mono HO_18.out (fun _ hk=>trivial)⟩,zK BK247,⟨zT HB⟩⟩
          ·rw[if_neg c12]at H
           exact absurd H (by simp)
         ·rw[if_neg c11]at H
          exact absurd H (by simp)
        ·rw[if_neg c10]at H
         have c10b0:=decide_eq_false c10;clear c10;obtain⟨t253,A23,H⟩:=zo H;by_cases c24:t253=0
         ·rw[if_pos c24]at H
          have c24b0:=beq_iff_eq.mpr c24;have c24b1:=bne_eq_false_iff_eq.mpr c24;clear c24;have H':=qa H;clear H;obtain⟨hcz25_0,hcz25_1,hcz25_2,hcz25_3,hcz25_4,hcz25_5,hfz25_0,hfz25_1,hfz25_2,hfz25_3,hfz25_4,hfz25_5⟩:=z6 BK247;go_wp2_with (first|((with_reducible refine gate_callee (f:=66) rfl ?_);refine zO Tryz.func66 (by kernel_rfl) (vec_Check.calls k2 ((rd_T42 l0 x10_1).f0.f0.f0) ((rd_T42 l0 x10_1).f0.f0.f1) ((rd_T42 l0 x10_1).f0.f1) ((rd_T42 l0 x10_1).f1.f0.f0) ((rd_T42 l0 x10_1).f1.f0.f1) ((rd_T42 l0 x10_1).f1.f1) t253 _ A23.out) fun w26 hb=>?_;replace HO_18:=qa (Kd.R_below (by (with_reducible repeat(first|apply Kd.R_alloc|apply Kd.R_drewN|apply Kd.R_drew));exact HO_18.out) hb);replace BK247:=zB BK247 hb;replace HB:=zS HB hb;(try clear hb)))
          go_roundg k2
          case measure=>have:=HK1.out;have:=HK2.out;omega
          case rel=>exact⟨(wrap64 (x10_1+1)),zR,H',⟨by have:=HK1.out;have:=HK2.out;omega⟩,⟨zT HB⟩⟩
         ·rw[if_neg c24]at H
          have c24b0:=beq_eq_false_iff_ne.mpr c24;have c24b1:=bne_iff_ne.mpr c24;obtain rfl:=Option.some.inj H;obtain⟨hcz27_0,hcz27_1,hcz27_2,hcz27_3,hcz27_4,hcz27_5,hfz27_0,hfz27_1,hfz27_2,hfz27_3,hfz27_4,hfz27_5⟩:=z6 BK247;go_wp2_with (first|((with_reducible refine gate_callee (f:=66) rfl ?_);refine zO Tryz.func66 (by kernel_rfl) (vec_Check.calls k2 ((rd_T42 l0 x10_1).f0.f0.f0) ((rd_T42 l0 x10_1).f0.f0.f1) ((rd_T42 l0 x10_1).f0.f1) ((rd_T42 l0 x10_1).f1.f0.f0) ((rd_T42 l0 x10_1).f1.f0.f1) ((rd_T42 l0 x10_1).f1.f1) t253 _ A23.out) fun w28 hb=>?_;replace HO_18:=qa (Kd.R_below (by (with_reducible repeat(first|apply Kd.R_alloc|apply Kd.R_drewN|apply Kd.R_drew));exact HO_18.out) hb);replace BK247:=zB BK247 hb;replace HB:=zS HB hb;(try clear hb)))
          go_ret
          exact⟨zH,zT HB⟩
     ·rw[if_neg c4]at H
      exact absurd H (by simp)
    ·rw[if_neg c3]at H
     exact absurd H (by simp)
   ·rw[if_neg c2]at H
    have c2b0:=decide_eq_false c2;clear c2;obtain rfl:=Option.some.inj H;go_wp2
    go_ret
    exact⟨zH,zT HB⟩
def rat_both.f (k:Nat) (a0_0:Bool) (a0_1 a0_2:ByteArray) (a1_0:Bool) (a1_1 a1_2:ByteArray):Option (Int):=(rat_Check.f k a0_0 a0_1 a0_2).bind fun t264=>(if t264=0 then ((rat_Check.f k a1_0 a1_1 a1_2).bind fun t265=>(some t265)) else (some t264))
theorem rat_both.calls (k:Nat) (a0_0:Bool) (a0_1 a0_2:ByteArray) (a1_0:Bool) (a1_1 a1_2:ByteArray) (r:Int) (w:World) (h:rat_both.f k a0_0 a0_1 a0_2 a1_0 a1_1 a1_2=some r) :
  Calls Tryz.prog 120 #[.agg #[.bool a0_0,.string a0_1,.string a0_2],.agg #[.bool a1_0,.string a1_1,.string a1_2]] w fun e w'=>e = .returned (.int .i64 r)∧Below w.heap.size w w':=by
 have hu40:=Tryz.underlying40;have HB:=qa (Below.refl w.heap.size w);unfold rat_both.f at h;have H:=h;clear h;obtain⟨t264,A3,H⟩:=zo H;by_cases c4:t264=0
 ·rw[if_pos c4]at H
  have c4b0:=beq_iff_eq.mpr c4;have c4b1:=bne_eq_false_iff_eq.mpr c4;clear c4;obtain⟨t265,A5,H⟩:=zo H;obtain rfl:=Option.some.inj H;go_enter Tryz.func120,Tryz.ntmps120;go_wp2_with (first|((with_reducible refine gate_dst (N:=2) rfl ?_);refine zY 2 #[.bool a0_0,.string a0_1,.string a0_2] 40 ?_;intro gb262 hg w6 hbox hb;have BK262:=qa (hbox);have GW262:=zG hg HB;have GE262:=zG hg HB;replace HB:=zS HB hb;clear hb hbox hg)|((with_reducible refine gate_dst (N:=3) rfl ?_);refine zY 3 #[.bool a1_0,.string a1_1,.string a1_2] 40 ?_;intro gb263 hg w7 hbox hb;have BK263:=qa (hbox);have GW263:=zG hg HB;have GE263:=zG hg HB;obtain⟨NB262_263,NB263_262⟩:=zQ hg BK262;replace BK262:=zB BK262 hb;replace HB:=zS HB hb;clear hb hbox hg;have hnb8:=NB262_263.out;have hnc8:=NB263_262.out;obtain⟨hcz9_0,hcz9_1,hcz9_2,hfz9_0,hfz9_1,hfz9_2⟩:=z3 BK262)|((with_reducible refine gate_callee (f:=95) rfl ?_);refine zO Tryz.func95 (by kernel_rfl) (rat_Check.calls k a0_0 a0_1 a0_2 t264 _ A3.out) fun w10 hb=>?_;obtain⟨BK262,BK263⟩:=zB2 BK262 BK263 hb;replace HB:=zS HB hb;(try clear hb);obtain⟨hcz11_0,hcz11_1,hcz11_2,hfz11_0,hfz11_1,hfz11_2⟩:=z3 BK263)|((with_reducible refine gate_callee (f:=95) rfl ?_);refine zO Tryz.func95 (by kernel_rfl) (rat_Check.calls k a1_0 a1_1 a1_2 t265 _ A5.out) fun w12 hb=>?_;obtain⟨BK262,BK263⟩:=zB2 BK262 BK263 hb;replace HB:=zS HB hb;(try clear hb)))
  go_ret
  exact⟨zH,zT HB⟩
 ·rw[if_neg c4]at H
  have c4b0:=beq_eq_false_iff_ne.mpr c4;have c4b1:=bne_iff_ne.mpr c4;obtain rfl:=Option.some.inj H;go_enter Tryz.func120,Tryz.ntmps120;go_wp2_with (first|((with_reducible refine gate_dst (N:=2) rfl ?_);refine zY 2 #[.bool a0_0,.string a0_1,.string a0_2] 40 ?_;intro gb262 hg w13 hbox hb;have BK262:=qa (hbox);have GW262:=zG hg HB;have GE262:=zG hg HB;replace HB:=zS HB hb;clear hb hbox hg)|((with_reducible refine gate_dst (N:=3) rfl ?_);refine zY 3 #[.bool a1_0,.string a1_1,.string a1_2] 40 ?_;intro gb263 hg w14 hbox hb;have BK263:=qa (hbox);have GW263:=zG hg HB;have GE263:=zG hg HB;obtain⟨NB262_263,NB263_262⟩:=zQ hg BK262;replace BK262:=zB BK262 hb;replace HB:=zS HB hb;clear hb hbox hg;have hnb15:=NB262_263.out;have hnc15:=NB263_262.out;obtain⟨hcz16_0,hcz16_1,hcz16_2,hfz16_0,hfz16_1,hfz16_2⟩:=z3 BK262)|((with_reducible refine gate_callee (f:=95) rfl ?_);refine zO Tryz.func95 (by kernel_rfl) (rat_Check.calls k a0_0 a0_1 a0_2 t264 _ A3.out) fun w17 hb=>?_;obtain⟨BK262,BK263⟩:=zB2 BK262 BK263 hb;replace HB:=zS HB hb;(try clear hb)))
  go_ret
  exact⟨zH,zT HB⟩
theorem eqA38 (d:Nat) (w:World) (x0 y0:Bool) (x1 y1:ByteArray) :
  (Op.equalIn (d+2) 38 (.agg #[.bool x0,.string x1]) (.agg #[.bool y0,.string y1])).run Tryz.prog w = .ok (x0==y0&&(x1.toList==y1.toList)) w:=by
 refine eqA_of Tryz.underlying38 (by kernel_rfl) ?_;refine eqf_cons (by rfl) (by go_simp;rfl) (by go_simp;rfl) (by go_simp) ?_;exact eqf_last (by rfl) (by go_simp;rfl) (by go_simp;rfl) (by go_simp)
theorem eqA40 (d:Nat) (w:World) (x0 y0:Bool) (x1 y1 x2 y2:ByteArray) :
  (Op.equalIn (d+3) 40 (.agg #[.bool x0,.string x1,.string x2]) (.agg #[.bool y0,.string y1,.string y2])).run Tryz.prog w = .ok ((x0==y0&&(x1.toList==y1.toList))&&(x2.toList==y2.toList)) w:=by
 refine eqA_of Tryz.underlying40 (by kernel_rfl) ?_;refine eqf_cons (by rfl) (by go_simp) (by go_simp) (eqA38 (d+0) w _ _ _ _) ?_;exact eqf_last (by rfl) (by go_simp;rfl) (by go_simp;rfl) (by go_simp)
theorem eqA42 (d:Nat) (w:World) (x0 y0:Bool) (x1 y1 x2 y2:ByteArray) (x3 y3:Bool) (x4 y4 x5 y5:ByteArray) :
  (Op.equalIn (d+4) 42 (.agg #[.bool x0,.string x1,.string x2,.bool x3,.string x4,.string x5]) (.agg #[.bool y0,.string y1,.string y2,.bool y3,.string y4,.string y5])).run Tryz.prog w = .ok (((x0==y0&&(x1.toList==y1.toList))&&(x2.toList==y2.toList))&&(((x3==y3&&(x4.toList==y4.toList))&&(x5.toList==y5.toList)))) w:=by
 refine eqA_of Tryz.underlying42 (by kernel_rfl) ?_;refine eqf_cons (by rfl) (by go_simp) (by go_simp) (eqA40 (d+0) w _ _ _ _ _ _) ?_;exact eqf_last (by rfl) (by go_simp) (by go_simp) (eqA40 (d+0) w _ _ _ _ _ _)
end Go.Proofs.YtfcjnhkkfmgmpaaGreatH.R
namespace Go.Proofs.YtfcjnhkkfmgmpaaGreatH.R
open Go.RowKit Go.Proofs.YtfcjnhkkfmgmpaaGreatH.Z Go.Proofs.YtfcjnhkkfmgmpaaGreatW.PrintWords Go.Proofs.YtfcjnhkkfmgmpaaGreatW.PrintLast Go.Proofs.YtfcjnhkkfmgmpaaGreatW.PrintMore
attribute [local go_sem] max2_int min2_int max_two min_two max_three min_three max_four min_four
attribute [local go_sem high] eqA42
def gussetref08_SamePoints.l0:Nat→List (S42)→List (S42)→Int→Option (Bool)
 | 0,_,_,_=>none
 | k+1,x0,x1,x5=>if x5<(x0.length:Int) then (if 0≤x5 then (if x5<(x1.length:Int) then (if (((!(((rd_T42 x0 x5).f0.f0.f0)==((rd_T42 x1 x5).f0.f0.f0))||(!((((rd_T42 x0 x5).f0.f0.f1).toList)==(((rd_T42 x1 x5).f0.f0.f1).toList))))||(!((((rd_T42 x0 x5).f0.f1).toList)==(((rd_T42 x1 x5).f0.f1).toList))))||(((!(((rd_T42 x0 x5).f1.f0.f0)==((rd_T42 x1 x5).f1.f0.f0))||(!((((rd_T42 x0 x5).f1.f0.f1).toList)==(((rd_T42 x1 x5).f1.f0.f1).toList))))||(!((((rd_T42 x0 x5).f1.f1).toList)==(((rd_T42 x1 x5).f1.f1).toList))))))=true then (some false) else (gussetref08_SamePoints.l0 k x0 x1 (wrap64 (x5+1)))) else (none)) else (none)) else (some true)
def gussetref08_SamePoints.f (k:Nat) (l0 l1:List (S42)):Option (Bool):=if (l0.length:Int)=(l1.length:Int) then (gussetref08_SamePoints.l0 k l0 l1 0) else (some false)
theorem gussetref08_SamePoints.calls (k:Nat) (A0:Option Addr) (c0:Nat) (l0:List (S42)) (A1:Option Addr) (c1:Nat) (l1:List (S42)) (r:Bool) (w:World) (hr0:Kd.C k42 w A0 l0.length l0) (hc0:l0.length≤c0) (hr1:Kd.C k42 w A1 l1.length l1) (hc1:l1.length≤c1) (h:gussetref08_SamePoints.f k l0 l1=some r) :
  Calls Tryz.prog 35 #[.slice A0 l0.length c0,.slice A1 l1.length c1] w fun e w'=>e = .returned (.bool r)∧Drawn0 w w':=by
 have hu42:=Tryz.underlying42;have HR0:=qa hr0;have HC0:=qa hc0;clear hr0 hc0;have HR1:=qa hr1;have HC1:=qa hc1;clear hr1 hc1;unfold gussetref08_SamePoints.f at h;have H:=h;clear h;by_cases c3:(l0.length:Int)=(l1.length:Int)
 ·rw[if_pos c3]at H
  have c3b0:=beq_iff_eq.mpr c3;have c3b1:=bne_eq_false_iff_eq.mpr c3;have c3b2:(l0.length==l1.length)=true:=by first|simpa using c3|(simp at c3 ⊢;omega)
  clear c3;have H':=qa H;clear H;go_enter Tryz.func35,Tryz.ntmps35;go_wp2
  repeat(go_quiet (fail);try go_wp2)
  go_loopg [5] k (fun kq v5 w'=>∃ (x5_1:Int),v5 = .int .i64 x5_1∧Aside0 (gussetref08_SamePoints.l0 kq l0 l1 x5_1=some r)∧Aside0 (kq≤k)∧Drawn0 w w')
  case atStart=>exact⟨(0),zR,H',⟨Nat.le_refl _⟩,by repeat(first|exact Drawn0.refl _|apply Drawn0.step)⟩
  case round =>
   clear H';try clear c1;try clear p2;try clear c3;try clear c3b0;try clear c3b1;try clear c3b2
   obtain⟨x5_1,rfl,HA,HK1,⟨m1,rfl⟩⟩:=hrel;cases gk with
   | zero=>exact absurd HA.out (by simp[gussetref08_SamePoints.l0])
   | succ k1 =>
    have H:=HA.out;clear HA;simp only[gussetref08_SamePoints.l0]at H;by_cases c4:x5_1<(l0.length:Int)
    ·rw[if_pos c4]at H
     have c4b0:=decide_eq_true c4;clear c4;by_cases c5:0≤x5_1
     ·rw[if_pos c5]at H
      have c5b0:=decide_eq_true c5;clear c5;by_cases c6:x5_1<(l1.length:Int)
      ·rw[if_pos c6]at H
       have c6b0:=decide_eq_true c6;clear c6;by_cases c7:(((!(((rd_T42 l0 x5_1).f0.f0.f0)==((rd_T42 l1 x5_1).f0.f0.f0))||(!((((rd_T42 l0 x5_1).f0.f0.f1).toList)==(((rd_T42 l1 x5_1).f0.f0.f1).toList))))||(!((((rd_T42 l0 x5_1).f0.f1).toList)==(((rd_T42 l1 x5_1).f0.f1).toList))))||(((!(((rd_T42 l0 x5_1).f1.f0.f0)==((rd_T42 l1 x5_1).f1.f0.f0))||(!((((rd_T42 l0 x5_1).f1.f0.f1).toList)==(((rd_T42 l1 x5_1).f1.f0.f1).toList))))||(!((((rd_T42 l0 x5_1).f1.f1).toList)==(((rd_T42 l1 x5_1).f1.f1).toList))))))=true
       ·rw[if_pos c7]at H
        have c7b0:(((!(((rd_T42 l0 x5_1).f0.f0.f0)==((rd_T42 l1 x5_1).f0.f0.f0))||(!((((rd_T42 l0 x5_1).f0.f0.f1).toList)==(((rd_T42 l1 x5_1).f0.f0.f1).toList))))||(!((((rd_T42 l0 x5_1).f0.f1).toList)==(((rd_T42 l1 x5_1).f0.f1).toList))))||(((!(((rd_T42 l0 x5_1).f1.f0.f0)==((rd_T42 l1 x5_1).f1.f0.f0))||(!((((rd_T42 l0 x5_1).f1.f0.f1).toList)==(((rd_T42 l1 x5_1).f1.f0.f1).toList))))||(!((((rd_T42 l0 x5_1).f1.f1).toList)==(((rd_T42 l1 x5_1).f1.f1).toList))))))=true:=c7;clear c7;obtain rfl:=Option.some.inj H;have p442:0≤(x5_1:Int):=of_decide_eq_true (by first|(with_reducible assumption)|assumption);have q442:x5_1<(l0.length:Int):=of_decide_eq_true (by first|(with_reducible assumption)|assumption);obtain⟨ad442,e442,hx442_0,hx442_1,hx442_2,hx442_3,hx442_4,hx442_5⟩:=at_T42 HR0.out x5_1 p442 q442;cases e442;replace p442:=eq_true p442;replace q442:=eq_true q442;have p443:0≤(x5_1:Int):=of_decide_eq_true (by first|(with_reducible assumption)|assumption);have q443:x5_1<(l1.length:Int):=of_decide_eq_true (by first|(with_reducible assumption)|assumption);obtain⟨ad443,e443,hx443_0,hx443_1,hx443_2,hx443_3,hx443_4,hx443_5⟩:=at_T42 HR1.out x5_1 p443 q443;cases e443;replace p443:=eq_true p443;replace q443:=eq_true q443;go_wp2
        repeat(go_quiet (fail);try go_wp2)
        go_ret
        exact⟨by first|rfl|(simp;done)|(simp[*];done),by repeat(first|exact Drawn0.refl _|apply Drawn0.step)⟩
       ·rw[if_neg c7]at H
        have c7b0:(((!(((rd_T42 l0 x5_1).f0.f0.f0)==((rd_T42 l1 x5_1).f0.f0.f0))||(!((((rd_T42 l0 x5_1).f0.f0.f1).toList)==(((rd_T42 l1 x5_1).f0.f0.f1).toList))))||(!((((rd_T42 l0 x5_1).f0.f1).toList)==(((rd_T42 l1 x5_1).f0.f1).toList))))||(((!(((rd_T42 l0 x5_1).f1.f0.f0)==((rd_T42 l1 x5_1).f1.f0.f0))||(!((((rd_T42 l0 x5_1).f1.f0.f1).toList)==(((rd_T42 l1 x5_1).f1.f0.f1).toList))))||(!((((rd_T42 l0 x5_1).f1.f1).toList)==(((rd_T42 l1 x5_1).f1.f1).toList))))))=false:=by simpa using c7
        clear c7;have H':=qa H;clear H;have p442:0≤(x5_1:Int):=of_decide_eq_true (by first|(with_reducible assumption)|assumption);have q442:x5_1<(l0.length:Int):=of_decide_eq_true (by first|(with_reducible assumption)|assumption);obtain⟨ad442,e442,hx442_0,hx442_1,hx442_2,hx442_3,hx442_4,hx442_5⟩:=at_T42 HR0.out x5_1 p442 q442;cases e442;replace p442:=eq_true p442;replace q442:=eq_true q442;have p443:0≤(x5_1:Int):=of_decide_eq_true (by first|(with_reducible assumption)|assumption);have q443:x5_1<(l1.length:Int):=of_decide_eq_true (by first|(with_reducible assumption)|assumption);obtain⟨ad443,e443,hx443_0,hx443_1,hx443_2,hx443_3,hx443_4,hx443_5⟩:=at_T42 HR1.out x5_1 p443 q443;cases e443;replace p443:=eq_true p443;replace q443:=eq_true q443;go_wp2
        repeat(go_quiet (fail);try go_wp2)
        go_roundg k1
        case measure=>have:=HK1.out;omega
        case rel=>exact⟨(wrap64 (x5_1+1)),zR,H',⟨by have:=HK1.out;omega⟩,by repeat(first|exact Drawn0.refl _|apply Drawn0.step)⟩
      ·rw[if_neg c6]at H
       exact absurd H (by simp)
     ·rw[if_neg c5]at H
      exact absurd H (by simp)
    ·rw[if_neg c4]at H
     have c4b0:=decide_eq_false c4;clear c4;obtain rfl:=Option.some.inj H;go_wp2
     repeat(go_quiet (fail);try go_wp2)
     go_ret
     exact⟨by first|rfl|(simp;done)|(simp[*];done),by repeat(first|exact Drawn0.refl _|apply Drawn0.step)⟩
 ·rw[if_neg c3]at H
  have c3b0:=beq_eq_false_iff_ne.mpr c3;have c3b1:=bne_iff_ne.mpr c3;have c3b2:(l0.length==l1.length)=false:=by first|simpa using c3|(simp at c3 ⊢;omega)
  obtain rfl:=Option.some.inj H;go_enter Tryz.func35,Tryz.ntmps35;go_wp2
  repeat(go_quiet (fail);try go_wp2)
  go_ret
  exact⟨by first|rfl|(simp;done)|(simp[*];done),by repeat(first|exact Drawn0.refl _|apply Drawn0.step)⟩
end Go.Proofs.YtfcjnhkkfmgmpaaGreatH.R
