import Derived.Test.YtfcjnhkkfmgmpaaGreatZrG2
import Derived.Test.YtfcjnhkkfmgmpaaGreatZrG19
set_option linter.all false
set_option maxRecDepth 100000
set_option maxHeartbeats 8000000
namespace Go.Proofs.YtfcjnhkkfmgmpaaGreatH.R
open Go.RowKit Go.Proofs.YtfcjnhkkfmgmpaaGreatH.Z Go.Proofs.YtfcjnhkkfmgmpaaGreatW.PrintWords Go.Proofs.YtfcjnhkkfmgmpaaGreatW.PrintLast Go.Proofs.YtfcjnhkkfmgmpaaGreatW.PrintMore
attribute [local go_sem] max2_int min2_int max_two min_two max_three min_three max_four min_four
def errW:Option Int→Value
 | none => .nilIface
 | some c => .iface 0 (.int .i64 c)
theorem errW_none:errW none = .nilIface:=rfl
theorem errW_some (c:Int):errW (some c) = .iface 0 (.int .i64 c):=rfl
structure S38 where
 f0:Bool
 f1:ByteArray
def z38:S38:=⟨false,⟨#[]⟩⟩
def k38:Kd S38:=Kd.iso (Kd.pair Kd.bool Kd.string) (fun x:S38=>(x.f0,x.f1))
theorem k38_open {w:World} {x:S38} {cs:List Value} (h:k38.K w x cs):cs=[.bool x.f0,.string x.f1]:=by
 obtain⟨_,_,rfl,rfl,rfl⟩:=h;exact rfl
theorem k38_mk (w:World) (x:S38) :k38.K w x [.bool x.f0,.string x.f1]:=⟨[.bool x.f0],[.string x.f1],rfl,rfl,rfl⟩
theorem k38_mkM (w:World) (base:Nat) (ok:Nat→Prop) (x:S38) :k38.M w base ok x [.bool x.f0,.string x.f1]:=⟨[.bool x.f0],[.string x.f1],rfl,rfl,rfl⟩
structure S40 where
 f0:S38
 f1:ByteArray
def z40:S40:=⟨z38,⟨#[]⟩⟩
def k40:Kd S40:=Kd.iso (Kd.pair k38 Kd.string) (fun x:S40=>(x.f0,x.f1))
theorem k40_open {w:World} {x:S40} {cs:List Value} (h:k40.K w x cs):cs=[.bool x.f0.f0,.string x.f0.f1,.string x.f1]:=by
 obtain⟨_,_,rfl,s0,rfl⟩:=h;obtain rfl:=k38_open s0;exact rfl
theorem k40_mk (w:World) (x:S40) :k40.K w x [.bool x.f0.f0,.string x.f0.f1,.string x.f1]:=⟨[.bool x.f0.f0,.string x.f0.f1],[.string x.f1],rfl,(k38_mk w x.f0 ),rfl⟩
theorem k40_mkM (w:World) (base:Nat) (ok:Nat→Prop) (x:S40) :k40.M w base ok x [.bool x.f0.f0,.string x.f0.f1,.string x.f1]:=⟨[.bool x.f0.f0,.string x.f0.f1],[.string x.f1],rfl,(k38_mkM w base ok x.f0 ),rfl⟩
def rd_T40 (xs:List S40) (i:Int):S40:=xs.getD i.toNat z40
theorem at_T40 {w:World} {A:Option Addr} {n:Nat} {xs:List S40} (h:Kd.C k40 w A n xs) (i:Int) (h0:0≤i) (h1:i<n):∃ ad ,A=some ad∧w.cell? (ad.add (i.toNat*3))=some (.bool (rd_T40 xs i).f0.f0)∧w.cell? ⟨(ad.add (i.toNat*3)).block,(ad.add (i.toNat*3)).off+1,none⟩=some (.string (rd_T40 xs i).f0.f1)∧w.cell? ⟨(ad.add (i.toNat*3)).block,(ad.add (i.toNat*3)).off+2,none⟩=some (.string (rd_T40 xs i).f1):=by
 obtain⟨ad,c,e,_,hK,hc0⟩:=Kd.C_get h z40 i h0 h1;have hc:∀ j u,c[j]?=some u→w.cell? (ad.add (i.toNat*3+j))=some u:=hc0;obtain rfl:=k40_open hK;exact⟨ad,e,hc 0 _ rfl,by rw[← add_field _ _ 1 (by omega)];exact hc 1 _ rfl,by rw[← add_field _ _ 2 (by omega)];exact hc 2 _ rfl⟩
structure S42 where
 f0:S40
 f1:S40
def z42:S42:=⟨z40,z40⟩
def k42:Kd S42:=Kd.iso (Kd.pair k40 k40) (fun x:S42=>(x.f0,x.f1))
theorem k42_open {w:World} {x:S42} {cs:List Value} (h:k42.K w x cs):cs=[.bool x.f0.f0.f0,.string x.f0.f0.f1,.string x.f0.f1,.bool x.f1.f0.f0,.string x.f1.f0.f1,.string x.f1.f1]:=by
 obtain⟨_,_,rfl,s0,s3⟩:=h;obtain rfl:=k40_open s0;obtain rfl:=k40_open s3;exact rfl
theorem k42_mk (w:World) (x:S42) :k42.K w x [.bool x.f0.f0.f0,.string x.f0.f0.f1,.string x.f0.f1,.bool x.f1.f0.f0,.string x.f1.f0.f1,.string x.f1.f1]:=⟨[.bool x.f0.f0.f0,.string x.f0.f0.f1,.string x.f0.f1],[.bool x.f1.f0.f0,.string x.f1.f0.f1,.string x.f1.f1],rfl,(k40_mk w x.f0 ),(k40_mk w x.f1 )⟩
theorem k42_mkM (w:World) (base:Nat) (ok:Nat→Prop) (x:S42) :k42.M w base ok x [.bool x.f0.f0.f0,.string x.f0.f0.f1,.string x.f0.f1,.bool x.f1.f0.f0,.string x.f1.f0.f1,.string x.f1.f1]:=⟨[.bool x.f0.f0.f0,.string x.f0.f0.f1,.string x.f0.f1],[.bool x.f1.f0.f0,.string x.f1.f0.f1,.string x.f1.f1],rfl,(k40_mkM w base ok x.f0 ),(k40_mkM w base ok x.f1 )⟩
def rd_T42 (xs:List S42) (i:Int):S42:=xs.getD i.toNat z42
theorem at_T42 {w:World} {A:Option Addr} {n:Nat} {xs:List S42} (h:Kd.C k42 w A n xs) (i:Int) (h0:0≤i) (h1:i<n):∃ ad ,A=some ad∧w.cell? (ad.add (i.toNat*6))=some (.bool (rd_T42 xs i).f0.f0.f0)∧w.cell? ⟨(ad.add (i.toNat*6)).block,(ad.add (i.toNat*6)).off+1,none⟩=some (.string (rd_T42 xs i).f0.f0.f1)∧w.cell? ⟨(ad.add (i.toNat*6)).block,(ad.add (i.toNat*6)).off+2,none⟩=some (.string (rd_T42 xs i).f0.f1)∧w.cell? ⟨(ad.add (i.toNat*6)).block,(ad.add (i.toNat*6)).off+3,none⟩=some (.bool (rd_T42 xs i).f1.f0.f0)∧w.cell? ⟨(ad.add (i.toNat*6)).block,(ad.add (i.toNat*6)).off+4,none⟩=some (.string (rd_T42 xs i).f1.f0.f1)∧w.cell? ⟨(ad.add (i.toNat*6)).block,(ad.add (i.toNat*6)).off+5,none⟩=some (.string (rd_T42 xs i).f1.f1):=by
 obtain⟨ad,c,e,_,hK,hc0⟩:=Kd.C_get h z42 i h0 h1;have hc:∀ j u,c[j]?=some u→w.cell? (ad.add (i.toNat*6+j))=some u:=hc0;obtain rfl:=k42_open hK;exact⟨ad,e,hc 0 _ rfl,by rw[← add_field _ _ 1 (by omega)];exact hc 1 _ rfl,by rw[← add_field _ _ 2 (by omega)];exact hc 2 _ rfl,by rw[← add_field _ _ 3 (by omega)];exact hc 3 _ rfl,by rw[← add_field _ _ 4 (by omega)];exact hc 4 _ rfl,by rw[← add_field _ _ 5 (by omega)];exact hc 5 _ rfl⟩
structure S55 where
 f0:Int
 f1:Int
 f2:Bool
def z55:S55:=⟨(0:Int),(0:Int),false⟩
def k55:Kd S55:=Kd.iso (Kd.pair (Kd.int .i64) (Kd.pair (Kd.int .i64) Kd.bool)) (fun x:S55=>(x.f0,x.f1,x.f2))
theorem k55_open {w:World} {x:S55} {cs:List Value} (h:k55.K w x cs):cs=[.int .i64 x.f0,.int .i64 x.f1,.bool x.f2]:=by
 obtain⟨_,_,rfl,rfl,⟨_,_,rfl,rfl,rfl⟩⟩:=h;exact rfl
theorem k55_mk (w:World) (x:S55) :k55.K w x [.int .i64 x.f0,.int .i64 x.f1,.bool x.f2]:=⟨[.int .i64 x.f0],[.int .i64 x.f1,.bool x.f2],rfl,rfl,⟨[.int .i64 x.f1],[.bool x.f2],rfl,rfl,rfl⟩⟩
def rd_T55 (xs:List S55) (i:Int):S55:=xs.getD i.toNat z55
theorem at_T55 {w:World} {A:Option Addr} {n:Nat} {xs:List S55} (h:Kd.C k55 w A n xs) (i:Int) (h0:0≤i) (h1:i<n):∃ ad ,A=some ad∧w.cell? (ad.add (i.toNat*3))=some (.int .i64 (rd_T55 xs i).f0)∧w.cell? ⟨(ad.add (i.toNat*3)).block,(ad.add (i.toNat*3)).off+1,none⟩=some (.int .i64 (rd_T55 xs i).f1)∧w.cell? ⟨(ad.add (i.toNat*3)).block,(ad.add (i.toNat*3)).off+2,none⟩=some (.bool (rd_T55 xs i).f2):=by
 obtain⟨ad,c,e,_,hK,hc0⟩:=Kd.C_get h z55 i h0 h1;have hc:∀ j u,c[j]?=some u→w.cell? (ad.add (i.toNat*3+j))=some u:=hc0;obtain rfl:=k55_open hK;exact⟨ad,e,hc 0 _ rfl,by rw[← add_field _ _ 1 (by omega)];exact hc 1 _ rfl,by rw[← add_field _ _ 2 (by omega)];exact hc 2 _ rfl⟩
open Go.Proofs.YtfcjnhkkfmgmpaaGreat Go.Proofs.YtfcjnhkkfmgmpaaGreat.Num in
def gussetref02_Times.f (a0_0:Bool) (a0_1:ByteArray) (a1_0:Bool) (a1_1:ByteArray):Option (Bool × ByteArray):=if a0_1.size≤4000∧a1_1.size≤4000 then some ((pv (ival a0_0 a0_1*ival a1_0 a1_1)).1,(pv (ival a0_0 a0_1*ival a1_0 a1_1)).2) else none
open Go.Proofs.YtfcjnhkkfmgmpaaGreat Go.Proofs.YtfcjnhkkfmgmpaaGreat.Num in
theorem gussetref02_Times.calls (a0_0:Bool) (a0_1:ByteArray) (a1_0:Bool) (a1_1:ByteArray) (r1:Bool) (r2:ByteArray) (w:World) (h:gussetref02_Times.f a0_0 a0_1 a1_0 a1_1=some (r1,r2)) :
  Calls Tryz.prog 76 #[.agg #[.bool a0_0,.string a0_1],.agg #[.bool a1_0,.string a1_1]] w fun e w'=>e = .returned (.agg #[.bool r1,.string r2])∧Below w.heap.size w w':=by
 unfold gussetref02_Times.f at h;split at h
 ·rename_i hc
  simp only[Option.some.injEq,Prod.mk.injEq]at h;obtain⟨rfl,rfl⟩:=h;exact times_r _ _ _ _ hc.1 hc.2 w
 ·exact absurd h (by simp)
mutual
def gussetref11_SegOf.l0:Nat→List (S55)→Int→Int→Int→Option (Int)
 | 0,_,_,_,_=>none
 | k+1,x0,x1,x2,x7=>if x7<(x0.length:Int) then (if 0≤x7 then (if ((rd_T55 x0 x7).f0)=x1 then (if ((rd_T55 x0 x7).f1)=x2 then (gussetref11_SegOf.j1 k x0 x1 x2 x7 true) else (if ((rd_T55 x0 x7).f0)=x2 then (gussetref11_SegOf.j1 k x0 x1 x2 x7 (((rd_T55 x0 x7).f1)==x1)) else (gussetref11_SegOf.j1 k x0 x1 x2 x7 false))) else (if ((rd_T55 x0 x7).f0)=x2 then (gussetref11_SegOf.j1 k x0 x1 x2 x7 (((rd_T55 x0 x7).f1)==x1)) else (gussetref11_SegOf.j1 k x0 x1 x2 x7 false))) else (none)) else (some (-1))
def gussetref11_SegOf.j1:Nat→List (S55)→Int→Int→Int→Bool→Option (Int)
 | 0,_,_,_,_,_=>none
 | k+1,x0,x1,x2,x7,x47=>if x47=true then (some x7) else (gussetref11_SegOf.l0 k x0 x1 x2 (wrap64 (x7+1)))
end
def gussetref11_SegOf.f (k:Nat) (l0:List (S55)) (a1 a2:Int):Option (Int):=gussetref11_SegOf.l0 k l0 a1 a2 0
theorem gussetref11_SegOf.calls (k:Nat) (A0:Option Addr) (c0:Nat) (l0:List (S55)) (a1 a2 r:Int) (w:World) (hr0:Kd.C k55 w A0 l0.length l0) (hc0:l0.length≤c0) (h:gussetref11_SegOf.f k l0 a1 a2=some r) :
  Calls Tryz.prog 22 #[.slice A0 l0.length c0,.int .i64 a1,.int .i64 a2] w fun e w'=>e = .returned (.int .i64 r)∧Drawn0 w w':=by
 have HR0:=qa hr0;have HC0:=qa hc0;clear hr0 hc0;unfold gussetref11_SegOf.f at h;have H:=h;clear h;have H':=qa H;clear H;go_enter Tryz.func22,Tryz.ntmps22;go_wp2
 go_loopg [7] k (fun kq v7 w'=>∃ (x7_1:Int),v7 = .int .i64 x7_1∧Aside0 (gussetref11_SegOf.l0 kq l0 a1 a2 x7_1=some r)∧Aside0 (kq≤k)∧Drawn0 w w')
 case atStart=>exact⟨(0),zR,H',⟨Nat.le_refl _⟩,by repeat(first|exact Drawn0.refl _|apply Drawn0.step)⟩
 case round =>
  clear H';try clear c2;try clear p2
  obtain⟨x7_1,rfl,HA,HK1,⟨m1,rfl⟩⟩:=hrel;cases gk with
  | zero=>exact absurd HA.out (by simp[gussetref11_SegOf.l0])
  | succ k1 =>
   have H:=HA.out;clear HA;simp only[gussetref11_SegOf.l0]at H;by_cases c4:x7_1<(l0.length:Int)
   ·rw[if_pos c4]at H
    have c4b0:=decide_eq_true c4;clear c4;have HC5:=qa H;clear H;go_upto_region 4 with (fail)
    go_cut [47] (fun v47 wc=>∃ (kq:Nat) (x47_4:Bool),v47 = .bool x47_4∧Aside0 (gussetref11_SegOf.j1 kq l0 a1 a2 x7_1 x47_4=some r)∧Aside0 (kq≤k1)∧Drawn0 w wc)
    case first =>
     have H:=HC5.out;clear HC5;by_cases c6:0≤x7_1
     ·rw[if_pos c6]at H
      have c6b0:=decide_eq_true c6;clear c6
      (first|rw[c6b0]|(simp only[i64_w,i32_w];rw[c6b0])|skip)
      by_cases c7:((rd_T55 l0 x7_1).f0)=a1
      ·rw[if_pos c7]at H
       have c7b0:=beq_iff_eq.mpr c7;have c7b1:=bne_eq_false_iff_eq.mpr c7;clear c7;by_cases c8:((rd_T55 l0 x7_1).f1)=a2
       ·rw[if_pos c8]at H
        have c8b0:=beq_iff_eq.mpr c8;have c8b1:=bne_eq_false_iff_eq.mpr c8;clear c8;have H':=qa H;clear H;have p219:0≤(x7_1:Int):=of_decide_eq_true (by first|(with_reducible assumption)|assumption);have q219:x7_1<(l0.length:Int):=of_decide_eq_true (by first|(with_reducible assumption)|assumption);obtain⟨ad219,e219,hx219_0,hx219_1,hx219_2⟩:=at_T55 HR0.out x7_1 p219 q219;cases e219;replace p219:=eq_true p219;replace q219:=eq_true q219;have p220:0≤(x7_1:Int):=of_decide_eq_true (by first|(with_reducible assumption)|assumption);have q220:x7_1<(l0.length:Int):=of_decide_eq_true (by first|(with_reducible assumption)|assumption);obtain⟨ad220,e220,hx220_0,hx220_1,hx220_2⟩:=at_T55 HR0.out x7_1 p220 q220;obtain rfl:ad219=ad220:=(by injection e220)
        replace p220:=eq_true p220;replace q220:=eq_true q220;go_wp2
        go_meet
        case rel=>exact⟨_,(true),zR,H',⟨by have:=HK1.out;first|omega|exact Nat.le_refl _⟩,by repeat(first|exact Drawn0.refl _|apply Drawn0.step)⟩
       ·rw[if_neg c8]at H
        have c8b0:=beq_eq_false_iff_ne.mpr c8;have c8b1:=bne_iff_ne.mpr c8;by_cases c9:((rd_T55 l0 x7_1).f0)=a2
        ·rw[if_pos c9]at H
         have c9b0:=beq_iff_eq.mpr c9;have c9b1:=bne_eq_false_iff_eq.mpr c9;clear c9;have H':=qa H;clear H;have p219:0≤(x7_1:Int):=of_decide_eq_true (by first|(with_reducible assumption)|assumption);have q219:x7_1<(l0.length:Int):=of_decide_eq_true (by first|(with_reducible assumption)|assumption);obtain⟨ad219,e219,hx219_0,hx219_1,hx219_2⟩:=at_T55 HR0.out x7_1 p219 q219;cases e219;replace p219:=eq_true p219;replace q219:=eq_true q219;have p220:0≤(x7_1:Int):=of_decide_eq_true (by first|(with_reducible assumption)|assumption);have q220:x7_1<(l0.length:Int):=of_decide_eq_true (by first|(with_reducible assumption)|assumption);obtain⟨ad220,e220,hx220_0,hx220_1,hx220_2⟩:=at_T55 HR0.out x7_1 p220 q220;obtain rfl:ad219=ad220:=(by injection e220)
         replace p220:=eq_true p220;replace q220:=eq_true q220;have p221:0≤(x7_1:Int):=of_decide_eq_true (by first|(with_reducible assumption)|assumption);have q221:x7_1<(l0.length:Int):=of_decide_eq_true (by first|(with_reducible assumption)|assumption);obtain⟨ad221,e221,hx221_0,hx221_1,hx221_2⟩:=at_T55 HR0.out x7_1 p221 q221;obtain rfl:ad219=ad221:=(by injection e221)
         replace p221:=eq_true p221;replace q221:=eq_true q221;have p222:0≤(x7_1:Int):=of_decide_eq_true (by first|(with_reducible assumption)|assumption);have q222:x7_1<(l0.length:Int):=of_decide_eq_true (by first|(with_reducible assumption)|assumption);obtain⟨ad222,e222,hx222_0,hx222_1,hx222_2⟩:=at_T55 HR0.out x7_1 p222 q222;obtain rfl:ad219=ad222:=(by injection e222)
         replace p222:=eq_true p222;replace q222:=eq_true q222;go_wp2
         go_meet
         case rel=>exact⟨_,((((rd_T55 l0 x7_1).f1)==a1)),zR,H',⟨by have:=HK1.out;first|omega|exact Nat.le_refl _⟩,by repeat(first|exact Drawn0.refl _|apply Drawn0.step)⟩
        ·rw[if_neg c9]at H
         have c9b0:=beq_eq_false_iff_ne.mpr c9;have c9b1:=bne_iff_ne.mpr c9;have H':=qa H;clear H;have p219:0≤(x7_1:Int):=of_decide_eq_true (by first|(with_reducible assumption)|assumption);have q219:x7_1<(l0.length:Int):=of_decide_eq_true (by first|(with_reducible assumption)|assumption);obtain⟨ad219,e219,hx219_0,hx219_1,hx219_2⟩:=at_T55 HR0.out x7_1 p219 q219;cases e219;replace p219:=eq_true p219;replace q219:=eq_true q219;have p220:0≤(x7_1:Int):=of_decide_eq_true (by first|(with_reducible assumption)|assumption);have q220:x7_1<(l0.length:Int):=of_decide_eq_true (by first|(with_reducible assumption)|assumption);obtain⟨ad220,e220,hx220_0,hx220_1,hx220_2⟩:=at_T55 HR0.out x7_1 p220 q220;obtain rfl:ad219=ad220:=(by injection e220)
         replace p220:=eq_true p220;replace q220:=eq_true q220;have p221:0≤(x7_1:Int):=of_decide_eq_true (by first|(with_reducible assumption)|assumption);have q221:x7_1<(l0.length:Int):=of_decide_eq_true (by first|(with_reducible assumption)|assumption);obtain⟨ad221,e221,hx221_0,hx221_1,hx221_2⟩:=at_T55 HR0.out x7_1 p221 q221;obtain rfl:ad219=ad221:=(by injection e221)
         replace p221:=eq_true p221;replace q221:=eq_true q221;go_wp2
         go_meet
         case rel=>exact⟨_,(false),zR,H',⟨by have:=HK1.out;first|omega|exact Nat.le_refl _⟩,by repeat(first|exact Drawn0.refl _|apply Drawn0.step)⟩
      ·rw[if_neg c7]at H
       have c7b0:=beq_eq_false_iff_ne.mpr c7;have c7b1:=bne_iff_ne.mpr c7;by_cases c10:((rd_T55 l0 x7_1).f0)=a2
       ·rw[if_pos c10]at H
        have c10b0:=beq_iff_eq.mpr c10;have c10b1:=bne_eq_false_iff_eq.mpr c10;clear c10;have H':=qa H;clear H;have p219:0≤(x7_1:Int):=of_decide_eq_true (by first|(with_reducible assumption)|assumption);have q219:x7_1<(l0.length:Int):=of_decide_eq_true (by first|(with_reducible assumption)|assumption);obtain⟨ad219,e219,hx219_0,hx219_1,hx219_2⟩:=at_T55 HR0.out x7_1 p219 q219;cases e219;replace p219:=eq_true p219;replace q219:=eq_true q219;have p223:0≤(x7_1:Int):=of_decide_eq_true (by first|(with_reducible assumption)|assumption);have q223:x7_1<(l0.length:Int):=of_decide_eq_true (by first|(with_reducible assumption)|assumption);obtain⟨ad223,e223,hx223_0,hx223_1,hx223_2⟩:=at_T55 HR0.out x7_1 p223 q223;obtain rfl:ad219=ad223:=(by injection e223)
        replace p223:=eq_true p223;replace q223:=eq_true q223;have p224:0≤(x7_1:Int):=of_decide_eq_true (by first|(with_reducible assumption)|assumption);have q224:x7_1<(l0.length:Int):=of_decide_eq_true (by first|(with_reducible assumption)|assumption);obtain⟨ad224,e224,hx224_0,hx224_1,hx224_2⟩:=at_T55 HR0.out x7_1 p224 q224;obtain rfl:ad219=ad224:=(by injection e224)
        replace p224:=eq_true p224;replace q224:=eq_true q224;go_wp2
        go_meet
        case rel=>exact⟨_,((((rd_T55 l0 x7_1).f1)==a1)),zR,H',⟨by have:=HK1.out;first|omega|exact Nat.le_refl _⟩,by repeat(first|exact Drawn0.refl _|apply Drawn0.step)⟩
       ·rw[if_neg c10]at H
        have c10b0:=beq_eq_false_iff_ne.mpr c10;have c10b1:=bne_iff_ne.mpr c10;have H':=qa H;clear H;have p219:0≤(x7_1:Int):=of_decide_eq_true (by first|(with_reducible assumption)|assumption);have q219:x7_1<(l0.length:Int):=of_decide_eq_true (by first|(with_reducible assumption)|assumption);obtain⟨ad219,e219,hx219_0,hx219_1,hx219_2⟩:=at_T55 HR0.out x7_1 p219 q219;cases e219;replace p219:=eq_true p219;replace q219:=eq_true q219;have p223:0≤(x7_1:Int):=of_decide_eq_true (by first|(with_reducible assumption)|assumption);have q223:x7_1<(l0.length:Int):=of_decide_eq_true (by first|(with_reducible assumption)|assumption);obtain⟨ad223,e223,hx223_0,hx223_1,hx223_2⟩:=at_T55 HR0.out x7_1 p223 q223;obtain rfl:ad219=ad223:=(by injection e223)
        replace p223:=eq_true p223;replace q223:=eq_true q223;go_wp2
        go_meet
        case rel=>exact⟨_,(false),zR,H',⟨by have:=HK1.out;first|omega|exact Nat.le_refl _⟩,by repeat(first|exact Drawn0.refl _|apply Drawn0.step)⟩
     ·rw[if_neg c6]at H
      exact absurd H (by simp)
    case rest =>
     clear HC5;try clear c1;try clear c2;try clear p2;try clear q2;try clear hx2;try clear c4;try clear c4b0;try clear c6;try clear c6b0;try clear c7;try clear c7b0;try clear c7b1;try clear c8;try clear c8b0;try clear c8b1;try clear c9;try clear c9b0;try clear c9b1;try clear c10;try clear c10b0;try clear c10b1;try clear hx219_0;try clear hx219_1;try clear hx219_2;try clear hx220_0;try clear hx220_1;try clear hx220_2;try clear hx221_0;try clear hx221_1;try clear hx221_2;try clear hx222_0;try clear hx222_1;try clear hx222_2;try clear hx223_0;try clear hx223_1;try clear hx223_2;try clear hx224_0;try clear hx224_1;try clear hx224_2;try clear p2;try clear p219;try clear p220;try clear p221;try clear p222;try clear p223;try clear p224;try clear q219;try clear q220;try clear q221;try clear q222;try clear q223;try clear q224
     obtain⟨kq,x47_4,rfl,HA,HJ4,⟨mc4,rfl⟩⟩:=hcut;cases kq with
     | zero=>exact absurd HA.out (by simp[gussetref11_SegOf.j1])
     | succ kj4 =>
      have H:=HA.out;clear HA;simp only[gussetref11_SegOf.j1]at H;by_cases c11:x47_4=true
      ·subst c11
       rw[if_pos rfl]at H
       obtain rfl:=Option.some.inj H;go_wp2
       go_ret
       exact⟨by first|rfl|(simp;done)|(simp[*];done),by repeat(first|exact Drawn0.refl _|apply Drawn0.step)⟩
      ·replace c11:=Bool.eq_false_iff.mpr c11
       subst c11;rw[if_neg zn]at H
       have H':=qa H;clear H;go_wp2
       go_roundg kj4
       case measure=>have:=HK1.out;have:=HJ4.out;omega
       case rel=>exact⟨(wrap64 (x7_1+1)),zR,H',⟨by have:=HK1.out;have:=HJ4.out;omega⟩,by repeat(first|exact Drawn0.refl _|apply Drawn0.step)⟩
   ·rw[if_neg c4]at H
    have c4b0:=decide_eq_false c4;clear c4;obtain rfl:=Option.some.inj H;go_wp2
    go_ret
    exact⟨by first|rfl|(simp;done)|(simp[*];done),by repeat(first|exact Drawn0.refl _|apply Drawn0.step)⟩
open Go.Proofs.YtfcjnhkkfmgmpaaGreat Go.Proofs.YtfcjnhkkfmgmpaaGreat.Num in
def gussetref02_Common.f (a0_0:Bool) (a0_1:ByteArray) (a1_0:Bool) (a1_1:ByteArray):Option (Bool × ByteArray):=if a0_1.size≤4000∧a1_1.size≤4000 then some ((pv ((Nat.gcd (nv a0_1).toNat (nv a1_1).toNat:Nat):Int)).1,(pv ((Nat.gcd (nv a0_1).toNat (nv a1_1).toNat:Nat):Int)).2) else none
open Go.Proofs.YtfcjnhkkfmgmpaaGreat Go.Proofs.YtfcjnhkkfmgmpaaGreat.Num in
theorem gussetref02_Common.calls (a0_0:Bool) (a0_1:ByteArray) (a1_0:Bool) (a1_1:ByteArray) (r1:Bool) (r2:ByteArray) (w:World) (h:gussetref02_Common.f a0_0 a0_1 a1_0 a1_1=some (r1,r2)) :
  Calls Tryz.prog 86 #[.agg #[.bool a0_0,.string a0_1],.agg #[.bool a1_0,.string a1_1]] w fun e w'=>e = .returned (.agg #[.bool r1,.string r2])∧Below w.heap.size w w':=by
 unfold gussetref02_Common.f at h;split at h
 ·rename_i hc
  simp only[Option.some.injEq,Prod.mk.injEq]at h;obtain⟨rfl,rfl⟩:=h;exact common_r _ _ _ _ hc.1 hc.2 w
 ·exact absurd h (by simp)
open Go.Proofs.YtfcjnhkkfmgmpaaGreat Go.Proofs.YtfcjnhkkfmgmpaaGreat.Num in
def whole_Gcd.f (a0_0:Bool) (a0_1:ByteArray) (a1_0:Bool) (a1_1:ByteArray):Option (Bool × ByteArray × Int):=if a0_1.size≤15000∧a1_1.size≤15000 then some ((gcdF (a0_0,a0_1) (a1_0,a1_1)).1.1,(gcdF (a0_0,a0_1) (a1_0,a1_1)).1.2,(gcdF (a0_0,a0_1) (a1_0,a1_1)).2) else none
open Go.Proofs.YtfcjnhkkfmgmpaaGreat Go.Proofs.YtfcjnhkkfmgmpaaGreat.Num in
theorem whole_Gcd.calls (a0_0:Bool) (a0_1:ByteArray) (a1_0:Bool) (a1_1:ByteArray) (r1:Bool) (r2:ByteArray) (r3:Int) (w:World) (h:whole_Gcd.f a0_0 a0_1 a1_0 a1_1=some (r1,r2,r3)) :
  Calls Tryz.prog 109 #[.agg #[.bool a0_0,.string a0_1],.agg #[.bool a1_0,.string a1_1]] w fun e w'=>e = .returned (.tuple #[.agg #[.bool r1,.string r2],.int .i64 r3])∧Below w.heap.size w w':=by
 unfold whole_Gcd.f at h;split at h
 ·rename_i hc
  simp only[Option.some.injEq,Prod.mk.injEq]at h;obtain⟨rfl,rfl,rfl⟩:=h;exact gcd_f2 (a0_0,a0_1) (a1_0,a1_1) hc.1 hc.2 w
 ·exact absurd h (by simp)
open Go.Proofs.YtfcjnhkkfmgmpaaGreat Go.Proofs.YtfcjnhkkfmgmpaaGreat.Num in
def whole_Mul.f (a0_0:Bool) (a0_1:ByteArray) (a1_0:Bool) (a1_1:ByteArray):Option (Bool × ByteArray × Int):=if a0_1.size≤15000∧a1_1.size≤15000 then some ((binF (·*·) (a0_0,a0_1) (a1_0,a1_1)).1.1,(binF (·*·) (a0_0,a0_1) (a1_0,a1_1)).1.2,(binF (·*·) (a0_0,a0_1) (a1_0,a1_1)).2) else none
open Go.Proofs.YtfcjnhkkfmgmpaaGreat Go.Proofs.YtfcjnhkkfmgmpaaGreat.Num in
theorem whole_Mul.calls (a0_0:Bool) (a0_1:ByteArray) (a1_0:Bool) (a1_1:ByteArray) (r1:Bool) (r2:ByteArray) (r3:Int) (w:World) (h:whole_Mul.f a0_0 a0_1 a1_0 a1_1=some (r1,r2,r3)) :
  Calls Tryz.prog 123 #[.agg #[.bool a0_0,.string a0_1],.agg #[.bool a1_0,.string a1_1]] w fun e w'=>e = .returned (.tuple #[.agg #[.bool r1,.string r2],.int .i64 r3])∧Below w.heap.size w w':=by
 unfold whole_Mul.f at h;split at h
 ·rename_i hc
  simp only[Option.some.injEq,Prod.mk.injEq]at h;obtain⟨rfl,rfl,rfl⟩:=h;exact(mul_f (a0_0,a0_1) (a1_0,a1_1) hc.1 hc.2).out w
 ·exact absurd h (by simp)
end Go.Proofs.YtfcjnhkkfmgmpaaGreatH.R
