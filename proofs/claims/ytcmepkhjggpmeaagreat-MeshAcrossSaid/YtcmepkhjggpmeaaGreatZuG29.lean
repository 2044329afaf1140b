import Derived.Test.YtcmepkhjggpmeaaGreatZuG27
set_option linter.all false
set_option maxRecDepth 100000
set_option maxHeartbeats 8000000
namespace Go.Proofs.YtcmepkhjggpmeaaGreat
open Go.RowKit aP
theorem S_ (a b:Int) (w:World) :
  Calls Tryz.prog 32 #[.agg #[.int .i64 a,.int .i64 b]] w fun e w'=>e = .returned (.agg #[.int .i64 b,.int .i64 a])/\Below w.heap.size w w':=by
 go_enter Tryz.func32,Tryz.ntmps32;go_wp2
 refine bodyPost_ret (by simp[results,Tryz.results32,go_sem];try rfl) rfl ?_;exact⟨rfl,((Below.refl _ _).alloc (Nat.le_refl _) _).alloc (by simp) _⟩
theorem Jc (a b:Int) (w:World) :
  Calls Tryz.prog 33 #[.agg #[.int .i64 a,.int .i64 b]] w fun e w'=>e = .returned (.agg #[.int .i64 (min a b),.int .i64 (max a b)])/\Below w.heap.size w w':=by
 go_enter Tryz.func33,Tryz.ntmps33;go_wp2
 refine bodyPost_ret (by simp[results,Tryz.results33,go_sem];try rfl) rfl ?_;exact⟨rfl,((Below.refl _ _).alloc (Nat.le_refl _) _).alloc (by simp) _⟩
structure R3 (w:World) (ad:Addr) (a b c:Int):Prop where
 c0:w.cell? ad=some (.int .i64 a)
 c1:w.cell? ⟨ad.block,ad.off+1,none⟩=some (.int .i64 b)
 c2:w.cell? ⟨ad.block,ad.off+2,none⟩=some (.int .i64 c)
theorem anx (ad:Addr) (cap:Nat) (a b c:Int) (w:World) (h:R3 w ad a b c) :
  Calls Tryz.prog 83 #[.slice (some ad) 3 cap] w fun e w'=>e = .returned (.int .i64 (min a (min b c)))/\w'=w:=by
 have q0:=h.c0;have q1:=h.c1;have q2:=h.c2;clear h;go_enter Tryz.func83,Tryz.ntmps83;go_wp2
 go_loopw [3,4] (fun m i wr=>wr=w/\((m = .int .i64 a/\i = .int .i64 1)\/(m = .int .i64 (min a b)/\i = .int .i64 2)\/(m = .int .i64 (min a (min b c))/\i = .int .i64 3))) (fun _ i _=>(3-intOf i).toNat)
 case atStart=>exact⟨rfl,.inl ⟨rfl,rfl⟩⟩
 case round =>
  obtain⟨rfl,⟨rfl,rfl⟩|⟨rfl,rfl⟩|⟨rfl,rfl⟩⟩:=hrel
  ·go_wp2
   exact⟨⟨by first|trivial|rfl,.inr (.inl ⟨rfl,rfl⟩)⟩,by decide⟩
  ·go_wp2
   exact⟨⟨by first|trivial|rfl,.inr (.inr ⟨rfl,rfl⟩)⟩,by decide⟩
  ·go_wp2
   go_ret
   exact⟨rfl,rfl⟩
theorem anz (ad:Addr) (cap:Nat) (a b c:Int) (w:World) (h:R3 w ad a b c) :
  Calls Tryz.prog 84 #[.slice (some ad) 3 cap] w fun e w'=>e = .returned (.int .i64 (max a (max b c)))/\w'=w:=by
 have q0:=h.c0;have q1:=h.c1;have q2:=h.c2;clear h;go_enter Tryz.func84,Tryz.ntmps84;go_wp2
 go_loopw [3,4] (fun m i wr=>wr=w/\((m = .int .i64 a/\i = .int .i64 1)\/(m = .int .i64 (max a b)/\i = .int .i64 2)\/(m = .int .i64 (max a (max b c))/\i = .int .i64 3))) (fun _ i _=>(3-intOf i).toNat)
 case atStart=>exact⟨rfl,.inl ⟨rfl,rfl⟩⟩
 case round =>
  obtain⟨rfl,⟨rfl,rfl⟩|⟨rfl,rfl⟩|⟨rfl,rfl⟩⟩:=hrel
  ·go_wp2
   exact⟨⟨by first|trivial|rfl,.inr (.inl ⟨rfl,rfl⟩)⟩,by decide⟩
  ·go_wp2
   exact⟨⟨by first|trivial|rfl,.inr (.inr ⟨rfl,rfl⟩)⟩,by decide⟩
  ·go_wp2
   go_ret
   exact⟨rfl,rfl⟩
theorem ahL (n:Nat) (ad:Addr) (cap:Nat) (a b c:Int) (w:World) (h:R3 w ad a b c) :
  Calls Tryz.prog 57 #[.int .i64 n,.slice (some ad) 3 cap] w fun e w'=>e = .returned (.bool (decide (0<=min a (min b c))&&decide (max a (max b c)<n)))/\w'=w:=by
 have HM:=Lib.hid (anx ad cap a b c w h);have HX:=Lib.hid (anz ad cap a b c w h);clear h;obtain⟨mn,hmn⟩:∃ x,min a (min b c)=x:=⟨_,rfl⟩
 obtain⟨mx,hmx⟩:∃ x,max a (max b c)=x:=⟨_,rfl⟩
 rw[hmn]at HM ⊢
 rw[hmx]at HX ⊢
 clear hmn hmx;by_cases g1:0<=mn
 ·have e1:decide (0<=mn)=true:=decide_eq_true g1
  rw[e1];clear g1;go_enter Tryz.func57,Tryz.ntmps57;go_wp2_with fail
  refine HM.out.mono ?_;rintro e w2 ⟨rfl,rfl⟩;go_wp2_with fail
  refine HX.out.mono ?_;rintro e w2 ⟨rfl,rfl⟩;go_wp2
  go_ret
  exact⟨rfl,rfl⟩
 ·have e1:decide (0<=mn)=false:=decide_eq_false g1
  rw[e1];clear g1;go_enter Tryz.func57,Tryz.ntmps57;go_wp2_with fail
  refine HM.out.mono ?_;rintro e w2 ⟨rfl,rfl⟩;go_wp2
  go_ret
  exact⟨rfl,rfl⟩
def px (k:Nat):Nat:=if k=0 then 2 else k-1
theorem Zc (kb:Nat) (A1:Option Addr) (n1 c1:Nat) (zs:List Int) (w:World) (hk1:w.cell? ⟨kb,1,none⟩=some (.slice A1 n1 c1)) (hr:IR w A1 (3*n1) zs) (t k:Nat) (ht:t<n1) (hk:k<=2) (hn:n1<=100000) :
  Calls Tryz.prog 45 #[.pointer (some ⟨kb,0,none⟩),.agg #[.int .i64 t,.int .i64 k]] w fun e w'=>e = .returned (.int .i64 (zs.getD (3*t+px k) 0))/\Below w.heap.size w w':=by
 have hk3:k=0\/k=1\/k=2:=by omega
 clear hk;rcases hk3 with rfl|rfl|rfl
 ·rw[show((0:Nat):Int)=0 from rfl]
  have hb0:Below w.heap.size w (w.alloc (.cells #[.int .i64 t,.int .i64 0] 77)):=(Below.refl _ _).alloc (Nat.le_refl _) _;obtain⟨ad,rfl,hc⟩:=hr.below hb0 rfl aC;have q1:=(hb0.cell (World.block_lt_of_cell? _ _ hk1)).trans hk1;have hlt:kb<w.heap.size:=World.block_lt_of_cell? _ _ hk1;have hne:¬ kb=w.heap.size:=by omega
  have gK:¬ w.heap.size=kb:=by omega
  have mD:(kb<w.heap.size)=True:=eq_true hlt;have y0:=hc (t*3) aC;have y1:=hc (t*3+1) aC;have y2:=hc (t*3+2) aC;rw[uL _ _ _ (by decide)]at y1 y2
  rw[show zs.getD (t*3) 0=zs.getD (3*t) 0 by rw[Nat.mul_comm]]at y0
  rw[show zs.getD (t*3+1) 0=zs.getD (3*t+1) 0 by rw[Nat.mul_comm]]at y1
  rw[show zs.getD (t*3+2) 0=zs.getD (3*t+2) 0 by rw[Nat.mul_comm]]at y2
  have h1:((t:Int)<(n1:Int))=True:=eq_true aC;have h2:(t<n1)=True:=eq_true ht;have h3:((0:Int)<=(t:Int))=True:=eq_true aC;clear hr hc hlt;have HB:=Lib.hid hb0;clear hb0;have v2:IntKind.i64.wrap 2=2:=by decide
  have v3:IntKind.i64.wrap 3=3:=by decide
  have v4:IntKind.i64.wrap 4=4:=by decide
  have u2:(2:Int).tmod 3=2:=by decide
  have u3:(3:Int).tmod 3=0:=by decide
  have u4:(4:Int).tmod 3=1:=by decide
  clear ht hn;go_enter Tryz.func45,Tryz.ntmps45;go_wp2
  go_quiet (fail)
  go_wp2
  go_ret
  exact⟨rfl,by first|exact HB.out|exact gI HB.out _⟩
 ·rw[show((1:Nat):Int)=1 from rfl]
  have hb0:Below w.heap.size w (w.alloc (.cells #[.int .i64 t,.int .i64 1] 77)):=(Below.refl _ _).alloc (Nat.le_refl _) _;obtain⟨ad,rfl,hc⟩:=hr.below hb0 rfl aC;have q1:=(hb0.cell (World.block_lt_of_cell? _ _ hk1)).trans hk1;have hlt:kb<w.heap.size:=World.block_lt_of_cell? _ _ hk1;have hne:¬ kb=w.heap.size:=by omega
  have gK:¬ w.heap.size=kb:=by omega
  have mD:(kb<w.heap.size)=True:=eq_true hlt;have y0:=hc (t*3) aC;have y1:=hc (t*3+1) aC;have y2:=hc (t*3+2) aC;rw[uL _ _ _ (by decide)]at y1 y2
  rw[show zs.getD (t*3) 0=zs.getD (3*t) 0 by rw[Nat.mul_comm]]at y0
  rw[show zs.getD (t*3+1) 0=zs.getD (3*t+1) 0 by rw[Nat.mul_comm]]at y1
  rw[show zs.getD (t*3+2) 0=zs.getD (3*t+2) 0 by rw[Nat.mul_comm]]at y2
  have h1:((t:Int)<(n1:Int))=True:=eq_true aC;have h2:(t<n1)=True:=eq_true ht;have h3:((0:Int)<=(t:Int))=True:=eq_true aC;clear hr hc hlt;have HB:=Lib.hid hb0;clear hb0;have v2:IntKind.i64.wrap 2=2:=by decide
  have v3:IntKind.i64.wrap 3=3:=by decide
  have v4:IntKind.i64.wrap 4=4:=by decide
  have u2:(2:Int).tmod 3=2:=by decide
  have u3:(3:Int).tmod 3=0:=by decide
  have u4:(4:Int).tmod 3=1:=by decide
  clear ht hn;go_enter Tryz.func45,Tryz.ntmps45;go_wp2
  go_quiet (fail)
  go_wp2
  go_ret
  exact⟨rfl,by first|exact HB.out|exact gI HB.out _⟩
 ·rw[show((2:Nat):Int)=2 from rfl]
  have hb0:Below w.heap.size w (w.alloc (.cells #[.int .i64 t,.int .i64 2] 77)):=(Below.refl _ _).alloc (Nat.le_refl _) _;obtain⟨ad,rfl,hc⟩:=hr.below hb0 rfl aC;have q1:=(hb0.cell (World.block_lt_of_cell? _ _ hk1)).trans hk1;have hlt:kb<w.heap.size:=World.block_lt_of_cell? _ _ hk1;have hne:¬ kb=w.heap.size:=by omega
  have gK:¬ w.heap.size=kb:=by omega
  have mD:(kb<w.heap.size)=True:=eq_true hlt;have y0:=hc (t*3) aC;have y1:=hc (t*3+1) aC;have y2:=hc (t*3+2) aC;rw[uL _ _ _ (by decide)]at y1 y2
  rw[show zs.getD (t*3) 0=zs.getD (3*t) 0 by rw[Nat.mul_comm]]at y0
  rw[show zs.getD (t*3+1) 0=zs.getD (3*t+1) 0 by rw[Nat.mul_comm]]at y1
  rw[show zs.getD (t*3+2) 0=zs.getD (3*t+2) 0 by rw[Nat.mul_comm]]at y2
  have h1:((t:Int)<(n1:Int))=True:=eq_true aC;have h2:(t<n1)=True:=eq_true ht;have h3:((0:Int)<=(t:Int))=True:=eq_true aC;clear hr hc hlt;have HB:=Lib.hid hb0;clear hb0;have v2:IntKind.i64.wrap 2=2:=by decide
  have v3:IntKind.i64.wrap 3=3:=by decide
  have v4:IntKind.i64.wrap 4=4:=by decide
  have u2:(2:Int).tmod 3=2:=by decide
  have u3:(3:Int).tmod 3=0:=by decide
  have u4:(4:Int).tmod 3=1:=by decide
  clear ht hn;go_enter Tryz.func45,Tryz.ntmps45;go_wp2
  go_quiet (fail)
  go_wp2
  go_ret
  exact⟨rfl,by first|exact HB.out|exact gI HB.out _⟩
theorem Zd (kb:Nat) (A1:Option Addr) (n1 c1:Nat) (zs:List Int) (w:World) (hk1:w.cell? ⟨kb,1,none⟩=some (.slice A1 n1 c1)) (hr:IR w A1 (3*n1) zs) (t k:Nat) (ht:t<n1) (hk:k<=2) (hn:n1<=100000) :
  Calls Tryz.prog 31 #[.pointer (some ⟨kb,0,none⟩),.int .i64 t,.int .i64 k] w fun e w'=>e = .returned (.tuple #[.agg #[.int .i64 (zs.getD (3*t+k) 0),.int .i64 (zs.getD (3*t+nx k) 0)],.int .i64 0])/\Below w.heap.size w w':=by
 have hk3:k=0\/k=1\/k=2:=by omega
 clear hk;rcases hk3 with rfl|rfl|rfl
 ·rw[show((0:Nat):Int)=0 from rfl]
  have hb0:Below w.heap.size w (w.alloc (.cells #[.int .i64 0,.int .i64 0] 73)):=(Below.refl _ _).alloc (Nat.le_refl _) _;have q1:=(hb0.cell (World.block_lt_of_cell? _ _ hk1)).trans hk1;have hlt:kb<w.heap.size:=World.block_lt_of_cell? _ _ hk1;have hne:¬ kb=w.heap.size:=by omega
  have gK:¬ w.heap.size=kb:=by omega
  have mD:(kb<w.heap.size)=True:=eq_true hlt;obtain⟨ad,rfl,hc⟩:=hr.below hb0 rfl aC;have y0:=hc (t*3) aC;have y1:=hc (t*3+1) aC;have y2:=hc (t*3+2) aC;rw[uL _ _ _ (by decide)]at y1 y2
  rw[show zs.getD (t*3) 0=zs.getD (3*t) 0 by rw[Nat.mul_comm]]at y0
  rw[show zs.getD (t*3+1) 0=zs.getD (3*t+1) 0 by rw[Nat.mul_comm]]at y1
  rw[show zs.getD (t*3+2) 0=zs.getD (3*t+2) 0 by rw[Nat.mul_comm]]at y2
  have h1:((t:Int)<(n1:Int))=True:=eq_true aC;have h2:(t<n1)=True:=eq_true ht;have h3:((0:Int)<=(t:Int))=True:=eq_true aC;have e1:decide ((t:Int)<0)=false:=decide_eq_false aC;have e3:decide (n1<=t)=false:=decide_eq_false aC;have e2:decide ((n1:Int)<=(t:Int))=false:=decide_eq_false aC;have v1:IntKind.i64.wrap 1=1:=by decide
  have v2:IntKind.i64.wrap 2=2:=by decide
  have v3:IntKind.i64.wrap 3=3:=by decide
  have u1:(1:Int).tmod 3=1:=by decide
  have u2:(2:Int).tmod 3=2:=by decide
  have u3:(3:Int).tmod 3=0:=by decide
  clear hr hc hlt ht hn;have HB:=Lib.hid hb0;clear hb0;go_enter Tryz.func31,Tryz.ntmps31;go_wp2
  have c0:(w.alloc (.cells #[.int .i64 0,.int .i64 0] 73)).cell? ⟨w.heap.size,0,none⟩=some (.int .i64 0):=by simp[go_sem]
  have c1:(w.alloc (.cells #[.int .i64 0,.int .i64 0] 73)).cell? ⟨w.heap.size,1,none⟩=some (.int .i64 0):=by simp[go_sem]
  have f0:(w.alloc (.cells #[.int .i64 0,.int .i64 0] 73)).frozen? ⟨w.heap.size,0,none⟩=false:=by simp[go_sem]
  have f1:(w.alloc (.cells #[.int .i64 0,.int .i64 0] 73)).frozen? ⟨w.heap.size,1,none⟩=false:=by simp[go_sem]
  clear hk1 hne gK mD;generalize (w.alloc (.cells #[.int .i64 0,.int .i64 0] 73))=W1 at q1 y0 y1 y2 c0 c1 f0 f1 HB ⊢;generalize CO:w.heap.size=g at c0 c1 f0 f1 HB ⊢;have HG:=Lib.hid CO;clear CO;go_still_tail 23,(by kernel_rfl)
  change wpList _ _ _ _ _ W1.drew;clear q1 y0 y1 y2;have z0:∀ v,(W1.setCell ⟨g,0,none⟩ v).cell? ⟨g,0,none⟩=some v:=fun v=>World.cell?_setCell_same _ _ _ c0;have z1:∀ u v,((W1.setCell ⟨g,0,none⟩ u).setCell ⟨g,1,none⟩ v).cell? ⟨g,1,none⟩=some v:=fun u v=>World.cell?_setCell_same _ _ _ ((World.cell?_setCell_other _ _ _ _ (by simp)).trans c1);go_wp2
  refine bodyPost_ret (by simp[results,Tryz.results31,go_sem,z0,z1];try rfl) rfl ?_;exact⟨rfl,by rw[HG.out];exact((HB.out.setCell (Nat.le_refl _) _).setCell (Nat.le_refl _) _).drew⟩
 ·rw[show((1:Nat):Int)=1 from rfl]
  have hb0:Below w.heap.size w (w.alloc (.cells #[.int .i64 0,.int .i64 0] 73)):=(Below.refl _ _).alloc (Nat.le_refl _) _;have q1:=(hb0.cell (World.block_lt_of_cell? _ _ hk1)).trans hk1;have hlt:kb<w.heap.size:=World.block_lt_of_cell? _ _ hk1;have hne:¬ kb=w.heap.size:=by omega
  have gK:¬ w.heap.size=kb:=by omega
  have mD:(kb<w.heap.size)=True:=eq_true hlt;obtain⟨ad,rfl,hc⟩:=hr.below hb0 rfl aC;have y0:=hc (t*3) aC;have y1:=hc (t*3+1) aC;have y2:=hc (t*3+2) aC;rw[uL _ _ _ (by decide)]at y1 y2
  rw[show zs.getD (t*3) 0=zs.getD (3*t) 0 by rw[Nat.mul_comm]]at y0
  rw[show zs.getD (t*3+1) 0=zs.getD (3*t+1) 0 by rw[Nat.mul_comm]]at y1
  rw[show zs.getD (t*3+2) 0=zs.getD (3*t+2) 0 by rw[Nat.mul_comm]]at y2
  have h1:((t:Int)<(n1:Int))=True:=eq_true aC;have h2:(t<n1)=True:=eq_true ht;have h3:((0:Int)<=(t:Int))=True:=eq_true aC;have e1:decide ((t:Int)<0)=false:=decide_eq_false aC;have e3:decide (n1<=t)=false:=decide_eq_false aC;have e2:decide ((n1:Int)<=(t:Int))=false:=decide_eq_false aC;have v1:IntKind.i64.wrap 1=1:=by decide
  have v2:IntKind.i64.wrap 2=2:=by decide
  have v3:IntKind.i64.wrap 3=3:=by decide
  have u1:(1:Int).tmod 3=1:=by decide
  have u2:(2:Int).tmod 3=2:=by decide
  have u3:(3:Int).tmod 3=0:=by decide
  clear hr hc hlt ht hn;have HB:=Lib.hid hb0;clear hb0;go_enter Tryz.func31,Tryz.ntmps31;go_wp2
  have c0:(w.alloc (.cells #[.int .i64 0,.int .i64 0] 73)).cell? ⟨w.heap.size,0,none⟩=some (.int .i64 0):=by simp[go_sem]
  have c1:(w.alloc (.cells #[.int .i64 0,.int .i64 0] 73)).cell? ⟨w.heap.size,1,none⟩=some (.int .i64 0):=by simp[go_sem]
  have f0:(w.alloc (.cells #[.int .i64 0,.int .i64 0] 73)).frozen? ⟨w.heap.size,0,none⟩=false:=by simp[go_sem]
  have f1:(w.alloc (.cells #[.int .i64 0,.int .i64 0] 73)).frozen? ⟨w.heap.size,1,none⟩=false:=by simp[go_sem]
  clear hk1 hne gK mD;generalize (w.alloc (.cells #[.int .i64 0,.int .i64 0] 73))=W1 at q1 y0 y1 y2 c0 c1 f0 f1 HB ⊢;generalize CO:w.heap.size=g at c0 c1 f0 f1 HB ⊢;have HG:=Lib.hid CO;clear CO;go_still_tail 23,(by kernel_rfl)
  change wpList _ _ _ _ _ W1.drew;clear q1 y0 y1 y2;have z0:∀ v,(W1.setCell ⟨g,0,none⟩ v).cell? ⟨g,0,none⟩=some v:=fun v=>World.cell?_setCell_same _ _ _ c0;have z1:∀ u v,((W1.setCell ⟨g,0,none⟩ u).setCell ⟨g,1,none⟩ v).cell? ⟨g,1,none⟩=some v:=fun u v=>World.cell?_setCell_same _ _ _ ((World.cell?_setCell_other _ _ _ _ (by simp)).trans c1);go_wp2
  refine bodyPost_ret (by simp[results,Tryz.results31,go_sem,z0,z1];try rfl) rfl ?_;exact⟨rfl,by rw[HG.out];exact((HB.out.setCell (Nat.le_refl _) _).setCell (Nat.le_refl _) _).drew⟩
 ·rw[show((2:Nat):Int)=2 from rfl]
  have hb0:Below w.heap.size w (w.alloc (.cells #[.int .i64 0,.int .i64 0] 73)):=(Below.refl _ _).alloc (Nat.le_refl _) _;have q1:=(hb0.cell (World.block_lt_of_cell? _ _ hk1)).trans hk1;have hlt:kb<w.heap.size:=World.block_lt_of_cell? _ _ hk1;have hne:¬ kb=w.heap.size:=by omega
  have gK:¬ w.heap.size=kb:=by omega
  have mD:(kb<w.heap.size)=True:=eq_true hlt;obtain⟨ad,rfl,hc⟩:=hr.below hb0 rfl aC;have y0:=hc (t*3) aC;have y1:=hc (t*3+1) aC;have y2:=hc (t*3+2) aC;rw[uL _ _ _ (by decide)]at y1 y2
  rw[show zs.getD (t*3) 0=zs.getD (3*t) 0 by rw[Nat.mul_comm]]at y0
  rw[show zs.getD (t*3+1) 0=zs.getD (3*t+1) 0 by rw[Nat.mul_comm]]at y1
  rw[show zs.getD (t*3+2) 0=zs.getD (3*t+2) 0 by rw[Nat.mul_comm]]at y2
  have h1:((t:Int)<(n1:Int))=True:=eq_true aC;have h2:(t<n1)=True:=eq_true ht;have h3:((0:Int)<=(t:Int))=True:=eq_true aC;have e1:decide ((t:Int)<0)=false:=decide_eq_false aC;have e3:decide (n1<=t)=false:=decide_eq_false aC;have e2:decide ((n1:Int)<=(t:Int))=false:=decide_eq_false aC;have v1:IntKind.i64.wrap 1=1:=by decide
  have v2:IntKind.i64.wrap 2=2:=by decide
  have v3:IntKind.i64.wrap 3=3:=by decide
  have u1:(1:Int).tmod 3=1:=by decide
  have u2:(2:Int).tmod 3=2:=by decide
  have u3:(3:Int).tmod 3=0:=by decide
  clear hr hc hlt ht hn;have HB:=Lib.hid hb0;clear hb0;go_enter Tryz.func31,Tryz.ntmps31;go_wp2
  have c0:(w.alloc (.cells #[.int .i64 0,.int .i64 0] 73)).cell? ⟨w.heap.size,0,none⟩=some (.int .i64 0):=by simp[go_sem]
  have c1:(w.alloc (.cells #[.int .i64 0,.int .i64 0] 73)).cell? ⟨w.heap.size,1,none⟩=some (.int .i64 0):=by simp[go_sem]
  have f0:(w.alloc (.cells #[.int .i64 0,.int .i64 0] 73)).frozen? ⟨w.heap.size,0,none⟩=false:=by simp[go_sem]
  have f1:(w.alloc (.cells #[.int .i64 0,.int .i64 0] 73)).frozen? ⟨w.heap.size,1,none⟩=false:=by simp[go_sem]
  clear hk1 hne gK mD;generalize (w.alloc (.cells #[.int .i64 0,.int .i64 0] 73))=W1 at q1 y0 y1 y2 c0 c1 f0 f1 HB ⊢;generalize CO:w.heap.size=g at c0 c1 f0 f1 HB ⊢;have HG:=Lib.hid CO;clear CO;go_still_tail 23,(by kernel_rfl)
  change wpList _ _ _ _ _ W1.drew;clear q1 y0 y1 y2;have z0:∀ v,(W1.setCell ⟨g,0,none⟩ v).cell? ⟨g,0,none⟩=some v:=fun v=>World.cell?_setCell_same _ _ _ c0;have z1:∀ u v,((W1.setCell ⟨g,0,none⟩ u).setCell ⟨g,1,none⟩ v).cell? ⟨g,1,none⟩=some v:=fun u v=>World.cell?_setCell_same _ _ _ ((World.cell?_setCell_other _ _ _ _ (by simp)).trans c1);go_wp2
  refine bodyPost_ret (by simp[results,Tryz.results31,go_sem,z0,z1];try rfl) rfl ?_;exact⟨rfl,by rw[HG.out];exact((HB.out.setCell (Nat.le_refl _) _).setCell (Nat.le_refl _) _).drew⟩
theorem Yk (kb:Nat) (A1:Option Addr) (n1 c1:Nat) (w:World) (hk1:w.cell? ⟨kb,1,none⟩=some (.slice A1 n1 c1)) (t k:Int) (hB:sq n1 t k=false) :
  Calls Tryz.prog 31 #[.pointer (some ⟨kb,0,none⟩),.int .i64 t,.int .i64 k] w fun e w'=>e = .returned (.tuple #[.agg #[.int .i64 0,.int .i64 0],.int .i64 1])/\Below w.heap.size w w':=by
 have hb0:Below w.heap.size w (w.alloc (.cells #[.int .i64 0,.int .i64 0] 73)):=(Below.refl _ _).alloc (Nat.le_refl _) _;have q1:=(hb0.cell (World.block_lt_of_cell? _ _ hk1)).trans hk1;have hlt:kb<w.heap.size:=World.block_lt_of_cell? _ _ hk1;have hne:¬ kb=w.heap.size:=by omega
 have gK:¬ w.heap.size=kb:=by omega
 have mD:(kb<w.heap.size)=True:=eq_true hlt;have HB:=Lib.hid hb0;clear hb0 hlt;unfold sq at hB;by_cases a0:0<=t
 ·have e0:decide (t<0)=false:=decide_eq_false aC
  by_cases a1:t<(n1:Int)
  ·have e1:decide ((n1:Int)<=t)=false:=decide_eq_false aC
   by_cases a2:0<=k
   ·have e2:decide (k<0)=false:=decide_eq_false aC
    by_cases a3:k<=2
    ·have e3:decide ((2:Int)<k)=false:=decide_eq_false aC
     exact absurd hB (by simp[a0,a1,a2,a3])
    ·have e3:decide ((2:Int)<k)=true:=decide_eq_true aC
     clear hB a0 a1 a2 a3;go_enter Tryz.func31,Tryz.ntmps31;go_wp2
     refine bodyPost_ret (by simp[results,Tryz.results31,go_sem];try rfl) rfl ?_;refine⟨rfl,?_⟩;first|exact(Below.refl _ _).alloc (Nat.le_refl _) _|exact HB.out.setCell (Nat.le_refl _) _|(refine(Below.setCell (Below.setCell HB.out ?_ _) ?_ _) <;> exact Nat.le_refl _)
   ·have e2:decide (k<0)=true:=decide_eq_true aC
    clear hB a0 a1 a2;go_enter Tryz.func31,Tryz.ntmps31;go_wp2
    refine bodyPost_ret (by simp[results,Tryz.results31,go_sem];try rfl) rfl ?_;refine⟨rfl,?_⟩;first|exact(Below.refl _ _).alloc (Nat.le_refl _) _|exact HB.out.setCell (Nat.le_refl _) _|(refine(Below.setCell (Below.setCell HB.out ?_ _) ?_ _) <;> exact Nat.le_refl _)
  ·have e1:decide ((n1:Int)<=t)=true:=decide_eq_true aC
   clear hB a0 a1;go_enter Tryz.func31,Tryz.ntmps31;go_wp2
   refine bodyPost_ret (by simp[results,Tryz.results31,go_sem];try rfl) rfl ?_;refine⟨rfl,?_⟩;first|exact(Below.refl _ _).alloc (Nat.le_refl _) _|exact HB.out.setCell (Nat.le_refl _) _|(refine(Below.setCell (Below.setCell HB.out ?_ _) ?_ _) <;> exact Nat.le_refl _)
 ·have e0:decide (t<0)=true:=decide_eq_true aC
  clear hB a0;go_enter Tryz.func31,Tryz.ntmps31;go_wp2
  refine bodyPost_ret (by simp[results,Tryz.results31,go_sem];try rfl) rfl ?_;refine⟨rfl,?_⟩;first|exact(Below.refl _ _).alloc (Nat.le_refl _) _|exact HB.out.setCell (Nat.le_refl _) _|(refine(Below.setCell (Below.setCell HB.out ?_ _) ?_ _) <;> exact Nat.le_refl _)
end Go.Proofs.YtcmepkhjggpmeaaGreat
