import Derived.Test.YtcmepkhjggpmeaaGreatZuG29
import Derived.Maps.OwnSet
import Derived.DeepKeys4
import Derived.BigRegion
set_option linter.all false
set_option maxRecDepth 100000
set_option maxHeartbeats 8000000
namespace Go.Proofs.YtcmepkhjggpmeaaGreat
open Go.RowKit aP Go.Maps
abbrev W6 (a:Int):Prop:=(Lit.int .i64 a).wf=true
theorem ami:laidOutB Tryz.prog=true:=by kernel_rfl
theorem TY:(73:TypeId)<Tryz.prog.types.size:=of_decide_eq_true (by kernel_rfl)
theorem Ze {n m:Nat} (h:n<m):∃ M,m=M+1:=⟨m-1,by omega⟩
theorem MU:Tryz.prog.cellsOf 73=2:=by kernel_rfl
theorem IW:Tryz.prog.cellsOf 3=1:=by kernel_rfl
theorem abj:Tryz.prog.keyType 73=true:=by kernel_rfl
theorem aqO:Tryz.prog.keyTypeAt 2 73=true:=by kernel_rfl
theorem xk:Keyed Tryz.prog 73:=Keyed.of_law (deep_law_laid (P:=Tryz.prog) (k:=73) ami (m:=2) (by decide) TY aqO (by rw[Tryz.underlying73]))
def ek (a b:Int):Lit := .string (keyBytes [.int .i64 a,.int .i64 b])
theorem xE {a b:Int} (ha:W6 a) (hb:W6 b):keyOf Tryz.prog 73 (.agg #[.int .i64 a,.int .i64 b])=some (ek a b):=by
 obtain⟨M,hM⟩:∃ M,Tryz.prog.types.size=M+1:=Ze TY;unfold keyOf;rw[Tryz.underlying73];simp only[abj,Bool.true_and];rw[if_pos (by simp[Value.formed,Tryz.underlying73,MU]),hM];have h3:=Tryz.underlying3;simp[Program.keyLits,Tryz.underlying73,h3,MU,IW,Value.cells,List.range,List.range.loop,ek,keyBytes,ha,hb]
theorem Nz {a b c d:Int} (ha:W6 a) (hb:W6 b) (hc:W6 c) (hd:W6 d) (h:ek a b=ek c d):a=c/\b=d:=by
 have h1:=xE ha hb;have h2:=xE hc hd;rw[h]at h1
 have h3:=xk.inj h1 h2;simp at h3;exact h3
theorem NA {a b:Int} (ha:W6 a) (hb:W6 b):WideAt.IsKeyLit (ek a b):=xk.key (xE ha hb)
def sd (x y:Int):DataW Unit := .agg [.lit (.int .i64 x),.lit (.int .i64 y)]
def yP:Value->Option (DataW Unit × List MemPlace)
 | .agg cs=>(match cs.toList with|[.int .i64 x,.int .i64 y]=>some (sd x y,[])|_=>none)
 | _=>none
theorem Yl (x y:Int):yP (.agg #[.int .i64 x,.int .i64 y])=some (sd x y,[]):=rfl
theorem af3 {v:Value} {x y:Int} {ps:List MemPlace} (h:yP v=some (sd x y,ps)):v = .agg #[.int .i64 x,.int .i64 y]:=by
 unfold yP at h;split at h
 ·split at h
  ·rename_i cs x' y' hcs
   have e:=(Option.some.inj h)
   have e1:sd x' y'=sd x y:=congrArg Prod.fst e;unfold sd at e1;injection e1 with e2
   simp at e2;obtain⟨rfl,rfl⟩:=e2;congr 1
   exact Array.ext' hcs
  ·cases h
 ·cases h
def sT (o:Option Nat):Int:=match o with|none=>0|some j=>((j / 3:Nat):Int)
def sK (o:Option Nat):Int:=match o with|none=>0|some j=>((j%3:Nat):Int)
def SMap (w:World) (B:Nat) (zs:List Int) (m:Nat):Prop:=∃ D n,n<=m/\w.ownsMap Tryz.prog 73 yP B n D/\∀ a b,W6 a->W6 b->Maps.has D (ek a b)=(bK zs a b m).isSome/\D.atKey (ek a b) (sd 0 0)=sd (sT (bK zs a b m)) (sK (bK zs a b m))
theorem SMap.lt {w:World} {B:Nat} {zs:List Int} {m:Nat} (h:SMap w B zs m):B<w.heap.size:=by
 obtain⟨D,n,hn,ho,h⟩:=h;exact ho.lt
theorem SMap.block {w w':World} {B:Nat} {zs:List Int} {m:Nat} (h:SMap w B zs m) (hb:w'.heap[B]?=w.heap[B]?):SMap w' B zs m:=by
 obtain⟨D,n,hn,⟨es,clock,h1,h2,h3,h4⟩,h⟩:=h;exact⟨D,n,hn,⟨es,clock,hb.trans h1,h2,h3,h4⟩,h⟩
theorem SMap.below {w w':World} {B:Nat} {zs:List Int} {m:Nat} (h:SMap w B zs m) {b:Nat} (hb:Below b w w') (hz:B<b):SMap w' B zs m:=h.block (hb.block B hz)
theorem SMap.made (w:World) (zs:List Int):SMap (w.alloc (.map #[] 0)) w.heap.size zs 0 :=
 ⟨_,0,Nat.le_refl _,World.ownsMap_made _ _ _ _,fun a b ha hb=>⟨rfl,rfl⟩⟩
theorem af4 (w:World):(zeroValue 77).run Tryz.prog w = .ok (.agg #[.int .i64 0,.int .i64 0]) w:=by kernel_rfl
theorem SMap.look {w:World} {B:Nat} {zs:List Int} {m:Nat} (h:SMap w B zs m) {a b:Int} (ha:W6 a) (hb:W6 b) :
  (Instr.lookup 79 (.map (some B)) (.agg #[.int .i64 a,.int .i64 b]) true).run Tryz.prog w = .ok (.tuple #[.agg #[.int .i64 (sT (bK zs a b m)),.int .i64 (sK (bK zs a b m))],.bool (bK zs a b m).isSome]) w:=by
 obtain⟨D,n,hn,ho,h⟩:=h;obtain⟨h1,h2⟩:=h a b ha hb;obtain⟨v,ps,hrun,hv⟩:=ho.look_ok xk Tryz.underlying79 (af4 w) (Yl 0 0) (xE ha hb);rw[h2]at hv
 rw[af3 hv]at hrun
 rw[hrun,h1]
theorem SMap.more {w:World} {B:Nat} {zs:List Int} {m:Nat} (h:SMap w B zs m) (hm:m<maxLen) {a b:Int} (ha:W6 a) (hb:W6 b) (U_:hit zs a b m) (hno:bK zs a b m=none) :
  ∃ w',(Instr.mapUpdate 79 (.map (some B)) (.agg #[.int .i64 a,.int .i64 b]) (.agg #[.int .i64 ((m / 3:Nat):Int),.int .i64 ((m%3:Nat):Int)])).run Tryz.prog w = .ok () w'/\SMap w' B zs (m+1)/\w.grownBy w' (some B):=by
 obtain⟨D,n,hn,ho,h⟩:=h;obtain⟨w',hrun,ho',hg⟩:=ho.update xk Tryz.underlying79 aC (xE ha hb) (Yl _ _);refine⟨w',hrun,⟨_,n+1,by omega,ho',fun c d hc hd=>?_⟩,hg⟩;by_cases he:a=c/\b=d
 ·obtain⟨rfl,rfl⟩:=he
  have e:bK zs a b (m+1)=some m:=by
   unfold bK;rw[hno];exact if_pos U_
  rw[e];exact⟨has_put_same ho.isMap (NA ha hb) _,atKey_put_same ho.isMap (NA ha hb) _ _⟩
 ·have hne:ek c d≠ek a b:=fun h=>he (by obtain⟨h1,h2⟩:=Nz hc hd ha hb h;exact⟨h1.symm,h2.symm⟩)
  have e:bK zs c d (m+1)=bK zs c d m:=by
   rw[bK];cases hf:bK zs c d m with
   | some j=>rfl
   | none=>exact if_neg (fun hh=>he ⟨U_.1.symm.trans hh.1,U_.2.symm.trans hh.2⟩)
  rw[e];obtain⟨h1,h2⟩:=h c d hc hd;exact⟨(has_put_other hne _).trans h1,(atKey_put_other hne _ _).trans h2⟩
theorem yA {P:Program} (w:World) {ops:Array Oper} {rest:List Oper} {o:Oper} {a:Act} {Q:Exit->Act->World->Prop}
  (hg:o.guard=none) (m x:Operand) (t:TypeId) (c:Bool) (hop:o.op=Op.lookup t m x c) (mv key val:Value) (hm:a.eval m=mv) (hx:a.eval x=key) (hrun:(Instr.lookup t mv key c).run P w = .ok val w) (hK:wpList P ops Q rest (a.put o.dst val) w):wpList P ops Q (o::rest) a w:=by
 refine wpList_plain hg fun K' hK'=>?_;unfold Oper.wp;simp[execOp,hop,hm,hx,hrun,Result.andThen];exact hK' _ _ hK
theorem JE {P:Program} (w:World) {ops:Array Oper} {rest:List Oper} {o:Oper} {a:Act} {Q:Exit->Act->World->Prop}
  (hg:o.guard=none) (m x v:Operand) (t:TypeId) (hop:o.op=Op.mapUpdate t m x v) (mv key val:Value) (w':World) (hm:a.eval m=mv) (hx:a.eval x=key) (hv:a.eval v=val) (hrun:(Instr.mapUpdate t mv key val).run P w = .ok () w') (hK:wpList P ops Q rest (a.put o.dst undef) w'):wpList P ops Q (o::rest) a w:=by
 refine wpList_plain hg fun K' hK'=>?_;unfold Oper.wp;simp[execOp,hop,hm,hx,hv,hrun,Result.andThen];exact hK' _ _ hK
structure SJ (g:Nat) (w:World) (h:Nat) (zs:List Int) (t m:Nat) (wr:World):Prop where
 below:Below g w wr
 mp:SMap wr (g+1) zs m
 c0:wr.cell? ⟨h,0,none⟩=some (.int .i64 (zs.getD (3*t) 0))
 c1:wr.cell? ⟨h,1,none⟩=some (.int .i64 (zs.getD (3*t+1) 0))
 c2:wr.cell? ⟨h,2,none⟩=some (.int .i64 (zs.getD (3*t+2) 0))
theorem SJ.alloc {g:Nat} {w:World} {h:Nat} {zs:List Int} {t m:Nat} {wr:World} (H:SJ g w h zs t m wr) (o:Obj):SJ g w h zs t m (wr.alloc o):=by
 have hb:Below wr.heap.size wr (wr.alloc o):=(Below.refl _ _).alloc (Nat.le_refl _) o;exact⟨H.below.alloc (by have:=H.mp.lt;omega) o,H.mp.below hb H.mp.lt,(hb.cell (World.block_lt_of_cell? _ _ H.c0)).trans H.c0,(hb.cell (World.block_lt_of_cell? _ _ H.c1)).trans H.c1,(hb.cell (World.block_lt_of_cell? _ _ H.c2)).trans H.c2⟩
theorem SJ.dr {g:Nat} {w:World} {h:Nat} {zs:List Int} {t m:Nat} {wr:World} (H:SJ g w h zs t m wr):SJ g w h zs t m wr.drew :=
 ⟨H.below.drew,H.mp.block rfl,H.c0,H.c1,H.c2⟩
theorem SJ.put {g:Nat} {w:World} {h:Nat} {zs:List Int} {t m:Nat} {wr w':World} (H:SJ g w h zs t m wr) (hgh:g+1<h) (hg:wr.grownBy w' (some (g+1))) (hm:SMap w' (g+1) zs (m+1)):SJ g w h zs t (m+1) w':=by
 have hl:h<wr.heap.size:=World.block_lt_of_cell? _ _ H.c0;have hb:w'.heap[h]?=wr.heap[h]?:=hg.block h hl (by intro e;injection e with e;omega);exact⟨H.below.grown hg aC (fun k e=>by injection e with e;omega),hm,(World.cell?_of_block (a:=⟨h,0,none⟩) hb).trans H.c0,(World.cell?_of_block (a:=⟨h,1,none⟩) hb).trans H.c1,(World.cell?_of_block (a:=⟨h,2,none⟩) hb).trans H.c2⟩
theorem RH {zs:List Int} {n1 t k:Nat} (ht:t<n1) (hk:k<3) (hd:∀ j,j<3*n1->bK zs (zs.getD j 0) (zs.getD (3*(j / 3)+nx (j%3)) 0) (3*n1)=some j) :
  bK zs (zs.getD (3*t+k) 0) (zs.getD (3*t+nx k) 0) (3*t+k)=none/\hit zs (zs.getD (3*t+k) 0) (zs.getD (3*t+nx k) 0) (3*t+k):=by
 have h:=hd (3*t+k) aC;rw[show(3*t+k) / 3=t by omega,show(3*t+k)%3=k by omega]at h
 obtain⟨_,h2,h3⟩:=FO h;exact⟨Mj.2 h3,h2⟩
theorem ahM (A0 A1 A2:Option Addr) (n0 c0 n1 c1 n2 c2:Nat) (zs:List Int) (w:World) (hr:IR w A1 (3*n1) zs) (hn:n1<=100000) (hw:∀ j,j<3*n1->W6 (zs.getD j 0)) (hd:∀ j,j<3*n1->bK zs (zs.getD j 0) (zs.getD (3*(j / 3)+nx (j%3)) 0) (3*n1)=some j) :
  Calls Tryz.prog 58 #[.agg #[.slice A0 n0 c0,.slice A1 n1 c1,.slice A2 n2 c2]] w fun e w'=>∃ B,e = .returned (.tuple #[.map (some B),.bool true])/\w.heap.size<=B/\SMap w' B zs (3*n1)/\Below w.heap.size w w':=by
 have kF:=Lib.hid (MB.new w A0 A1 A2 n0 c0 n1 c1 n2 c2);have HR:=Lib.hid hr;have HN:=Lib.hid hn;have HW:=Lib.hid hw;have HD:=Lib.hid hd;obtain⟨g,hg⟩:∃ g,w.heap.size=g:=⟨_,rfl⟩
 have HG:=Lib.hid hg;have hmm:=@run_makeMap Tryz.prog;clear hr hn hw hd;have HM0:=Lib.hid (SMap.made (w.alloc (.cells #[.slice A0 n0 c0,.slice A1 n1 c1,.slice A2 n2 c2] 26)) zs);go_enter Tryz.func58,Tryz.ntmps58;go_wp2
 rw[hg]at kF
 have e0:(w.alloc (.cells #[.slice A0 n0 c0,.slice A1 n1 c1,.slice A2 n2 c2] 26)).heap.size=g+1:=by simp[go_sem,hg]
 rw[e0]at HM0
 have bu:=Lib.hid (kF.out.below.alloc (by rw[e0];omega) (.map #[] 0));clear hg hmm e0;go_loopw [15] (fun v wr=>∃ (t:Nat),t<=n1/\v = .int .i64 (t:Int)/\Hid (Below g w wr/\SMap wr (g+1) zs (3*t))) (fun v _=>n1-(intOf v).toNat)
 case atStart=>exact⟨0,Nat.zero_le _,rfl,Lib.hid ⟨bu.out,HM0.out⟩⟩
 case round =>
  obtain⟨t,ht,rfl,hI⟩:=hrel;by_cases htn:t<n1
  ·have h1:decide ((t:Int)<(n1:Int))=true:=decide_eq_true aC
   have h2:((t:Int)<(n1:Int))=True:=eq_true aC;have h3:(t<n1)=True:=eq_true htn;have h4:((0:Int)<=(t:Int))=True:=eq_true aC;obtain⟨ad,rfl,hc⟩:=HR.out.below hI.out.1 HG.out.symm aC;have y0:=hc (t*3) aC;have y1:=hc (t*3+1) aC;have y2:=hc (t*3+2) aC;rw[uL _ _ _ (by decide)]at y1 y2
   rw[show zs.getD (t*3) 0=zs.getD (3*t) 0 by rw[Nat.mul_comm]]at y0
   rw[show zs.getD (t*3+1) 0=zs.getD (3*t+1) 0 by rw[Nat.mul_comm]]at y1
   rw[show zs.getD (t*3+2) 0=zs.getD (3*t+2) 0 by rw[Nat.mul_comm]]at y2
   obtain⟨z0,e0⟩:∃ z,zs.getD (3*t) 0=z:=⟨_,rfl⟩
   obtain⟨z1,e1⟩:∃ z,zs.getD (3*t+1) 0=z:=⟨_,rfl⟩
   obtain⟨z2,e2⟩:∃ z,zs.getD (3*t+2) 0=z:=⟨_,rfl⟩
   rw[e0]at y0
   rw[e1]at y1
   rw[e2]at y2
   have E0:=Lib.hid e0;have E1:=Lib.hid e1;have E2:=Lib.hid e2;have HT:=Lib.hid htn;have HL:=Lib.hid (show g+1<wr.heap.size from hI.out.2.lt);clear hc e0 e1 e2 htn ht
   have HJ:=Lib.hid (show SJ g w wr.heap.size zs t (3*t) (wr.alloc (.cells #[.int .i64 z0,.int .i64 z1,.int .i64 z2] 69)) from
    ⟨hI.out.1.alloc (by have:=HL.out;omega) _,hI.out.2.below ((Below.refl _ _).alloc (Nat.le_refl _) _) hI.out.2.lt,by rw[E0.out];simp[go_sem],by rw[E1.out];simp[go_sem],by rw[E2.out];simp[go_sem]⟩)
   obtain⟨h,hh⟩:∃ h,wr.heap.size=h:=⟨_,rfl⟩
   go_wp2
   rw[hh]at HJ HL
   clear hh;go_loopw [20] (fun v wx=>∃ (k:Nat),k<=3/\v = .int .i64 (k:Int)/\Hid (SJ g w h zs t (3*t+k) wx)) (fun v _=>3-(intOf v).toNat)
   case atStart=>exact⟨0,by omega,rfl,HJ⟩
   case round =>
    obtain⟨k,hk,rfl,hJ⟩:=hrel;clear HJ y0 y1 y2 h1 h2 h3 h4;have x0:=hJ.out.c0;have x1:=hJ.out.c1;have x2:=hJ.out.c2;rw[E0.out]at x0
    rw[E1.out]at x1
    rw[E2.out]at x2
    by_cases hk3:k<3
    ·have hk4:k=0\/k=1\/k=2:=by omega
     rcases hk4 with rfl|rfl|rfl
     ·rw[show((0:Nat):Int)=0 from rfl]
      obtain⟨hno,sW⟩:=RH HT.out (show 0<3 by decide) HD.out;have wx:=HW.out (3*t+0) (by have:=HT.out;omega);have wy:=HW.out (3*t+nx 0) (by have:=HT.out;show 3*t+1<_;omega);rw[show nx 0=1 from rfl]at hno sW wy
      rw[show zs.getD (3*t+0) 0=z0 from E0.out,show zs.getD (3*t+1) 0=z1 from E1.out]at hno sW
      rw[show zs.getD (3*t+0) 0=z0 from E0.out]at wx
      rw[show zs.getD (3*t+1) 0=z1 from E1.out]at wy
      have ug:=(hJ.out.alloc (.cells #[.int .i64 z0,.int .i64 z1] 73)).dr;have hJ2:=ug.alloc (.cells #[.int .i64 0,.int .i64 0] 77);have hlk:=ug.mp.look wx wy;rw[hno]at hlk
      have vv:=Lib.hid hlk;obtain⟨w9,hrun,vk,wS⟩:=hJ2.mp.more (by have:=HT.out;have:=HN.out;unfold maxLen;omega) wx wy sW hno;rw[show(3*t+0) / 3=t by omega,show(3*t+0)%3=0 by omega]at hrun
      have uR:=Lib.hid hrun;have Lz:=Lib.hid (hJ2.put HL.out wS vk);have c0:(wr.alloc (.cells #[.int .i64 z0,.int .i64 z1] 73)).drew.cell? ⟨wr.heap.size,0,none⟩=some (.int .i64 z0):=by simp[go_sem]
      have c1:(wr.alloc (.cells #[.int .i64 z0,.int .i64 z1] 73)).drew.cell? ⟨wr.heap.size,1,none⟩=some (.int .i64 z1):=by simp[go_sem]
      have hlt:h<wr.heap.size:=World.block_lt_of_cell? _ _ x0;have hne:¬ h=wr.heap.size:=by omega
      have gK:¬ wr.heap.size=h:=by omega
      have mD:(h<wr.heap.size)=True:=eq_true hlt;have v1:IntKind.i64.wrap 1=1:=by decide
      have u1:(1:Int).tmod 3=1:=by decide
      clear ug hJ2 hlk hrun vk wS hno sW wx wy hlt hk hk3;go_wp2
      go_region
      clear x0 x1 x2 hne gK mD v1 u1;generalize (wr.alloc (.cells #[.int .i64 z0,.int .i64 z1] 73)).drew=W1 at c0 c1 vv uR ⊢;generalize wr.heap.size=h8 at c0 c1 ⊢;have Kn:h8<W1.heap.size:=World.block_lt_of_cell? _ _ c0;have hne:¬ h8=W1.heap.size:=by omega
      have gK:¬ W1.heap.size=h8:=by omega
      have mD:(h8<W1.heap.size)=True:=eq_true Kn;go_wp2_with (first|(at_lookup;refine yA _ rfl _ _ _ _ rfl _ _ _ rfl rfl vv.out ?_)|(at_mapUpdate;refine JE _ rfl _ _ _ _ rfl _ _ _ w9 rfl rfl rfl uR.out ?_)|go_in)
      exact⟨⟨1,by decide,by first|rfl|decide,Lz⟩,by decide⟩
     ·rw[show((1:Nat):Int)=1 from rfl]
      obtain⟨hno,sW⟩:=RH HT.out (show 1<3 by decide) HD.out;have wx:=HW.out (3*t+1) (by have:=HT.out;omega);have wy:=HW.out (3*t+nx 1) (by have:=HT.out;show 3*t+2<_;omega);rw[show nx 1=2 from rfl]at hno sW wy
      rw[show zs.getD (3*t+1) 0=z1 from E1.out,show zs.getD (3*t+2) 0=z2 from E2.out]at hno sW
      rw[show zs.getD (3*t+1) 0=z1 from E1.out]at wx
      rw[show zs.getD (3*t+2) 0=z2 from E2.out]at wy
      have ug:=(hJ.out.alloc (.cells #[.int .i64 z1,.int .i64 z2] 73)).dr;have hJ2:=ug.alloc (.cells #[.int .i64 0,.int .i64 0] 77);have hlk:=ug.mp.look wx wy;rw[hno]at hlk
      have vv:=Lib.hid hlk;obtain⟨w9,hrun,vk,wS⟩:=hJ2.mp.more (by have:=HT.out;have:=HN.out;unfold maxLen;omega) wx wy sW hno;rw[show(3*t+1) / 3=t by omega,show(3*t+1)%3=1 by omega]at hrun
      have uR:=Lib.hid hrun;have Lz:=Lib.hid (hJ2.put HL.out wS vk);have c0:(wr.alloc (.cells #[.int .i64 z1,.int .i64 z2] 73)).drew.cell? ⟨wr.heap.size,0,none⟩=some (.int .i64 z1):=by simp[go_sem]
      have c1:(wr.alloc (.cells #[.int .i64 z1,.int .i64 z2] 73)).drew.cell? ⟨wr.heap.size,1,none⟩=some (.int .i64 z2):=by simp[go_sem]
      have hlt:h<wr.heap.size:=World.block_lt_of_cell? _ _ x0;have hne:¬ h=wr.heap.size:=by omega
      have gK:¬ wr.heap.size=h:=by omega
      have mD:(h<wr.heap.size)=True:=eq_true hlt;have v1:IntKind.i64.wrap 2=2:=by decide
      have u1:(2:Int).tmod 3=2:=by decide
      clear ug hJ2 hlk hrun vk wS hno sW wx wy hlt hk hk3;go_wp2
      go_region
      clear x0 x1 x2 hne gK mD v1 u1;generalize (wr.alloc (.cells #[.int .i64 z1,.int .i64 z2] 73)).drew=W1 at c0 c1 vv uR ⊢;generalize wr.heap.size=h8 at c0 c1 ⊢;have Kn:h8<W1.heap.size:=World.block_lt_of_cell? _ _ c0;have hne:¬ h8=W1.heap.size:=by omega
      have gK:¬ W1.heap.size=h8:=by omega
      have mD:(h8<W1.heap.size)=True:=eq_true Kn;go_wp2_with (first|(at_lookup;refine yA _ rfl _ _ _ _ rfl _ _ _ rfl rfl vv.out ?_)|(at_mapUpdate;refine JE _ rfl _ _ _ _ rfl _ _ _ w9 rfl rfl rfl uR.out ?_)|go_in)
      exact⟨⟨2,by decide,by first|rfl|decide,Lz⟩,by decide⟩
     ·rw[show((2:Nat):Int)=2 from rfl]
      obtain⟨hno,sW⟩:=RH HT.out (show 2<3 by decide) HD.out;have wx:=HW.out (3*t+2) (by have:=HT.out;omega);have wy:=HW.out (3*t+nx 2) (by have:=HT.out;show 3*t+0<_;omega);rw[show nx 2=0 from rfl]at hno sW wy
      rw[show zs.getD (3*t+2) 0=z2 from E2.out,show zs.getD (3*t+0) 0=z0 from E0.out]at hno sW
      rw[show zs.getD (3*t+2) 0=z2 from E2.out]at wx
      rw[show zs.getD (3*t+0) 0=z0 from E0.out]at wy
      have ug:=(hJ.out.alloc (.cells #[.int .i64 z2,.int .i64 z0] 73)).dr;have hJ2:=ug.alloc (.cells #[.int .i64 0,.int .i64 0] 77);have hlk:=ug.mp.look wx wy;rw[hno]at hlk
      have vv:=Lib.hid hlk;obtain⟨w9,hrun,vk,wS⟩:=hJ2.mp.more (by have:=HT.out;have:=HN.out;unfold maxLen;omega) wx wy sW hno;rw[show(3*t+2) / 3=t by omega,show(3*t+2)%3=2 by omega]at hrun
      have uR:=Lib.hid hrun;have Lz:=Lib.hid (hJ2.put HL.out wS vk);have c0:(wr.alloc (.cells #[.int .i64 z2,.int .i64 z0] 73)).drew.cell? ⟨wr.heap.size,0,none⟩=some (.int .i64 z2):=by simp[go_sem]
      have c1:(wr.alloc (.cells #[.int .i64 z2,.int .i64 z0] 73)).drew.cell? ⟨wr.heap.size,1,none⟩=some (.int .i64 z0):=by simp[go_sem]
      have hlt:h<wr.heap.size:=World.block_lt_of_cell? _ _ x0;have hne:¬ h=wr.heap.size:=by omega
      have gK:¬ wr.heap.size=h:=by omega
      have mD:(h<wr.heap.size)=True:=eq_true hlt;have v1:IntKind.i64.wrap 3=3:=by decide
      have u1:(3:Int).tmod 3=0:=by decide
      clear ug hJ2 hlk hrun vk wS hno sW wx wy hlt hk hk3;go_wp2
      go_region
      clear x0 x1 x2 hne gK mD v1 u1;generalize (wr.alloc (.cells #[.int .i64 z2,.int .i64 z0] 73)).drew=W1 at c0 c1 vv uR ⊢;generalize wr.heap.size=h8 at c0 c1 ⊢;have Kn:h8<W1.heap.size:=World.block_lt_of_cell? _ _ c0;have hne:¬ h8=W1.heap.size:=by omega
      have gK:¬ W1.heap.size=h8:=by omega
      have mD:(h8<W1.heap.size)=True:=eq_true Kn;go_wp2_with (first|(at_lookup;refine yA _ rfl _ _ _ _ rfl _ _ _ rfl rfl vv.out ?_)|(at_mapUpdate;refine JE _ rfl _ _ _ _ rfl _ _ _ w9 rfl rfl rfl uR.out ?_)|go_in)
      exact⟨⟨3,by decide,by first|rfl|decide,Lz⟩,by decide⟩
    ·have h2:decide ((k:Int)<3)=false:=decide_eq_false aC
     have hkk:k=3:=by omega
     clear x0 x1 x2;go_wp2
     have h9:=HN.out;have h8:=HT.out;rw[kB aC];exact⟨⟨t+1,by omega,rfl,Lib.hid (by rw[show 3*(t+1)=3*t+k by omega];exact⟨hJ.out.below,hJ.out.mp⟩)⟩,by show n1-(((t+1:Nat):Int)).toNat<n1-((t:Nat):Int).toNat;omega⟩
  ·have h1:decide ((t:Int)<(n1:Int))=false:=decide_eq_false aC
   have Lt:t=n1:=by omega
   go_wp2
   go_ret2
   subst Lt;exact⟨g+1,rfl,by rw[HG.out];omega,hI.out.2,by rw[HG.out];exact hI.out.1⟩
end Go.Proofs.YtcmepkhjggpmeaaGreat
