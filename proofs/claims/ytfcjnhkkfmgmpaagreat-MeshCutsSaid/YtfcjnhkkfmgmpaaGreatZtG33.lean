import Derived.Test.YtfcjnhkkfmgmpaaGreatZtG18
set_option linter.all false
set_option maxRecDepth 100000
set_option maxHeartbeats 8000000
namespace Go.Proofs.aA.R
open Go.RowKit Go.Proofs.aA.Z Go.Proofs.aB.aZ Go.Proofs.aB.bT Go.Proofs.aB.bX
attribute [local go_sem] cm ct cz cA cj ck cu cw
def Aj.f (af:Bool) (aa aj:ByteArray):Option (Int):=if af=true then (some (-1)) else (if aa.toList=([]:List UInt8) then (some 0) else (some 1))
theorem Aj.calls (af:Bool) (aa aj:ByteArray) (r:Int) (w:World) (h:Aj.f af aa aj=some r) :
  Calls Tryz.prog 53 #[.agg #[.bool af,.string aa,.string aj]] w fun e w'=>e = .returned (.int .i64 r)/\Below w.heap.size w w':=by
 have ji:=Tryz.underlying40;have HB:=qa (Below.refl w.heap.size w);unfold Aj.f at h;have H:=h;clear h;by_cases c2:af=true
 ·subst c2
  rw[if_pos rfl]at H
  obtain rfl:=Option.some.inj H;go_enter Tryz.func53,Tryz.ntmps53;go_wp2_with (first|((with_reducible refine aR (N:=1) rfl ?_);refine zY 1 #[.bool true,.string aa,.string aj] 40 ?_;intro aed hg w3 ah hb;have LX:=qa (ah);have aee:=zG hg HB;have aef:=zG hg HB;replace HB:=zS HB hb;clear hb ah hg;obtain⟨P_,Qa,Qb,Qc,Qd,Qe⟩:=z3 LX))
  go_ret
  exact⟨zH,zT HB⟩
 ·replace c2:=Bool.eq_false_iff.mpr c2
  subst c2;rw[if_neg zn]at H
  by_cases c5:aa.toList=([]:List UInt8)
  ·rw[if_pos c5]at H
   have xI:=beq_iff_eq.mpr c5;have Bd:=bne_eq_false_iff_eq.mpr c5;clear c5;obtain rfl:=Option.some.inj H;go_enter Tryz.func53,Tryz.ntmps53;go_wp2_with (first|((with_reducible refine aR (N:=1) rfl ?_);refine zY 1 #[.bool false,.string aa,.string aj] 40 ?_;intro aed hg w6 ah hb;have LX:=qa (ah);have aee:=zG hg HB;have aef:=zG hg HB;replace HB:=zS HB hb;clear hb ah hg;obtain⟨ayM,ayN,ayO,ayP,ayQ,ayR⟩:=z3 LX))
   go_ret
   exact⟨zH,zT HB⟩
  ·rw[if_neg c5]at H
   have xI:=beq_eq_false_iff_ne.mpr c5;have Bd:=bne_iff_ne.mpr c5;obtain rfl:=Option.some.inj H;go_enter Tryz.func53,Tryz.ntmps53;go_wp2_with (first|((with_reducible refine aR (N:=1) rfl ?_);refine zY 1 #[.bool false,.string aa,.string aj] 40 ?_;intro aed hg w8 ah hb;have LX:=qa (ah);have aee:=zG hg HB;have aef:=zG hg HB;replace HB:=zS HB hb;clear hb ah hg;obtain⟨yU,yV,CU,yX,yY,CV⟩:=z3 LX))
   go_ret
   exact⟨zH,zT HB⟩
open Go.Proofs.YtfcjnhkkfmgmpaaGreat Go.Proofs.YtfcjnhkkfmgmpaaGreat.aS in
def oT.f (af:Bool) (aa:ByteArray) (aq:Bool) (ak:ByteArray):Option (Bool × ByteArray):=if aa.size<=4000/\ak.size<=4000 then some ((pv (ival af aa*ival aq ak)).1,(pv (ival af aa*ival aq ak)).2) else none
open Go.Proofs.YtfcjnhkkfmgmpaaGreat Go.Proofs.YtfcjnhkkfmgmpaaGreat.aS in
theorem oT.calls (af:Bool) (aa:ByteArray) (aq:Bool) (ak:ByteArray) (r1:Bool) (r2:ByteArray) (w:World) (h:oT.f af aa aq ak=some (r1,r2)) :
  Calls Tryz.prog 76 #[.agg #[.bool af,.string aa],.agg #[.bool aq,.string ak]] w fun e w'=>e = .returned (.agg #[.bool r1,.string r2])/\Below w.heap.size w w':=by
 unfold oT.f at h;split at h
 ·rename_i hc
  simp only[Option.some.injEq,Prod.mk.injEq]at h;obtain⟨rfl,rfl⟩:=h;exact alG _ _ _ _ hc.1 hc.2 w
 ·exact absurd h (by simp)
open Go.Proofs.YtfcjnhkkfmgmpaaGreat Go.Proofs.YtfcjnhkkfmgmpaaGreat.aS in
def yF.f (af:Bool) (aa:ByteArray) (aq:Bool) (ak:ByteArray):Option (Bool × ByteArray):=if aa.size<=4000/\ak.size<=4000 then some ((pv (ival af aa+ival aq ak)).1,(pv (ival af aa+ival aq ak)).2) else none
open Go.Proofs.YtfcjnhkkfmgmpaaGreat Go.Proofs.YtfcjnhkkfmgmpaaGreat.aS in
theorem yF.calls (af:Bool) (aa:ByteArray) (aq:Bool) (ak:ByteArray) (r1:Bool) (r2:ByteArray) (w:World) (h:yF.f af aa aq ak=some (r1,r2)) :
  Calls Tryz.prog 89 #[.agg #[.bool af,.string aa],.agg #[.bool aq,.string ak]] w fun e w'=>e = .returned (.agg #[.bool r1,.string r2])/\Below w.heap.size w w':=by
 unfold yF.f at h;split at h
 ·rename_i hc
  simp only[Option.some.injEq,Prod.mk.injEq]at h;obtain⟨rfl,rfl⟩:=h;exact aqf _ _ _ _ hc.1 hc.2 w
 ·exact absurd h (by simp)
def Hv.f (af:Bool) (aa aj:ByteArray):Option (Bool × ByteArray × ByteArray):=(Kw.f af aa).bind fun aev=>(some (aev.1,aev.2,aj))
theorem Hv.calls (af:Bool) (aa aj:ByteArray) (r1:Bool) (r2 r3:ByteArray) (w:World) (h:Hv.f af aa aj=some (r1,r2,r3)) :
  Calls Tryz.prog 75 #[.agg #[.bool af,.string aa,.string aj]] w fun e w'=>e = .returned (.agg #[.bool r1,.string r2,.string r3])/\Below w.heap.size w w':=by
 have ji:=Tryz.underlying40;have Be:=Tryz.underlying38;have xW:=ze;have BJ:=zf;have hf2:=zg;have hf3:=zh;have HB:=qa (Below.refl w.heap.size w);unfold Hv.f at h;have H:=h;clear h;obtain⟨⟨t152,t153⟩,A2,H⟩:=zo H;try dsimp only at H
 simp only[Option.some.injEq,Prod.mk.injEq]at H;obtain⟨rfl,rfl,rfl⟩:=H;go_enter Tryz.func75,Tryz.ntmps75;try go_wp2_with (first|((with_reducible refine aR (N:=1) rfl ?_);refine zY 1 #[.bool af,.string aa,.string aj] 40 ?_;intro Wy hg w3 ah hb;have uh:=qa (ah);have azc:=zG hg HB;have azd:=zG hg HB;replace HB:=zS HB hb;clear hb ah hg)|((with_reducible refine aR (N:=2) rfl ?_);refine zY 2 #[.bool false,.string ⟨#[]⟩,.string ⟨#[]⟩] 40 ?_;intro uT hg w4 ah hb;have wh:=qa (ah);have aze:=zG hg HB;have azf:=zG hg HB;obtain⟨vR,To⟩:=zQ hg uh;replace uh:=zB uh hb;replace HB:=zS HB hb;clear hb ah hg))
 replace uh:=zD uh;replace wh:=zD wh;replace HB:=zF HB;refine mg (n:=7) (S:=fun w'=>w'.cell? ⟨Wy,0,none⟩=some (.bool af)/\w'.cell? ⟨Wy,1,none⟩=some (.string aa)/\w'.cell? ⟨Wy,2,none⟩=some (.string aj)) (ds:=[]) (zb 7 0) qk rfl rfl ⟨zc uh 0,zc uh 1,zc uh 2⟩ (fun hHeld=>?_);generalize w4.drew=w5 at uh wh HB hHeld ⊢;refine iY (i:=0) (N:=some 3) (v:=?_) (a':=?_) (zb 7 1) rfl rfl qk (fun _ _ _ h=>h) (Or.inl ⟨by rfl,?_⟩) ?_ ?_;rotate_left
 ·intro w'
  go_simp
  with_reducible rfl
 rotate_left
 ·simp only[Act.put,List.setIfInBounds_toArray,List.set_cons_zero,List.set_cons_succ,dL,dM]
  rfl
 refine iY (i:=3) (N:=some 6) (v:=?_) (a':=?_) (zb 7 9) rfl rfl qk (fun _ _ _ h=>h) (Or.inl ⟨by rfl,?_⟩) ?_ ?_;rotate_left
 ·intro w'
  go_simp
  with_reducible rfl
 rotate_left
 ·simp only[Act.put,List.setIfInBounds_toArray,List.set_cons_zero,List.set_cons_succ,dL,dM]
  rfl
 refine FE (i:=1) (N:=some 4) (v:=?_) (a':=?_) (zb 7 11) rfl rfl qk (fun _ _ _ h=>h) (Or.inl ⟨by rfl,?_⟩) hHeld ?_ ?_;rotate_left
 ·rintro w' ⟨s0,s1,s2⟩
  go_simp
  with_reducible rfl
 rotate_left
 ·simp only[Act.put,List.setIfInBounds_toArray,List.set_cons_zero,List.set_cons_succ,dL,dM]
  rfl
 refine FE (i:=4) (N:=some 7) (v:=?_) (a':=?_) (zb 7 27) rfl rfl qk (fun _ _ _ h=>h) (Or.inl ⟨by rfl,?_⟩) hHeld ?_ ?_;rotate_left
 ·rintro w' ⟨s0,s1,s2⟩
  go_simp
  with_reducible rfl
 rotate_left
 ·simp only[Act.put,List.setIfInBounds_toArray,List.set_cons_zero,List.set_cons_succ,dL,dM]
  rfl
 refine bM (i:=2) (N:=some 5) (zb 7 31) rfl rfl qk qd (fun K hK=>?_);refine zJ Tryz.func90 qk (Kw.calls af aa t152 t153 _ A2.out) fun w6 hb=>?_;obtain⟨uh,wh⟩:=eo uh wh hb;replace HB:=zS HB hb
 (try clear hb)
 refine hK.out _ _ ⟨zc uh 0,zc uh 1,zc uh 2⟩ (fun hHeld=>?_);clear hK K;refine zW (some 5) ?_;refine iY (i:=5) (N:=some 8) (v:=?_) (a':=?_) (zb 7 63) rfl rfl qk (fun _ _ _ h=>h) (Or.inl ⟨by rfl,?_⟩) ?_ ?_;rotate_left
 ·intro w'
  go_simp
  with_reducible rfl
 rotate_left
 ·simp only[Act.put,List.setIfInBounds_toArray,List.set_cons_zero,List.set_cons_succ,dL,dM]
  rfl
 refine bM (i:=6) (N:=none) (zb 7 127) rfl rfl qk qd (fun K hK=>?_);have hs7:w6.cell? ⟨uT,0,none⟩=some (.bool false):=zc wh 0;have aB6:=b_ wh.out 0;have ayS:=vR.out;have ayT:=To.out;have hs8:w6.cell? ⟨uT,1,none⟩=some (.string ⟨#[]⟩):=zc wh 1;have aB7:=b_ wh.out 1;have ayU:=vR.out;have ayV:=To.out;have hs9:w6.cell? ⟨uT,2,none⟩=some (.string ⟨#[]⟩):=zc wh 2;have aB8:=b_ wh.out 2;have ayW:=vR.out;have ayX:=To.out;refine qA (w1:=?_) (by rfl) rfl ?_ ?_;rotate_left
 ·go_simp
  rfl
 refine hK.out _ _ ⟨((cell_far (p:=⟨uT,_,none⟩) vR.out _).trans (((cell_far (p:=⟨uT,_,none⟩) vR.out _).trans (((cell_far (p:=⟨uT,_,none⟩) vR.out _).trans (hHeld.1)))))),((cell_far (p:=⟨uT,_,none⟩) vR.out _).trans (((cell_far (p:=⟨uT,_,none⟩) vR.out _).trans (((cell_far (p:=⟨uT,_,none⟩) vR.out _).trans (hHeld.2.1)))))),((cell_far (p:=⟨uT,_,none⟩) vR.out _).trans (((cell_far (p:=⟨uT,_,none⟩) vR.out _).trans (((cell_far (p:=⟨uT,_,none⟩) vR.out _).trans (hHeld.2.2))))))⟩ (fun hHeld=>?_);clear hK K;refine mh qk ?_;try go_wp2
 refine bodyPost_ret (results_cell_row rfl _ _ uT 40 #[.bool t152,.string t153,.string aj] (0,0) _ rfl (Kx wh) Tryz.underlying40 rfl qk) rfl ?_;exact⟨zH,zT HB⟩
open Go.Proofs.YtfcjnhkkfmgmpaaGreat Go.Proofs.YtfcjnhkkfmgmpaaGreat.aS in
def Eo.f (af:Bool) (aa:ByteArray) (aq:Bool) (ak:ByteArray):Option (Bool × ByteArray):=if aa.size<=4000/\ak.size<=4000 then some ((pv ((Nat.gcd (nv aa).toNat (nv ak).toNat:Nat):Int)).1,(pv ((Nat.gcd (nv aa).toNat (nv ak).toNat:Nat):Int)).2) else none
open Go.Proofs.YtfcjnhkkfmgmpaaGreat Go.Proofs.YtfcjnhkkfmgmpaaGreat.aS in
theorem Eo.calls (af:Bool) (aa:ByteArray) (aq:Bool) (ak:ByteArray) (r1:Bool) (r2:ByteArray) (w:World) (h:Eo.f af aa aq ak=some (r1,r2)) :
  Calls Tryz.prog 86 #[.agg #[.bool af,.string aa],.agg #[.bool aq,.string ak]] w fun e w'=>e = .returned (.agg #[.bool r1,.string r2])/\Below w.heap.size w w':=by
 unfold Eo.f at h;split at h
 ·rename_i hc
  simp only[Option.some.injEq,Prod.mk.injEq]at h;obtain⟨rfl,rfl⟩:=h;exact aa7 _ _ _ _ hc.1 hc.2 w
 ·exact absurd h (by simp)
open Go.Proofs.YtfcjnhkkfmgmpaaGreat Go.Proofs.YtfcjnhkkfmgmpaaGreat.aS in
def tS.f (af:Bool) (aa:ByteArray) (aq:Bool) (ak:ByteArray):Option (Bool × ByteArray × Int):=if aa.size<=15000/\ak.size<=15000 then some ((Dd (af,aa) (aq,ak)).1.1,(Dd (af,aa) (aq,ak)).1.2,(Dd (af,aa) (aq,ak)).2) else none
open Go.Proofs.YtfcjnhkkfmgmpaaGreat Go.Proofs.YtfcjnhkkfmgmpaaGreat.aS in
theorem tS.calls (af:Bool) (aa:ByteArray) (aq:Bool) (ak:ByteArray) (r1:Bool) (r2:ByteArray) (r3:Int) (w:World) (h:tS.f af aa aq ak=some (r1,r2,r3)) :
  Calls Tryz.prog 109 #[.agg #[.bool af,.string aa],.agg #[.bool aq,.string ak]] w fun e w'=>e = .returned (.tuple #[.agg #[.bool r1,.string r2],.int .i64 r3])/\Below w.heap.size w w':=by
 unfold tS.f at h;split at h
 ·rename_i hc
  simp only[Option.some.injEq,Prod.mk.injEq]at h;obtain⟨rfl,rfl,rfl⟩:=h;exact apj (af,aa) (aq,ak) hc.1 hc.2 w
 ·exact absurd h (by simp)
open Go.Proofs.YtfcjnhkkfmgmpaaGreat Go.Proofs.YtfcjnhkkfmgmpaaGreat.aS in
def Ia.f (af:Bool) (aa:ByteArray) (aq:Bool) (ak:ByteArray):Option (Bool × ByteArray × Int):=if aa.size<=15000/\ak.size<=15000 then some ((mI (·*·) (af,aa) (aq,ak)).1.1,(mI (·*·) (af,aa) (aq,ak)).1.2,(mI (·*·) (af,aa) (aq,ak)).2) else none
open Go.Proofs.YtfcjnhkkfmgmpaaGreat Go.Proofs.YtfcjnhkkfmgmpaaGreat.aS in
theorem Ia.calls (af:Bool) (aa:ByteArray) (aq:Bool) (ak:ByteArray) (r1:Bool) (r2:ByteArray) (r3:Int) (w:World) (h:Ia.f af aa aq ak=some (r1,r2,r3)) :
  Calls Tryz.prog 123 #[.agg #[.bool af,.string aa],.agg #[.bool aq,.string ak]] w fun e w'=>e = .returned (.tuple #[.agg #[.bool r1,.string r2],.int .i64 r3])/\Below w.heap.size w w':=by
 unfold Ia.f at h;split at h
 ·rename_i hc
  simp only[Option.some.injEq,Prod.mk.injEq]at h;obtain⟨rfl,rfl,rfl⟩:=h;exact(aqb (af,aa) (aq,ak) hc.1 hc.2).out w
 ·exact absurd h (by simp)
open Go.Proofs.YtfcjnhkkfmgmpaaGreat Go.Proofs.YtfcjnhkkfmgmpaaGreat.aS in
def pO.f (af:Bool) (aa:ByteArray) (aq:Bool) (ak:ByteArray):Option (Bool × ByteArray):=(Ia.f af aa aq ak).map fun r=>(r.1,r.2.1)
open Go.Proofs.YtfcjnhkkfmgmpaaGreat Go.Proofs.YtfcjnhkkfmgmpaaGreat.aS in
theorem pO.calls (af:Bool) (aa:ByteArray) (aq:Bool) (ak:ByteArray) (r1:Bool) (r2:ByteArray) (w:World) (h:pO.f af aa aq ak=some (r1,r2)) :
  Calls Tryz.prog 122 #[.func (.func 123) #[] #[],.agg #[.bool af,.string aa],.agg #[.bool aq,.string ak]] w fun e w'=>e = .returned (.agg #[.bool r1,.string r2])/\Below w.heap.size w w':=by
 unfold pO.f at h;obtain⟨⟨x1,x2,x3⟩,hx,he⟩:=Option.map_eq_some_iff.1 h;simp only[Prod.mk.injEq]at he;obtain⟨rfl,rfl⟩:=he;exact apC _ _ _ _ _ _ _ (qh fun w=>Ia.calls _ _ _ _ _ _ _ w hx) w
open Go.Proofs.YtfcjnhkkfmgmpaaGreat Go.Proofs.YtfcjnhkkfmgmpaaGreat.aS in
def Ih.f (af:Bool) (aa:ByteArray) (aq:Bool) (ak:ByteArray):Option (Bool × ByteArray × Int):=if aa.size<=15000/\ak.size<=15000 then some ((mI (·-·) (af,aa) (aq,ak)).1.1,(mI (·-·) (af,aa) (aq,ak)).1.2,(mI (·-·) (af,aa) (aq,ak)).2) else none
open Go.Proofs.YtfcjnhkkfmgmpaaGreat Go.Proofs.YtfcjnhkkfmgmpaaGreat.aS in
theorem Ih.calls (af:Bool) (aa:ByteArray) (aq:Bool) (ak:ByteArray) (r1:Bool) (r2:ByteArray) (r3:Int) (w:World) (h:Ih.f af aa aq ak=some (r1,r2,r3)) :
  Calls Tryz.prog 113 #[.agg #[.bool af,.string aa],.agg #[.bool aq,.string ak]] w fun e w'=>e = .returned (.tuple #[.agg #[.bool r1,.string r2],.int .i64 r3])/\Below w.heap.size w w':=by
 unfold Ih.f at h;split at h
 ·rename_i hc
  simp only[Option.some.injEq,Prod.mk.injEq]at h;obtain⟨rfl,rfl,rfl⟩:=h;exact(aqa (af,aa) (aq,ak) hc.1 hc.2).out w
 ·exact absurd h (by simp)
open Go.Proofs.YtfcjnhkkfmgmpaaGreat Go.Proofs.YtfcjnhkkfmgmpaaGreat.aS in
def Ck.f (af:Bool) (aa:ByteArray) (aq:Bool) (ak:ByteArray):Option (Bool × ByteArray):=(Ih.f af aa aq ak).map fun r=>(r.1,r.2.1)
open Go.Proofs.YtfcjnhkkfmgmpaaGreat Go.Proofs.YtfcjnhkkfmgmpaaGreat.aS in
theorem Ck.calls (af:Bool) (aa:ByteArray) (aq:Bool) (ak:ByteArray) (r1:Bool) (r2:ByteArray) (w:World) (h:Ck.f af aa aq ak=some (r1,r2)) :
  Calls Tryz.prog 122 #[.func (.func 113) #[] #[],.agg #[.bool af,.string aa],.agg #[.bool aq,.string ak]] w fun e w'=>e = .returned (.agg #[.bool r1,.string r2])/\Below w.heap.size w w':=by
 unfold Ck.f at h;obtain⟨⟨x1,x2,x3⟩,hx,he⟩:=Option.map_eq_some_iff.1 h;simp only[Prod.mk.injEq]at he;obtain⟨rfl,rfl⟩:=he;exact apF _ _ _ _ _ _ _ (qh fun w=>Ih.calls _ _ _ _ _ _ _ w hx) w
open Go.Proofs.YtfcjnhkkfmgmpaaGreat Go.Proofs.YtfcjnhkkfmgmpaaGreat.aS in
def Ip.f (af:Bool) (aa:ByteArray) (aq:Bool) (ak:ByteArray):Option (Bool × ByteArray × Int):=if aa.size<=15000/\ak.size<=15000 then some ((mI (·+·) (af,aa) (aq,ak)).1.1,(mI (·+·) (af,aa) (aq,ak)).1.2,(mI (·+·) (af,aa) (aq,ak)).2) else none
open Go.Proofs.YtfcjnhkkfmgmpaaGreat Go.Proofs.YtfcjnhkkfmgmpaaGreat.aS in
theorem Ip.calls (af:Bool) (aa:ByteArray) (aq:Bool) (ak:ByteArray) (r1:Bool) (r2:ByteArray) (r3:Int) (w:World) (h:Ip.f af aa aq ak=some (r1,r2,r3)) :
  Calls Tryz.prog 114 #[.agg #[.bool af,.string aa],.agg #[.bool aq,.string ak]] w fun e w'=>e = .returned (.tuple #[.agg #[.bool r1,.string r2],.int .i64 r3])/\Below w.heap.size w w':=by
 unfold Ip.f at h;split at h
 ·rename_i hc
  simp only[Option.some.injEq,Prod.mk.injEq]at h;obtain⟨rfl,rfl,rfl⟩:=h;exact(ap' (af,aa) (aq,ak) hc.1 hc.2).out w
 ·exact absurd h (by simp)
open Go.Proofs.YtfcjnhkkfmgmpaaGreat Go.Proofs.YtfcjnhkkfmgmpaaGreat.aS in
def Cl.f (af:Bool) (aa:ByteArray) (aq:Bool) (ak:ByteArray):Option (Bool × ByteArray):=(Ip.f af aa aq ak).map fun r=>(r.1,r.2.1)
open Go.Proofs.YtfcjnhkkfmgmpaaGreat Go.Proofs.YtfcjnhkkfmgmpaaGreat.aS in
theorem Cl.calls (af:Bool) (aa:ByteArray) (aq:Bool) (ak:ByteArray) (r1:Bool) (r2:ByteArray) (w:World) (h:Cl.f af aa aq ak=some (r1,r2)) :
  Calls Tryz.prog 122 #[.func (.func 114) #[] #[],.agg #[.bool af,.string aa],.agg #[.bool aq,.string ak]] w fun e w'=>e = .returned (.agg #[.bool r1,.string r2])/\Below w.heap.size w w':=by
 unfold Cl.f at h;obtain⟨⟨x1,x2,x3⟩,hx,he⟩:=Option.map_eq_some_iff.1 h;simp only[Prod.mk.injEq]at he;obtain⟨rfl,rfl⟩:=he;exact apE _ _ _ _ _ _ _ (qh fun w=>Ip.calls _ _ _ _ _ _ _ w hx) w
end Go.Proofs.aA.R
