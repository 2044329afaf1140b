import Derived.Test.YtfcjnhkkfmgmpaaGreatZsG14
set_option linter.all false
set_option maxRecDepth 100000
set_option maxHeartbeats 8000000
namespace Go.Proofs.aC.R
open Go.RowKit Go.Proofs.aC.Z Go.Proofs.aD.bf Go.Proofs.aD.ck Go.Proofs.aD.cL
attribute [local go_sem] cY cZ dm dn cW cX dc dh
mutual
def eY.j0:Nat→Bool→Bool→ByteArray→ByteArray→Option (Int)
 | 0,_,_,_,_=>none
 | k+1,x15,Ai,Aj,Ak=>if x15=true then (some 5) else ((uC.f Ai Aj).bind fun t228=>(if t228=0 then ((jv.f Ai Aj Ak).bind fun abu=>((uC.f abu.1 abu.2).bind fun t231=>(if t231=0 then (eY.j1 k (Ak.toList==([]:List UInt8)) Ai Aj Ak) else (eY.j1 k true Ai Aj Ak)))) else (eY.j1 k true Ai Aj Ak)))
def eY.j1:Nat→Bool→Bool→ByteArray→ByteArray→Option (Int)
 | 0,_,_,_,_=>none
 | k+1,x30,Ai,Aj,Ak=>if x30=true then (some 1) else (if Ak.toList=([1]:List UInt8) then (some 0) else ((jv.f Ai Aj Ak).bind fun abv=>((rj.f Ai Aj abv.1 abv.2).bind fun amf=>(if amf.2.1.toList=([1]:List UInt8) then (some 0) else (some 1)))))
end
def eY.f (k:Nat) (af:Bool) (aa aj:ByteArray):Option (Int):=if (aa.size:Int) > 8000 then (eY.j0 k true af aa aj) else (eY.j0 k (decide ((aj.size:Int) > 8000)) af aa aj)
def eY.T7:Bool × List (List Nat × List Nat):=(true,[([],[]),([0],[0]),([],[]),([2],[2]),([1,3,3],[1,3]),([4],[4]),([5],[5]),([5],[5]),([],[]),([8,6,4,0,1,2,3,4,5,6,8],[6,8]),([7,9,0,1,2,3,4,5,6,7,8,9],[7])])
def eY.B7:List Nat:=[0,1,0,4,15,31,63,63,0,383,1023]
theorem eY.Gx:gZ .any (opsOf Tryz.f95 7)=eY.T7:=by kernel_rfl
theorem eY.F7:nG eY.T7.2 eY.B7=true:=by kernel_rfl
theorem eY.calls (k:Nat) (af:Bool) (aa aj:ByteArray) (r:Int) (w:World) (h:eY.f k af aa aj=some r) :
  Calls Tryz.prog 95 #[.agg #[.bool af,.string aa,.string aj]] w fun e w'=>e = .returned (.int .i64 r)∧Below w.heap.size w w':=by
 have jT:=Tryz.underlying40;have yu:=Tryz.underlying38;have vT:=wQ;have yT:=wR;have hf2:=wS;have hf3:=wT;have HB:=qa (Below.refl w.heap.size w);unfold eY.f at h;have H:=h;clear h;have qO:=qa H;clear H;go_enter Tryz.func95,Tryz.ntmps95;go_upto_region 1 with (first|((with_reducible refine aZ (N:=1) rfl ?_);(try(refine Cb (by rfl) ?_;dsimp only));refine zY 1 #[.bool af,.string aa,.string aj] 40 ?_;intro nL hg w3 ah hb;have bg:=qa (ah);have axz:=zG hg HB;have axA:=zG hg HB;replace HB:=zS HB hb;clear hb ah hg))
 (try simp only[Act.put,List.setIfInBounds_toArray,List.set_cons_zero,List.set_cons_succ])
 go_cut [15] (fun v15 wc=>∃ (kq:Nat) (NQ:Bool),v15 = .bool NQ∧aM (eY.j0 kq NQ af aa aj=some r)∧aM (kq≤k)∧aM (wc.heap[nL]?=some (.cells #[.bool af,.string aa,.string aj] 40 (0,0)))∧aM (Below w.heap.size w wc))
 case first =>
  have H:=qO.out;clear qO;by_cases c4:(aa.size:Int) > 8000
  ·rw[if_pos c4]at H
   have fI:=decide_eq_true c4;have n7:decide (8000<aa.size)=true:=decide_eq_true (by omega);clear c4
   (first|rw[fI]|(simp only[dJ,dK];rw[fI])|skip)
   have H':=qa H;clear H;obtain⟨CX,CY,CZ,C6,C7,C8⟩:=z3 bg;go_wp2
   go_meet
   case rel=>exact⟨_,(true),zR,H',zL,zK bg,⟨zT HB⟩⟩
  ·rw[if_neg c4]at H
   have fI:=decide_eq_false c4;have n7:decide (8000<aa.size)=false:=decide_eq_false (by omega);clear c4
   (first|rw[fI]|(simp only[dJ,dK];rw[fI])|skip)
   have H':=qa H;clear H;obtain⟨uL,uM,xS,uN,uO,xT⟩:=z3 bg;go_wp2
   go_meet
   case rel=>exact⟨_,(decide ((aj.size:Int) > 8000)),zR,H',zL,zK bg,⟨zT HB⟩⟩
 case rest =>
  clear qO;try clear p2;try clear c4;try clear fI;try clear n7;try clear CX;try clear CY;try clear CZ;try clear uL;try clear uM;try clear xS;try clear C6;try clear C7;try clear C8;try clear uN;try clear uO;try clear xT
  obtain⟨kq,NQ,rfl,HA,BK,bg,HB⟩:=hcut;cases kq with
  | zero=>exact absurd HA.out (by simp[eY.j0])
  | succ V5 =>
   have H:=HA.out;clear HA;simp only[eY.j0]at H;by_cases c7:NQ=true
   ·subst c7
    rw[if_pos rfl]at H
    obtain rfl:=Option.some.inj H;go_wp2
    go_ret
    exact⟨zH,zT HB⟩
   ·replace c7:=Bool.eq_false_iff.mpr c7
    subst c7;rw[if_neg zn]at H
    have cg:=qa H;clear H;go_upto_region 3 with (fail)
    go_cut [30] (fun v30 wc=>∃ (kq:Nat) (NR:Bool),v30 = .bool NR∧aM (eY.j1 kq NR af aa aj=some r)∧aM (kq≤V5)∧aM (wc.heap[nL]?=some (.cells #[.bool af,.string aa,.string aj] 40 (0,0)))∧aM (Below w.heap.size w wc))
    case first =>
     have H:=cg.out;clear cg;obtain⟨t228,A9,H⟩:=zo H;by_cases c10:t228=0
     ·rw[if_pos c10]at H
      have nY:=beq_iff_eq.mpr c10;have Ay:=bne_eq_false_iff_eq.mpr c10;clear c10
      (first|rw[nY]|(simp only[dJ,dK];rw[nY])|skip)
      obtain⟨⟨t229,t230⟩,He,H⟩:=zo H;try dsimp only at H
      obtain⟨t231,A12,H⟩:=zo H;by_cases c13:t231=0
      ·rw[if_pos c13]at H
       have JH:=beq_iff_eq.mpr c13;have NK:=bne_eq_false_iff_eq.mpr c13;clear c13;have H':=qa H;clear H;obtain⟨IX,IY,RU,IZ,I0,RV⟩:=z3 bg;go_wp2_with (first|((with_reducible refine dB (f:=107) rfl ?_);refine zO Tryz.func107 (by kernel_rfl) (uC.calls af aa t228 _ A9.out) fun Pw hb=>?_;replace bg:=zB bg hb;replace HB:=zS HB hb;(try clear hb);obtain⟨z8,z_,FH,Aa,Ab,FJ⟩:=z3 bg)|(go_at_call 108;(with_reducible refine(jv.calls af aa aj t229 t230 _ He.out).mono ?_);rintro e PA ⟨rfl,hb⟩;replace bg:=zB bg hb;replace HB:=zS HB hb;(try clear hb))|(go_at_call 107;(with_reducible refine(uC.calls t229 t230 t231 _ A12.out).mono ?_);rintro e Lm ⟨rfl,hb⟩;replace bg:=zB bg hb;replace HB:=zS HB hb;(try clear hb);obtain⟨xL,xM,Cv,xN,xO,Cw⟩:=z3 bg))
       go_meet
       case rel=>exact⟨_,((aj.toList==([]:List UInt8))),zR,H',⟨by have:=BK.out;first|omega|exact Nat.le_refl _⟩,zK bg,⟨zT HB⟩⟩
      ·rw[if_neg c13]at H
       have JH:=beq_eq_false_iff_ne.mpr c13;have NK:=bne_iff_ne.mpr c13;have H':=qa H;clear H;obtain⟨FA,FB,FC,FD,FE,FF⟩:=z3 bg;go_wp2_with (first|((with_reducible refine dB (f:=107) rfl ?_);refine zO Tryz.func107 (by kernel_rfl) (uC.calls af aa t228 _ A9.out) fun ze hb=>?_;replace bg:=zB bg hb;replace HB:=zS HB hb;(try clear hb);obtain⟨II,IJ,IK,IL,IM,IP⟩:=z3 bg)|(go_at_call 108;(with_reducible refine(jv.calls af aa aj t229 t230 _ He.out).mono ?_);rintro e Es ⟨rfl,hb⟩;replace bg:=zB bg hb;replace HB:=zS HB hb;(try clear hb))|(go_at_call 107;(with_reducible refine(uC.calls t229 t230 t231 _ A12.out).mono ?_);rintro e zf ⟨rfl,hb⟩;replace bg:=zB bg hb;replace HB:=zS HB hb;(try clear hb)))
       go_meet
       case rel=>exact⟨_,(true),zR,H',⟨by have:=BK.out;first|omega|exact Nat.le_refl _⟩,zK bg,⟨zT HB⟩⟩
     ·rw[if_neg c10]at H
      have nY:=beq_eq_false_iff_ne.mpr c10;have Ay:=bne_iff_ne.mpr c10
      (first|rw[nY]|(simp only[dJ,dK];rw[nY])|skip)
      have H':=qa H;clear H;obtain⟨YZ,Y3,Y4,Y5,Y6,Y7⟩:=z3 bg;go_wp2_with (first|((with_reducible refine dB (f:=107) rfl ?_);refine zO Tryz.func107 (by kernel_rfl) (uC.calls af aa t228 _ A9.out) fun Lf hb=>?_;replace bg:=zB bg hb;replace HB:=zS HB hb;(try clear hb)))
      go_meet
      case rel=>exact⟨_,(true),zR,H',⟨by have:=BK.out;first|omega|exact Nat.le_refl _⟩,zK bg,⟨zT HB⟩⟩
    case rest =>
     clear cg;try clear c1;try clear p2;try clear c4;try clear fI;try clear n7;try clear c7;try clear c9;try clear c10;try clear nY;try clear Ay;try clear c13;try clear JH;try clear NK;try clear IX;try clear IY;try clear RU;try clear z8;try clear z_;try clear FH;try clear xL;try clear xM;try clear Cv;try clear FA;try clear FB;try clear FC;try clear II;try clear IJ;try clear IK;try clear YZ;try clear Y3;try clear Y4;try clear CX;try clear CY;try clear CZ;try clear uL;try clear uM;try clear xS;try clear IZ;try clear I0;try clear RV;try clear Aa;try clear Ab;try clear FJ;try clear xN;try clear xO;try clear Cw;try clear FD;try clear FE;try clear FF;try clear IL;try clear IM;try clear IP;try clear Y5;try clear Y6;try clear Y7;try clear C6;try clear C7;try clear C8;try clear uN;try clear uO;try clear xT;try clear p2
     obtain⟨kq,NR,rfl,HA,HJ7,bg,HB⟩:=hcut;cases kq with
     | zero=>exact absurd HA.out (by simp[eY.j1])
     | succ kj7 =>
      have H:=HA.out;clear HA;simp only[eY.j1]at H;by_cases PC:NR=true
      ·subst PC
       rw[if_pos rfl]at H
       obtain rfl:=Option.some.inj H;go_wp2
       go_ret
       exact⟨zH,zT HB⟩
      ·replace PC:=Bool.eq_false_iff.mpr PC
       subst PC;rw[if_neg zn]at H
       by_cases Ey:aj.toList=([1]:List UInt8)
       ·rw[if_pos Ey]at H
        have amg:=beq_iff_eq.mpr Ey;have amh:=bne_eq_false_iff_eq.mpr Ey;clear Ey;obtain rfl:=Option.some.inj H;obtain⟨RX,RY,RZ,R1,R4,R5⟩:=z3 bg;go_wp2
        go_ret
        exact⟨zH,zT HB⟩
       ·rw[if_neg Ey]at H
        have amg:=beq_eq_false_iff_ne.mpr Ey;have amh:=bne_iff_ne.mpr Ey;obtain⟨⟨t232,t233⟩,G9,H⟩:=zo H;try dsimp only at H
        obtain⟨⟨t234,t235,t236⟩,uo,H⟩:=zo H;try dsimp only at H
        by_cases Ez:t235.toList=([1]:List UInt8)
        ·rw[if_pos Ez]at H
         have ami:=beq_iff_eq.mpr Ez;have amj:=bne_eq_false_iff_eq.mpr Ez;clear Ez;obtain rfl:=Option.some.inj H;obtain⟨Y8,Y9,Y_,Za,Zb,Zc⟩:=z3 bg;try go_wp2
         replace bg:=zD bg;replace HB:=zF HB;refine l_ (n:=11) (S:=fun w'=>w'.cell? ⟨nL,0,none⟩=some (.bool af)∧w'.cell? ⟨nL,1,none⟩=some (.string aa)∧w'.cell? ⟨nL,2,none⟩=some (.string aj)) (ds:=[]) (zb 11 0) (by kernel_rfl) rfl rfl ⟨zc bg 0,zc bg 1,zc bg 2⟩ (fun hHeld=>?_);refine nC eY.Gx eY.F7 (fun av bH=>?_);generalize wc.drew=VX at bg HB hHeld ⊢;refine zU (i:=0) (N:=some 35) (zb 11 1) (a_ av.out (by kernel_rfl)) ?_;refine zV (i:=1) (N:=some 36) (zb 11 3) (bV av.out bH.out (by kernel_rfl)) hHeld ?_;refine zV (i:=2) (N:=some 37) (zb 11 7) (bV av.out bH.out (by kernel_rfl)) hHeld ?_;refine lC (σ:=Nat) 2 (zb 11 511) (fun s_=>[(38,.agg #[.bool t232,.string t233]),(39,.tuple #[.agg #[.bool t234,.string t235],.int .i64 t236]),(3,.pointer (some ⟨s_,0,none⟩)),(34,.tuple #[.agg #[.bool t234,.string t235],.int .i64 t236]),(40,.agg #[.bool t234,.string t235]),(41,.int .i64 t236)]) (fun s_ w'=>(w'.cell? ⟨nL,0,none⟩=some (.bool af)∧w'.cell? ⟨nL,1,none⟩=some (.string aa)∧w'.cell? ⟨nL,2,none⟩=some (.string aj))∧(w'.heap[nL]?=some (.cells #[.bool af,.string aa,.string aj] 40 (0,0)))∧(w'.heap[s_]?=some (.cells #[.bool false,.string ⟨#[]⟩] 38 (0,0)))∧(w.heap.size≤s_)∧(w.heap.size≤s_)∧(nL≠s_)∧(s_≠nL)∧(Below w.heap.size w w')) ?_ ?_;rotate_left
         ·intro De
          refine rI (i:=3) (j:=8) (Ni:=some 38) (Nj:=some 3) (zb 11 15) (zb 11 263) rfl rfl rfl rfl (rB av.out (by kernel_rfl)) (by decide) (by decide) (fun K hK=>?_) (fun K hK=>?_)
          ·skip
           refine zJ Tryz.func108 (by kernel_rfl) (jv.calls af aa aj t232 t233 _ G9.out) fun BD hb=>?_;replace bg:=zB bg hb;replace HB:=zS HB hb
           (try clear hb)
           refine hK.out _ _ ⟨zc bg 0,zc bg 1,zc bg 2⟩ (fun hHeld=>?_);clear hK K;refine zW (some 38) ?_;refine rI (i:=4) (j:=8) (Ni:=some 39) (Nj:=some 3) (zb 11 31) (zb 11 271) rfl rfl rfl rfl (rB av.out (by kernel_rfl)) (by decide) (by decide) (fun K hK=>?_) (fun K hK=>?_)
           ·skip
            refine zJ Tryz.func109 (by kernel_rfl) (rj.calls af aa t232 t233 t234 t235 t236 _ uo.out) fun uq hb=>?_;replace bg:=zB bg hb;replace HB:=zS HB hb
            (try clear hb)
            refine hK.out _ _ ⟨zc bg 0,zc bg 1,zc bg 2⟩ (fun hHeld=>?_);clear hK K;refine zW (some 39) ?_;refine zU (i:=5) (N:=some 34) (zb 11 63) (a_ av.out (by kernel_rfl)) ?_;refine zU (i:=6) (N:=some 40) (zb 11 127) (a_ av.out (by kernel_rfl)) ?_;refine zU (i:=7) (N:=some 41) (zb 11 255) (a_ av.out (by kernel_rfl)) ?_;refine bN (i:=8) (N:=some 3) (zb 11 511) rfl rfl (bS av.out (by kernel_rfl)) (by decide) (fun K hK=>?_);refine oB ?hg (N:=3) ?hd (cs:=#[.bool false,.string ⟨#[]⟩]) (t:=38) ?hr ?_;(case hd=>rfl);(case hg=>rfl);(case hr=>first|(go_simp;done)|(go_simp;rfl))
            intro jQ hg BF ah hb;have iu:=qa (ah);have sJ:=zG hg HB;have sL:=zG hg HB;obtain⟨jo,nW⟩:=zQ hg bg;replace bg:=zB bg hb;replace HB:=zS HB hb;clear hb ah hg;refine hK.out _ _ ⟨zc bg 0,zc bg 1,zc bg 2⟩ (fun hHeld=>?_);clear hK K;refine zW (some 3) ?_;exact je (by simp only[iq,Act.put,List.setIfInBounds_toArray,List.set_cons_zero,List.set_cons_succ]) (De (jQ) _ ⟨hHeld,(zK bg).out,(zK iu).out,sJ.out,sL.out,jo.out,nW.out,(zT HB)⟩)
           ·skip
            refine oB ?hg (N:=3) ?hd (cs:=#[.bool false,.string ⟨#[]⟩]) (t:=38) ?hr ?_;(case hd=>rfl);(case hg=>rfl);(case hr=>first|(go_simp;done)|(go_simp;rfl))
            intro jQ hg uq ah hb;have iu:=qa (ah);have sJ:=zG hg HB;have sL:=zG hg HB;obtain⟨jo,nW⟩:=zQ hg bg;replace bg:=zB bg hb;replace HB:=zS HB hb;clear hb ah hg;refine hK.out _ _ ⟨zc bg 0,zc bg 1,zc bg 2⟩ (fun hHeld=>?_);clear hK K;refine zW (some 3) ?_;refine bN (i:=4) (N:=some 39) (zb 11 287) rfl rfl (bS av.out (by kernel_rfl)) (by decide) (fun K hK=>?_);refine zJ Tryz.func109 (by kernel_rfl) (rj.calls af aa t232 t233 t234 t235 t236 _ uo.out) fun BF hb=>?_;obtain⟨bg,iu⟩:=fN bg iu hb;replace HB:=zS HB hb
            (try clear hb)
            refine hK.out _ _ ⟨zc bg 0,zc bg 1,zc bg 2⟩ (fun hHeld=>?_);clear hK K;refine zW (some 39) ?_;refine zU (i:=5) (N:=some 34) (zb 11 319) (a_ av.out (by kernel_rfl)) ?_;refine zU (i:=6) (N:=some 40) (zb 11 383) (a_ av.out (by kernel_rfl)) ?_;refine zU (i:=7) (N:=some 41) (zb 11 511) (a_ av.out (by kernel_rfl)) ?_;exact je (by simp only[iq,Act.put,List.setIfInBounds_toArray,List.set_cons_zero,List.set_cons_succ]) (De (jQ) _ ⟨hHeld,(zK bg).out,(zK iu).out,sJ.out,sL.out,jo.out,nW.out,(zT HB)⟩)
          ·skip
           refine oB ?hg (N:=3) ?hd (cs:=#[.bool false,.string ⟨#[]⟩]) (t:=38) ?hr ?_;(case hd=>rfl);(case hg=>rfl);(case hr=>first|(go_simp;done)|(go_simp;rfl))
           intro jQ hg BD ah hb;have iu:=qa (ah);have sJ:=zG hg HB;have sL:=zG hg HB;obtain⟨jo,nW⟩:=zQ hg bg;replace bg:=zB bg hb;replace HB:=zS HB hb;clear hb ah hg;refine hK.out _ _ ⟨zc bg 0,zc bg 1,zc bg 2⟩ (fun hHeld=>?_);clear hK K;refine zW (some 3) ?_;refine bN (i:=3) (N:=some 38) (zb 11 271) rfl rfl (bS av.out (by kernel_rfl)) (by decide) (fun K hK=>?_);refine zJ Tryz.func108 (by kernel_rfl) (jv.calls af aa aj t232 t233 _ G9.out) fun uq hb=>?_;obtain⟨bg,iu⟩:=fN bg iu hb;replace HB:=zS HB hb
           (try clear hb)
           refine hK.out _ _ ⟨zc bg 0,zc bg 1,zc bg 2⟩ (fun hHeld=>?_);clear hK K;refine zW (some 38) ?_;refine bN (i:=4) (N:=some 39) (zb 11 287) rfl rfl (bS av.out (by kernel_rfl)) (by decide) (fun K hK=>?_);refine zJ Tryz.func109 (by kernel_rfl) (rj.calls af aa t232 t233 t234 t235 t236 _ uo.out) fun BF hb=>?_;obtain⟨bg,iu⟩:=fN bg iu hb;replace HB:=zS HB hb
           (try clear hb)
           refine hK.out _ _ ⟨zc bg 0,zc bg 1,zc bg 2⟩ (fun hHeld=>?_);clear hK K;refine zW (some 39) ?_;refine zU (i:=5) (N:=some 34) (zb 11 319) (a_ av.out (by kernel_rfl)) ?_;refine zU (i:=6) (N:=some 40) (zb 11 383) (a_ av.out (by kernel_rfl)) ?_;refine zU (i:=7) (N:=some 41) (zb 11 511) (a_ av.out (by kernel_rfl)) ?_;exact je (by simp only[iq,Act.put,List.setIfInBounds_toArray,List.set_cons_zero,List.set_cons_succ]) (De (jQ) _ ⟨hHeld,(zK bg).out,(zK iu).out,sJ.out,sL.out,jo.out,nW.out,(zT HB)⟩)
         rintro jQ BG ⟨eU,cz,cA,cC,cD,gy,gA,gB⟩;replace bg:=qa cz;have iu:=qa cA;have sJ:=qa cC;have sL:=qa cD;have jo:=qa gy;have nW:=qa gA;replace HB:=qa gB;clear cz cA cC cD gy gA gB;have hHeld:=eU;refine je (a':=?_) ?_ ?_;rotate_left
         ·simp only[iq,Act.put,List.setIfInBounds_toArray,List.set_cons_zero,List.set_cons_succ]
          rfl
         refine bN (i:=9) (N:=none) (zb 11 1023) rfl rfl (bS av.out (by kernel_rfl)) (by decide) (fun K hK=>?_);have apm:BG.cell? ⟨jQ,0,none⟩=some (.bool false):=zc iu 0;have amk:=cF iu.out 0;have ah8:=jo.out;have ah9:=nW.out;have azK:BG.cell? ⟨jQ,1,none⟩=some (.string ⟨#[]⟩):=zc iu 1;have axB:=cF iu.out 1;have ark:=jo.out;have arl:=nW.out;refine rC (w1:=?_) (by rfl) rfl ?_ ?_;rotate_left
         ·go_simp
          rfl
         refine hK.out _ _ ⟨((cell_far (p:=⟨jQ,_,none⟩) jo.out _).trans (((cell_far (p:=⟨jQ,_,none⟩) jo.out _).trans (hHeld.1)))),((cell_far (p:=⟨jQ,_,none⟩) jo.out _).trans (((cell_far (p:=⟨jQ,_,none⟩) jo.out _).trans (hHeld.2.1)))),((cell_far (p:=⟨jQ,_,none⟩) jo.out _).trans (((cell_far (p:=⟨jQ,_,none⟩) jo.out _).trans (hHeld.2.2))))⟩ (fun hHeld=>?_);clear hK K;refine zU (i:=10) (N:=some 4) (zb 11 2047) (a_ av.out (by kernel_rfl)) ?_;refine mj (nE av.out (by kernel_rfl)) ?_;have abw:=nW.out;have abx:=jo.out;obtain⟨ah_,ah',aia,aib⟩:=z2 iu;try go_wp2
         go_ret
         exact⟨zH,zT HB⟩
        ·rw[if_neg Ez]at H
         have ami:=beq_eq_false_iff_ne.mpr Ez;have amj:=bne_iff_ne.mpr Ez;obtain rfl:=Option.some.inj H;obtain⟨aic,aid,aie,aif,aih,aii⟩:=z3 bg;try go_wp2
         replace bg:=zD bg;replace HB:=zF HB;refine l_ (n:=11) (S:=fun w'=>w'.cell? ⟨nL,0,none⟩=some (.bool af)∧w'.cell? ⟨nL,1,none⟩=some (.string aa)∧w'.cell? ⟨nL,2,none⟩=some (.string aj)) (ds:=[]) (zb 11 0) (by kernel_rfl) rfl rfl ⟨zc bg 0,zc bg 1,zc bg 2⟩ (fun hHeld=>?_);refine nC eY.Gx eY.F7 (fun av bH=>?_);generalize wc.drew=Lb at bg HB hHeld ⊢;refine zU (i:=0) (N:=some 35) (zb 11 1) (a_ av.out (by kernel_rfl)) ?_;refine zV (i:=1) (N:=some 36) (zb 11 3) (bV av.out bH.out (by kernel_rfl)) hHeld ?_;refine zV (i:=2) (N:=some 37) (zb 11 7) (bV av.out bH.out (by kernel_rfl)) hHeld ?_;refine lC (σ:=Nat) 2 (zb 11 511) (fun s_=>[(38,.agg #[.bool t232,.string t233]),(39,.tuple #[.agg #[.bool t234,.string t235],.int .i64 t236]),(3,.pointer (some ⟨s_,0,none⟩)),(34,.tuple #[.agg #[.bool t234,.string t235],.int .i64 t236]),(40,.agg #[.bool t234,.string t235]),(41,.int .i64 t236)]) (fun s_ w'=>(w'.cell? ⟨nL,0,none⟩=some (.bool af)∧w'.cell? ⟨nL,1,none⟩=some (.string aa)∧w'.cell? ⟨nL,2,none⟩=some (.string aj))∧(w'.heap[nL]?=some (.cells #[.bool af,.string aa,.string aj] 40 (0,0)))∧(w'.heap[s_]?=some (.cells #[.bool false,.string ⟨#[]⟩] 38 (0,0)))∧(w.heap.size≤s_)∧(w.heap.size≤s_)∧(nL≠s_)∧(s_≠nL)∧(Below w.heap.size w w')) ?_ ?_;rotate_left
         ·intro De
          refine rI (i:=3) (j:=8) (Ni:=some 38) (Nj:=some 3) (zb 11 15) (zb 11 263) rfl rfl rfl rfl (rB av.out (by kernel_rfl)) (by decide) (by decide) (fun K hK=>?_) (fun K hK=>?_)
          ·skip
           refine zJ Tryz.func108 (by kernel_rfl) (jv.calls af aa aj t232 t233 _ G9.out) fun BH hb=>?_;replace bg:=zB bg hb;replace HB:=zS HB hb
           (try clear hb)
           refine hK.out _ _ ⟨zc bg 0,zc bg 1,zc bg 2⟩ (fun hHeld=>?_);clear hK K;refine zW (some 38) ?_;refine rI (i:=4) (j:=8) (Ni:=some 39) (Nj:=some 3) (zb 11 31) (zb 11 271) rfl rfl rfl rfl (rB av.out (by kernel_rfl)) (by decide) (by decide) (fun K hK=>?_) (fun K hK=>?_)
           ·skip
            refine zJ Tryz.func109 (by kernel_rfl) (rj.calls af aa t232 t233 t234 t235 t236 _ uo.out) fun za hb=>?_;replace bg:=zB bg hb;replace HB:=zS HB hb
            (try clear hb)
            refine hK.out _ _ ⟨zc bg 0,zc bg 1,zc bg 2⟩ (fun hHeld=>?_);clear hK K;refine zW (some 39) ?_;refine zU (i:=5) (N:=some 34) (zb 11 63) (a_ av.out (by kernel_rfl)) ?_;refine zU (i:=6) (N:=some 40) (zb 11 127) (a_ av.out (by kernel_rfl)) ?_;refine zU (i:=7) (N:=some 41) (zb 11 255) (a_ av.out (by kernel_rfl)) ?_;refine bN (i:=8) (N:=some 3) (zb 11 511) rfl rfl (bS av.out (by kernel_rfl)) (by decide) (fun K hK=>?_);refine oB ?hg (N:=3) ?hd (cs:=#[.bool false,.string ⟨#[]⟩]) (t:=38) ?hr ?_;(case hd=>rfl);(case hg=>rfl);(case hr=>first|(go_simp;done)|(go_simp;rfl))
            intro jQ hg BI ah hb;have iu:=qa (ah);have sJ:=zG hg HB;have sL:=zG hg HB;obtain⟨jo,nW⟩:=zQ hg bg;replace bg:=zB bg hb;replace HB:=zS HB hb;clear hb ah hg;refine hK.out _ _ ⟨zc bg 0,zc bg 1,zc bg 2⟩ (fun hHeld=>?_);clear hK K;refine zW (some 3) ?_;exact je (by simp only[iq,Act.put,List.setIfInBounds_toArray,List.set_cons_zero,List.set_cons_succ]) (De (jQ) _ ⟨hHeld,(zK bg).out,(zK iu).out,sJ.out,sL.out,jo.out,nW.out,(zT HB)⟩)
           ·skip
            refine oB ?hg (N:=3) ?hd (cs:=#[.bool false,.string ⟨#[]⟩]) (t:=38) ?hr ?_;(case hd=>rfl);(case hg=>rfl);(case hr=>first|(go_simp;done)|(go_simp;rfl))
            intro jQ hg za ah hb;have iu:=qa (ah);have sJ:=zG hg HB;have sL:=zG hg HB;obtain⟨jo,nW⟩:=zQ hg bg;replace bg:=zB bg hb;replace HB:=zS HB hb;clear hb ah hg;refine hK.out _ _ ⟨zc bg 0,zc bg 1,zc bg 2⟩ (fun hHeld=>?_);clear hK K;refine zW (some 3) ?_;refine bN (i:=4) (N:=some 39) (zb 11 287) rfl rfl (bS av.out (by kernel_rfl)) (by decide) (fun K hK=>?_);refine zJ Tryz.func109 (by kernel_rfl) (rj.calls af aa t232 t233 t234 t235 t236 _ uo.out) fun BI hb=>?_;obtain⟨bg,iu⟩:=fN bg iu hb;replace HB:=zS HB hb
            (try clear hb)
            refine hK.out _ _ ⟨zc bg 0,zc bg 1,zc bg 2⟩ (fun hHeld=>?_);clear hK K;refine zW (some 39) ?_;refine zU (i:=5) (N:=some 34) (zb 11 319) (a_ av.out (by kernel_rfl)) ?_;refine zU (i:=6) (N:=some 40) (zb 11 383) (a_ av.out (by kernel_rfl)) ?_;refine zU (i:=7) (N:=some 41) (zb 11 511) (a_ av.out (by kernel_rfl)) ?_;exact je (by simp only[iq,Act.put,List.setIfInBounds_toArray,List.set_cons_zero,List.set_cons_succ]) (De (jQ) _ ⟨hHeld,(zK bg).out,(zK iu).out,sJ.out,sL.out,jo.out,nW.out,(zT HB)⟩)
          ·skip
           refine oB ?hg (N:=3) ?hd (cs:=#[.bool false,.string ⟨#[]⟩]) (t:=38) ?hr ?_;(case hd=>rfl);(case hg=>rfl);(case hr=>first|(go_simp;done)|(go_simp;rfl))
           intro jQ hg BH ah hb;have iu:=qa (ah);have sJ:=zG hg HB;have sL:=zG hg HB;obtain⟨jo,nW⟩:=zQ hg bg;replace bg:=zB bg hb;replace HB:=zS HB hb;clear hb ah hg;refine hK.out _ _ ⟨zc bg 0,zc bg 1,zc bg 2⟩ (fun hHeld=>?_);clear hK K;refine zW (some 3) ?_;refine bN (i:=3) (N:=some 38) (zb 11 271) rfl rfl (bS av.out (by kernel_rfl)) (by decide) (fun K hK=>?_);refine zJ Tryz.func108 (by kernel_rfl) (jv.calls af aa aj t232 t233 _ G9.out) fun za hb=>?_;obtain⟨bg,iu⟩:=fN bg iu hb;replace HB:=zS HB hb
           (try clear hb)
           refine hK.out _ _ ⟨zc bg 0,zc bg 1,zc bg 2⟩ (fun hHeld=>?_);clear hK K;refine zW (some 38) ?_;refine bN (i:=4) (N:=some 39) (zb 11 287) rfl rfl (bS av.out (by kernel_rfl)) (by decide) (fun K hK=>?_);refine zJ Tryz.func109 (by kernel_rfl) (rj.calls af aa t232 t233 t234 t235 t236 _ uo.out) fun BI hb=>?_;obtain⟨bg,iu⟩:=fN bg iu hb;replace HB:=zS HB hb
           (try clear hb)
           refine hK.out _ _ ⟨zc bg 0,zc bg 1,zc bg 2⟩ (fun hHeld=>?_);clear hK K;refine zW (some 39) ?_;refine zU (i:=5) (N:=some 34) (zb 11 319) (a_ av.out (by kernel_rfl)) ?_;refine zU (i:=6) (N:=some 40) (zb 11 383) (a_ av.out (by kernel_rfl)) ?_;refine zU (i:=7) (N:=some 41) (zb 11 511) (a_ av.out (by kernel_rfl)) ?_;exact je (by simp only[iq,Act.put,List.setIfInBounds_toArray,List.set_cons_zero,List.set_cons_succ]) (De (jQ) _ ⟨hHeld,(zK bg).out,(zK iu).out,sJ.out,sL.out,jo.out,nW.out,(zT HB)⟩)
         rintro jQ BJ ⟨eU,cz,cA,cC,cD,gy,gA,gB⟩;replace bg:=qa cz;have iu:=qa cA;have sJ:=qa cC;have sL:=qa cD;have jo:=qa gy;have nW:=qa gA;replace HB:=qa gB;clear cz cA cC cD gy gA gB;have hHeld:=eU;refine je (a':=?_) ?_ ?_;rotate_left
         ·simp only[iq,Act.put,List.setIfInBounds_toArray,List.set_cons_zero,List.set_cons_succ]
          rfl
         refine bN (i:=9) (N:=none) (zb 11 1023) rfl rfl (bS av.out (by kernel_rfl)) (by decide) (fun K hK=>?_);have azL:BJ.cell? ⟨jQ,0,none⟩=some (.bool false):=zc iu 0;have axC:=cF iu.out 0;have arn:=jo.out;have aro:=nW.out;have adg:BJ.cell? ⟨jQ,1,none⟩=some (.string ⟨#[]⟩):=zc iu 1;have abf:=cF iu.out 1;have YL:=jo.out;have YM:=nW.out;refine rC (w1:=?_) (by rfl) rfl ?_ ?_;rotate_left
         ·go_simp
          rfl
         refine hK.out _ _ ⟨((cell_far (p:=⟨jQ,_,none⟩) jo.out _).trans (((cell_far (p:=⟨jQ,_,none⟩) jo.out _).trans (hHeld.1)))),((cell_far (p:=⟨jQ,_,none⟩) jo.out _).trans (((cell_far (p:=⟨jQ,_,none⟩) jo.out _).trans (hHeld.2.1)))),((cell_far (p:=⟨jQ,_,none⟩) jo.out _).trans (((cell_far (p:=⟨jQ,_,none⟩) jo.out _).trans (hHeld.2.2))))⟩ (fun hHeld=>?_);clear hK K;refine zU (i:=10) (N:=some 4) (zb 11 2047) (a_ av.out (by kernel_rfl)) ?_;refine mj (nE av.out (by kernel_rfl)) ?_;have aml:=nW.out;have amm:=jo.out;obtain⟨arp,arq,ars,art⟩:=z2 iu;try go_wp2
         go_ret
         exact⟨zH,zT HB⟩
end Go.Proofs.aC.R
