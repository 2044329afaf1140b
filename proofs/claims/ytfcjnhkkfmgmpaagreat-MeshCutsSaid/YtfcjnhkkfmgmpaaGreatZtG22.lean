import Derived.Test.YtfcjnhkkfmgmpaaGreatZtG21
import Derived.Test.YtfcjnhkkfmgmpaaGreatZtG30
set_option linter.all false
set_option maxRecDepth 100000
set_option maxHeartbeats 8000000
namespace Go.Proofs.aA.R
open Go.RowKit Go.Proofs.aA.Z Go.Proofs.aB.aZ Go.Proofs.aB.bT Go.Proofs.aB.bX
attribute [local go_sem] cm ct cz cA cj ck cu cw
def mE.f (k:Nat) (af:Bool) (aa aj:ByteArray) (aI:Bool) (aJ aK:ByteArray) (aq:Bool) (ak au:ByteArray) (aL:Bool) (aM aN:ByteArray) (aV:Bool) (aW aX:ByteArray) (bC:Bool) (bD bE:ByteArray):Option (Int):=(lC.f k aq ak au aL aM aN af aa aj aI aJ aK).bind fun I_=>((lC.f k aV aW aX bC bD bE af aa aj aI aJ aK).bind fun Ja=>((qO.f k I_.1 I_.2.1 I_.2.2.1 I_.2.2.2.1 I_.2.2.2.2.1 I_.2.2.2.2.2 Ja.1 Ja.2.1 Ja.2.2.1 Ja.2.2.2.1 Ja.2.2.2.2.1 Ja.2.2.2.2.2).bind fun WL=>((Aj.f WL.1 WL.2.1 WL.2.2).bind fun t218=>(some t218))))
def mE.T1:Bool × List (List Nat × List Nat):=(true,[([],[]),([],[]),([0,1],[0,1]),([],[]),([],[]),([3,4,2],[3,4]),([2,5,5],[2,5]),([6,6],[6]),([7,7,0,1,2,3,4,5,6,7],[7])])
def mE.B1:List Nat:=[0,0,3,0,0,31,63,127,255]
theorem mE.vv:ia .any (opsOf Tryz.f34 1)=mE.T1:=by kernel_rfl
theorem mE.uU:nh mE.T1.2 mE.B1=true:=by kernel_rfl
theorem mE.calls (k:Nat) (af:Bool) (aa aj:ByteArray) (aI:Bool) (aJ aK:ByteArray) (aq:Bool) (ak au:ByteArray) (aL:Bool) (aM aN:ByteArray) (aV:Bool) (aW aX:ByteArray) (bC:Bool) (bD bE:ByteArray) (r:Int) (w:World) (h:mE.f k af aa aj aI aJ aK aq ak au aL aM aN aV aW aX bC bD bE=some r) :
  Calls Tryz.prog 34 #[.agg #[.bool af,.string aa,.string aj,.bool aI,.string aJ,.string aK],.agg #[.bool aq,.string ak,.string au,.bool aL,.string aM,.string aN],.agg #[.bool aV,.string aW,.string aX,.bool bC,.string bD,.string bE]] w fun e w'=>e = .returned (.int .i64 r)/\Below w.heap.size w w':=by
 have mq:=Tryz.underlying42;have HB:=qa (Below.refl w.heap.size w);unfold mE.f at h;have H:=h;clear h;obtain⟨⟨t203,t204,t205,t206,t207,t208⟩,A4,H⟩:=zo H;try dsimp only at H
 obtain⟨⟨t209,t210,t211,t212,t213,t214⟩,A5,H⟩:=zo H;try dsimp only at H
 obtain⟨⟨t215,t216,t217⟩,A6,H⟩:=zo H;try dsimp only at H
 obtain⟨t218,A7,H⟩:=zo H;obtain rfl:=Option.some.inj H;go_enter Tryz.func34,Tryz.ntmps34;try go_wp2_with (first|((with_reducible refine aR (N:=3) rfl ?_);refine zY 3 #[.bool af,.string aa,.string aj,.bool aI,.string aJ,.string aK] 42 ?_;intro Jb hg w8 ah hb;have eX:=qa (ah);have azG:=zG hg HB;have azH:=zG hg HB;replace HB:=zS HB hb;clear hb ah hg)|((with_reducible refine aR (N:=4) rfl ?_);refine zY 4 #[.bool aq,.string ak,.string au,.bool aL,.string aM,.string aN] 42 ?_;intro Jc hg w9 ah hb;have fN:=qa (ah);have azI:=zG hg HB;have azJ:=zG hg HB;obtain⟨avq,avr⟩:=zQ hg eX;replace eX:=zB eX hb;replace HB:=zS HB hb;clear hb ah hg)|((with_reducible refine aR (N:=5) rfl ?_);refine zY 5 #[.bool aV,.string aW,.string aX,.bool bC,.string bD,.string bE] 42 ?_;intro Jd hg gI ah hb;have gM:=qa (ah);have azK:=zG hg HB;have azL:=zG hg HB;obtain⟨avs,avt⟩:=zQ hg eX;obtain⟨avu,avv⟩:=zQ hg fN;obtain⟨eX,fN⟩:=eo eX fN hb;replace HB:=zS HB hb;clear hb ah hg))
 replace eX:=zD eX;replace fN:=zD fN;replace gM:=zD gM;replace HB:=zF HB;refine mg (n:=9) (S:=fun w'=>w'.cell? ⟨Jc,0,none⟩=some (.bool aq)/\w'.cell? ⟨Jc,1,none⟩=some (.string ak)/\w'.cell? ⟨Jc,2,none⟩=some (.string au)/\w'.cell? ⟨Jc,3,none⟩=some (.bool aL)/\w'.cell? ⟨Jc,4,none⟩=some (.string aM)/\w'.cell? ⟨Jc,5,none⟩=some (.string aN)/\w'.cell? ⟨Jb,0,none⟩=some (.bool af)/\w'.cell? ⟨Jb,1,none⟩=some (.string aa)/\w'.cell? ⟨Jb,2,none⟩=some (.string aj)/\w'.cell? ⟨Jb,3,none⟩=some (.bool aI)/\w'.cell? ⟨Jb,4,none⟩=some (.string aJ)/\w'.cell? ⟨Jb,5,none⟩=some (.string aK)/\w'.cell? ⟨Jd,0,none⟩=some (.bool aV)/\w'.cell? ⟨Jd,1,none⟩=some (.string aW)/\w'.cell? ⟨Jd,2,none⟩=some (.string aX)/\w'.cell? ⟨Jd,3,none⟩=some (.bool bC)/\w'.cell? ⟨Jd,4,none⟩=some (.string bD)/\w'.cell? ⟨Jd,5,none⟩=some (.string bE)) (ds:=[]) (zb 9 0) qk rfl rfl ⟨zc fN 0,zc fN 1,zc fN 2,zc fN 3,zc fN 4,zc fN 5,zc eX 0,zc eX 1,zc eX 2,zc eX 3,zc eX 4,zc eX 5,zc gM 0,zc gM 1,zc gM 2,zc gM 3,zc gM 4,zc gM 5⟩ (fun hHeld=>?_);refine mZ mE.vv mE.uU (fun av bN=>?_);generalize gI.drew=lV at eX fN gM HB hHeld ⊢;refine zV (i:=0) (N:=some 7) (zb 9 1) (cg av.out bN.out qk) hHeld ?_;refine zV (i:=1) (N:=some 8) (zb 9 3) (cg av.out bN.out qk) hHeld ?_;refine zV (i:=3) (N:=some 10) (zb 9 11) (cg av.out bN.out qk) hHeld ?_;refine zV (i:=4) (N:=some 11) (zb 9 27) (cg av.out bN.out qk) hHeld ?_;refine bM (i:=2) (N:=some 9) (zb 9 31) rfl rfl (bO av.out qk) qd (fun K hK=>?_);refine zJ Tryz.func55 qk (lC.calls k aq ak au aL aM aN af aa aj aI aJ aK t203 t204 t205 t206 t207 t208 _ A4.out) fun gh hb=>?_;obtain⟨eX,fN,gM⟩:=bB eX fN gM hb;replace HB:=zS HB hb
 (try clear hb)
 refine hK.out _ _ ⟨zc fN 0,zc fN 1,zc fN 2,zc fN 3,zc fN 4,zc fN 5,zc eX 0,zc eX 1,zc eX 2,zc eX 3,zc eX 4,zc eX 5,zc gM 0,zc gM 1,zc gM 2,zc gM 3,zc gM 4,zc gM 5⟩ (fun hHeld=>?_);clear hK K;refine zW (some 9) ?_;refine bM (i:=5) (N:=some 12) (zb 9 63) rfl rfl (bO av.out qk) qd (fun K hK=>?_);refine zJ Tryz.func55 qk (lC.calls k aV aW aX bC bD bE af aa aj aI aJ aK t209 t210 t211 t212 t213 t214 _ A5.out) fun oP hb=>?_;obtain⟨eX,fN,gM⟩:=bB eX fN gM hb;replace HB:=zS HB hb
 (try clear hb)
 refine hK.out _ _ ⟨zc fN 0,zc fN 1,zc fN 2,zc fN 3,zc fN 4,zc fN 5,zc eX 0,zc eX 1,zc eX 2,zc eX 3,zc eX 4,zc eX 5,zc gM 0,zc gM 1,zc gM 2,zc gM 3,zc gM 4,zc gM 5⟩ (fun hHeld=>?_);clear hK K;refine zW (some 12) ?_;refine bM (i:=6) (N:=some 13) (zb 9 127) rfl rfl (bO av.out qk) qd (fun K hK=>?_);refine zJ Tryz.func54 qk (qO.calls k t203 t204 t205 t206 t207 t208 t209 t210 t211 t212 t213 t214 t215 t216 t217 _ A6.out) fun iq hb=>?_;obtain⟨eX,fN,gM⟩:=bB eX fN gM hb;replace HB:=zS HB hb
 (try clear hb)
 refine hK.out _ _ ⟨zc fN 0,zc fN 1,zc fN 2,zc fN 3,zc fN 4,zc fN 5,zc eX 0,zc eX 1,zc eX 2,zc eX 3,zc eX 4,zc eX 5,zc gM 0,zc gM 1,zc gM 2,zc gM 3,zc gM 4,zc gM 5⟩ (fun hHeld=>?_);clear hK K;refine zW (some 13) ?_;refine bM (i:=7) (N:=some 14) (zb 9 255) rfl rfl (bO av.out qk) qd (fun K hK=>?_);refine zJ Tryz.func53 qk (Aj.calls t215 t216 t217 t218 _ A7.out) fun tH hb=>?_;obtain⟨eX,fN,gM⟩:=bB eX fN gM hb;replace HB:=zS HB hb
 (try clear hb)
 refine hK.out _ _ ⟨zc fN 0,zc fN 1,zc fN 2,zc fN 3,zc fN 4,zc fN 5,zc eX 0,zc eX 1,zc eX 2,zc eX 3,zc eX 4,zc eX 5,zc gM 0,zc gM 1,zc gM 2,zc gM 3,zc gM 4,zc gM 5⟩ (fun hHeld=>?_);clear hK K;refine zW (some 14) ?_;refine zU (i:=8) (N:=some 6) (zb 9 511) (bf av.out qk) ?_;refine mh (ng av.out qk) ?_;try go_wp2
 go_ret
 exact⟨zH,zT HB⟩
def Ey.f (k:Nat) (af:Bool) (aa aj:ByteArray):Option (Int × Int):=(fA.f k af aa aj).bind fun Dn=>(if Dn=0 then (if af=true then (some ((-1),0)) else (if aa.toList=([]:List UInt8) then (some (0,0)) else (some (1,0)))) else (some (0,Dn)))
theorem Ey.calls (k:Nat) (af:Bool) (aa aj:ByteArray) (r1 r2:Int) (w:World) (h:Ey.f k af aa aj=some (r1,r2)) :
  Calls Tryz.prog 80 #[.agg #[.bool af,.string aa,.string aj]] w fun e w'=>e = .returned (.tuple #[.int .i64 r1,.int .i64 r2])/\Below w.heap.size w w':=by
 have ji:=Tryz.underlying40;have HB:=qa (Below.refl w.heap.size w);unfold Ey.f at h;have H:=h;clear h;obtain⟨Dn,A2,H⟩:=zo H;by_cases c3:Dn=0
 ·rw[if_pos c3]at H
  have vw:=beq_iff_eq.mpr c3;have Gc:=bne_eq_false_iff_eq.mpr c3;clear c3;by_cases c4:af=true
  ·subst c4
   rw[if_pos rfl]at H
   simp only[Option.some.injEq,Prod.mk.injEq]at H;obtain⟨rfl,rfl⟩:=H;go_enter Tryz.func80,Tryz.ntmps80;go_wp2_with (first|((with_reducible refine aR (N:=1) rfl ?_);refine zY 1 #[.bool true,.string aa,.string aj] 40 ?_;intro WT hg w5 ah hb;have pV:=qa (ah);have WU:=zG hg HB;have WV:=zG hg HB;replace HB:=zS HB hb;clear hb ah hg;obtain⟨xu,xw,AJ,xx,xy,AK⟩:=z3 pV)|((with_reducible refine cU (f:=95) rfl ?_);refine zO Tryz.func95 qk (fA.calls k true aa aj Dn _ A2.out) fun w7 hb=>?_;replace pV:=zB pV hb;replace HB:=zS HB hb;(try clear hb);obtain⟨Qj,Qk,Ql,Qm,Qn,Qo⟩:=z3 pV))
   go_ret2
   exact⟨zH,zT HB⟩
  ·replace c4:=Bool.eq_false_iff.mpr c4
   subst c4;rw[if_neg zn]at H
   by_cases c9:aa.toList=([]:List UInt8)
   ·rw[if_pos c9]at H
    have Rz:=beq_iff_eq.mpr c9;have RB:=bne_eq_false_iff_eq.mpr c9;clear c9;simp only[Option.some.injEq,Prod.mk.injEq]at H;obtain⟨rfl,rfl⟩:=H;go_enter Tryz.func80,Tryz.ntmps80;go_wp2_with (first|((with_reducible refine aR (N:=1) rfl ?_);refine zY 1 #[.bool false,.string aa,.string aj] 40 ?_;intro WT hg gI ah hb;have pV:=qa (ah);have WU:=zG hg HB;have WV:=zG hg HB;replace HB:=zS HB hb;clear hb ah hg;obtain⟨tV,tW,tX,tY,tZ,t_⟩:=z3 pV)|((with_reducible refine cU (f:=95) rfl ?_);refine zO Tryz.func95 qk (fA.calls k false aa aj Dn _ A2.out) fun gh hb=>?_;replace pV:=zB pV hb;replace HB:=zS HB hb;(try clear hb);obtain⟨EY,EZ,E6,E7,E8,E9⟩:=z3 pV))
    go_ret2
    exact⟨zH,zT HB⟩
   ·rw[if_neg c9]at H
    have Rz:=beq_eq_false_iff_ne.mpr c9;have RB:=bne_iff_ne.mpr c9;simp only[Option.some.injEq,Prod.mk.injEq]at H;obtain⟨rfl,rfl⟩:=H;go_enter Tryz.func80,Tryz.ntmps80;go_wp2_with (first|((with_reducible refine aR (N:=1) rfl ?_);refine zY 1 #[.bool false,.string aa,.string aj] 40 ?_;intro WT hg iq ah hb;have pV:=qa (ah);have WU:=zG hg HB;have WV:=zG hg HB;replace HB:=zS HB hb;clear hb ah hg;obtain⟨Ax,Ay,Az,AA,AB,AD⟩:=z3 pV)|((with_reducible refine cU (f:=95) rfl ?_);refine zO Tryz.func95 qk (fA.calls k false aa aj Dn _ A2.out) fun wQ hb=>?_;replace pV:=zB pV hb;replace HB:=zS HB hb;(try clear hb);obtain⟨Ln,Lo,Lp,Lr,Ls,Lt⟩:=z3 pV))
    go_ret2
    exact⟨zH,zT HB⟩
 ·rw[if_neg c3]at H
  have vw:=beq_eq_false_iff_ne.mpr c3;have Gc:=bne_iff_ne.mpr c3;simp only[Option.some.injEq,Prod.mk.injEq]at H;obtain⟨rfl,rfl⟩:=H;go_enter Tryz.func80,Tryz.ntmps80;go_wp2_with (first|((with_reducible refine aR (N:=1) rfl ?_);refine zY 1 #[.bool af,.string aa,.string aj] 40 ?_;intro WT hg vL ah hb;have pV:=qa (ah);have WU:=zG hg HB;have WV:=zG hg HB;replace HB:=zS HB hb;clear hb ah hg;obtain⟨xk,xm,AF,xp,xq,AG⟩:=z3 pV)|((with_reducible refine cU (f:=95) rfl ?_);refine zO Tryz.func95 qk (fA.calls k af aa aj Dn _ A2.out) fun wR hb=>?_;replace pV:=zB pV hb;replace HB:=zS HB hb;(try clear hb)))
  go_ret2
  exact⟨zH,zT HB⟩
open Go.Proofs.YtfcjnhkkfmgmpaaGreat Go.Proofs.YtfcjnhkkfmgmpaaGreat.aS in
def En.f (af:Bool) (aa:ByteArray) (aq:Bool) (ak:ByteArray):Option (Bool × ByteArray):=(tS.f af aa aq ak).map fun r=>(r.1,r.2.1)
open Go.Proofs.YtfcjnhkkfmgmpaaGreat Go.Proofs.YtfcjnhkkfmgmpaaGreat.aS in
theorem En.calls (af:Bool) (aa:ByteArray) (aq:Bool) (ak:ByteArray) (r1:Bool) (r2:ByteArray) (w:World) (h:En.f af aa aq ak=some (r1,r2)) :
  Calls Tryz.prog 122 #[.func (.func 109) #[] #[],.agg #[.bool af,.string aa],.agg #[.bool aq,.string ak]] w fun e w'=>e = .returned (.agg #[.bool r1,.string r2])/\Below w.heap.size w w':=by
 unfold En.f at h;obtain⟨⟨x1,x2,x3⟩,hx,he⟩:=Option.map_eq_some_iff.1 h;simp only[Prod.mk.injEq]at he;obtain⟨rfl,rfl⟩:=he;exact apD _ _ _ _ _ _ _ (qh fun w=>tS.calls _ _ _ _ _ _ _ w hx) w
def oU.j0:Nat->Bool->ByteArray->Bool->ByteArray->Option (Bool × ByteArray × ByteArray)
 | 0,_,_,_,_=>none
 | k+1,VH,VI,acf,VJ=>(En.f VH VI acf VJ).bind fun Me=>(if Me.2.toList=([1]:List UInt8) then (some (VH,VI,VJ)) else ((Aq.f VH VI Me.1 Me.2).bind fun afg=>((Aq.f acf VJ Me.1 Me.2).bind fun aq8=>(some (afg.1,afg.2.1,aq8.2.1)))))
def oU.f (k:Nat) (af:Bool) (aa:ByteArray) (aq:Bool) (ak:ByteArray):Option (Bool × ByteArray × ByteArray):=if aq=true then (if af=true then (oU.j0 k false aa false ak) else (oU.j0 k (aa.toList != ([]:List UInt8)) aa false ak)) else (oU.j0 k af aa aq ak)
theorem oU.calls (k:Nat) (af:Bool) (aa:ByteArray) (aq:Bool) (ak:ByteArray) (r1:Bool) (r2 r3:ByteArray) (w:World) (h:oU.f k af aa aq ak=some (r1,r2,r3)) :
  Calls Tryz.prog 121 #[.agg #[.bool af,.string aa],.agg #[.bool aq,.string ak]] w fun e w'=>e = .returned (.agg #[.bool r1,.string r2,.string r3])/\Below w.heap.size w w':=by
 have Be:=Tryz.underlying38;have xW:=ze;have BJ:=zf;have hf2:=zg;have hf3:=zh;have ji:=Tryz.underlying40;have HB:=qa (Below.refl w.heap.size w);unfold oU.f at h;have H:=h;clear h;have oM:=qa H;clear H;go_enter Tryz.func121,Tryz.ntmps121;go_upto_if 7 with (first|((with_reducible refine aR (N:=2) rfl ?_);refine zY 2 #[.bool af,.string aa] 38 ?_;intro afh hg w4 ah hb;have jC:=qa (ah);have az':=zG hg HB;have aAa:=zG hg HB;replace HB:=zS HB hb;clear hb ah hg)|((with_reducible refine aR (N:=3) rfl ?_);refine zY 3 #[.bool aq,.string ak] 38 ?_;intro aq9 hg w5 ah hb;have ku:=qa (ah);have aAb:=zG hg HB;have aAc:=zG hg HB;obtain⟨KG,KH⟩:=zQ hg jC;replace jC:=zB jC hb;replace HB:=zS HB hb;clear hb ah hg)|((with_reducible refine aR (N:=4) rfl ?_);refine zY 4 #[.bool false,.string ⟨#[]⟩,.string ⟨#[]⟩] 40 ?_;intro WY hg w6 ah hb;have nA:=qa (ah);have aAd:=zG hg HB;have aAe:=zG hg HB;obtain⟨Ow,Ox⟩:=zQ hg jC;obtain⟨KI,KJ⟩:=zQ hg ku;obtain⟨jC,ku⟩:=eo jC ku hb;replace HB:=zS HB hb;clear hb ah hg;have JR:=KH.out;have JS:=KG.out;have zw:=KI.out;have zx:=KJ.out;obtain⟨yU,yV,yX,yY⟩:=z2 ku))
 (try simp only[Act.put,List.setIfInBounds_toArray,List.set_cons_zero,List.set_cons_succ])
 go_cut [] (fun wc=>∃ (kq:Nat) (Ew:Bool) (H_:Bool),aO (oU.j0 kq Ew aa H_ ak=some (r1,r2,r3))/\aO (kq<=k)/\aO (wc.heap[afh]?=some (.cells #[.bool Ew,.string aa] 38 (0,0)))/\aO (wc.heap[aq9]?=some (.cells #[.bool H_,.string ak] 38 (0,0)))/\aO (wc.heap[WY]?=some (.cells #[.bool false,.string ⟨#[]⟩,.string ⟨#[]⟩] 40 (0,0)))/\aO (Below w.heap.size w wc))
 case first =>
  have H:=oM.out;clear oM;by_cases c10:aq=true
  ·subst c10
   rw[if_pos rfl]at H
   by_cases c11:af=true
   ·subst c11
    rw[if_pos rfl]at H
    have H':=qa H;clear H;have afi:=KG.out;have afj:=KH.out;have C3:=Ow.out;have C4:=Ox.out;obtain⟨CK,CL,CN,CO⟩:=z2 jC;have FF:=KI.out;have FH:=KJ.out;obtain⟨EJ,EK,EL,EM⟩:=z2 ku;go_wp2
    go_meet
    case rel=>exact⟨_,(false),(false),H',zL,⟨Kx jC⟩,⟨Kx ku⟩,zK nA,⟨zT HB⟩⟩
   ·replace c11:=Bool.eq_false_iff.mpr c11
    subst c11;rw[if_neg zn]at H
    have H':=qa H;clear H;have WZ:=KG.out;have W8:=KH.out;have LZ:=Ow.out;have L4:=Ox.out;obtain⟨xk,xm,xp,xq⟩:=z2 jC;have Q3:=KI.out;have Q4:=KJ.out;obtain⟨II,IJ,IK,IL⟩:=z2 ku;go_wp2
    go_meet
    case rel=>exact⟨_,((aa.toList != ([]:List UInt8))),(false),H',zL,⟨Kx jC⟩,⟨Kx ku⟩,zK nA,⟨zT HB⟩⟩
  ·replace c10:=Bool.eq_false_iff.mpr c10
   subst c10;rw[if_neg zn]at H
   have H':=qa H;clear H;go_wp2
   go_meet
   case rel=>exact⟨_,(af),(false),H',zL,zK jC,zK ku,zK nA,⟨zT HB⟩⟩
 case rest =>
  clear oM;try clear c1;try clear c2;try clear p2;try clear c7;try clear c8;try clear c10;try clear c11;try clear c12;try clear c13;try clear c15;try clear c17;try clear c18;try clear c20;try clear CK;try clear CL;try clear EJ;try clear EK;try clear xk;try clear xm;try clear II;try clear IJ;try clear yU;try clear yV;try clear CN;try clear CO;try clear EL;try clear EM;try clear xp;try clear xq;try clear IK;try clear IL;try clear yX;try clear yY
  obtain⟨kq,Ew,H_,HA,BK,jC,ku,nA,HB⟩:=hcut;cases kq with
  | zero=>exact absurd HA.out (by simp[oU.j0])
  | succ J' =>
   have H:=HA.out;clear HA;simp only[oU.j0]at H;obtain⟨⟨MP,JT⟩,A22,H⟩:=zo H;try dsimp only at H
   by_cases Hg:JT.toList=([1]:List UInt8)
   ·rw[if_pos Hg]at H
    have aq_:=beq_iff_eq.mpr Hg;have aq':=bne_eq_false_iff_eq.mpr Hg;clear Hg;simp only[Option.some.injEq,Prod.mk.injEq]at H;obtain⟨rfl,rfl,rfl⟩:=H;have Q5:=KG.out;have Q6:=KH.out;have Mf:=Ow.out;have Mg:=Ox.out;obtain⟨Pc,Pd,Pe,Pf⟩:=z2 jC;have FN:=KI.out;have FO:=KJ.out;obtain⟨Lu,Lz,LA,LC⟩:=z2 ku;go_wp2_with (first|((with_reducible refine cU (f:=122) rfl ?_);refine zO Tryz.func122 qk (En.calls Ew aa H_ ak MP JT _ A22.out) fun SG hb=>?_;obtain⟨jC,ku,nA⟩:=bB jC ku nA hb;replace HB:=zS HB hb;(try clear hb))|((with_reducible refine aR (N:=5) rfl ?_);refine zY 5 #[.bool false,.string ⟨#[]⟩] 38 ?_;intro afk hg Kg ah hb;have C9:=qa (ah);have ara:=zG hg HB;have arb:=zG hg HB;obtain⟨TC,TD⟩:=zQ hg jC;obtain⟨TE,TF⟩:=zQ hg ku;obtain⟨TG,TH⟩:=zQ hg nA;obtain⟨jC,ku,nA⟩:=bB jC ku nA hb;replace HB:=zS HB hb;clear hb ah hg;have afl:=TD.out;have afm:=TC.out;have afn:=TF.out;have afo:=TE.out;have aAf:=TH.out;have aAg:=TG.out;obtain⟨amB,amC,amD,amE⟩:=z2 C9;obtain⟨acg,ach,aci,acj⟩:=z2 jC;obtain⟨awC,awD,awE,awF⟩:=z2 ku;obtain⟨amF,amG,amH,amI,amJ,amK⟩:=z3 nA))
    refine bodyPost_ret (results_cell_row rfl _ _ WY 40 #[.bool Ew,.string aa,.string ak] (0,0) _ rfl (Kx nA) Tryz.underlying40 rfl qk) rfl ?_;exact⟨zH,zT HB⟩
   ·rw[if_neg Hg]at H
    have aq_:=beq_eq_false_iff_ne.mpr Hg;have aq':=bne_iff_ne.mpr Hg;obtain⟨⟨Yf,Yg,auk,aul,aum⟩,ZJ,H⟩:=zo H;try dsimp only at H
    obtain⟨⟨aun,agQ,auo,aup,auq⟩,ZK,H⟩:=zo H;try dsimp only at H
    simp only[Option.some.injEq,Prod.mk.injEq]at H;obtain⟨rfl,rfl,rfl⟩:=H;have aAh:=KG.out;have aAi:=KH.out;have aqP:=Ow.out;have aqQ:=Ox.out;obtain⟨ami,amj,amk,aml⟩:=z2 jC;have aAj:=KI.out;have aAk:=KJ.out;obtain⟨awG,awH,awI,awJ⟩:=z2 ku;go_wp2_with (first|((with_reducible refine cU (f:=122) rfl ?_);refine zO Tryz.func122 qk (En.calls Ew aa H_ ak MP JT _ A22.out) fun D_ hb=>?_;obtain⟨jC,ku,nA⟩:=bB jC ku nA hb;replace HB:=zS HB hb;(try clear hb))|((with_reducible refine aR (N:=5) rfl ?_);refine zY 5 #[.bool false,.string ⟨#[]⟩] 38 ?_;intro afk hg BS ah hb;have C9:=qa (ah);have ara:=zG hg HB;have arb:=zG hg HB;obtain⟨TC,TD⟩:=zQ hg jC;obtain⟨TE,TF⟩:=zQ hg ku;obtain⟨TG,TH⟩:=zQ hg nA;obtain⟨jC,ku,nA⟩:=bB jC ku nA hb;replace HB:=zS HB hb;clear hb ah hg;have afp:=TD.out;have afq:=TC.out;have afr:=TF.out;have afs:=TE.out;have aAl:=TH.out;have aAm:=TG.out;obtain⟨awK,awL,awM,awN⟩:=z2 C9;obtain⟨awO,awP,awQ,awR⟩:=z2 jC)|((with_reducible refine cU (f:=137) rfl ?_);refine zO Tryz.func137 qk (Aq.calls Ew aa MP JT Yf Yg auk aul aum _ ZJ.out) fun w52 hb=>?_;obtain⟨jC,ku,nA⟩:=bB jC ku nA hb;replace C9:=qa (eW (g:=afk) (o := .cells #[.bool MP,.string JT] 38 (0,0)) (Kx C9) hb);replace HB:=zS HB hb;(try clear hb);obtain⟨ack,acm,acn,aco⟩:=z2 jC;obtain⟨awS,awT,awU,awV⟩:=z2 ku;obtain⟨awW,awX,awY,awZ⟩:=z2 C9)|((with_reducible refine cU (f:=137) rfl ?_);refine zO Tryz.func137 qk (Aq.calls H_ ak MP JT aun agQ auo aup auq _ ZK.out) fun w56 hb=>?_;replace jC:=qa (eW (g:=afh) (o := .cells #[.bool Yf,.string Yg] 38 (0,0)) (Kx jC) hb);obtain⟨ku,nA,C9⟩:=bB ku nA C9 hb;replace HB:=zS HB hb;(try clear hb);obtain⟨aw0,aw1,aw2,aw3⟩:=z2 ku;obtain⟨acp,acr,acs,acu⟩:=z2 jC;obtain⟨aw4,aw5,aw6,aw7,aw8,aw9⟩:=z3 nA))
    refine bodyPost_ret (results_cell_row rfl _ _ WY 40 #[.bool Yf,.string Yg,.string agQ] (0,0) _ rfl (Kx nA) Tryz.underlying40 rfl qk) rfl ?_;exact⟨zH,zT HB⟩
def wX.f (a0 a1:Int):Option (Bool × ByteArray × ByteArray × Bool × ByteArray × ByteArray):=(Ep.f a0).bind fun Xo=>((Ep.f a1).bind fun Xp=>(some (Xo.1,Xo.2.1,Xo.2.2,Xp.1,Xp.2.1,Xp.2.2)))
theorem wX.calls (a0 a1:Int) (r1:Bool) (r2 r3:ByteArray) (r4:Bool) (r5 r6:ByteArray) (w:World) (h:wX.f a0 a1=some (r1,r2,r3,r4,r5,r6)) :
  Calls Tryz.prog 45 #[.int .i64 a0,.int .i64 a1] w fun e w'=>e = .returned (.agg #[.bool r1,.string r2,.string r3,.bool r4,.string r5,.string r6])/\Below w.heap.size w w':=by
 have mq:=Tryz.underlying42;have HB:=qa (Below.refl w.heap.size w);unfold wX.f at h;have H:=h;clear h;obtain⟨⟨ah6,ah7,ah8⟩,A3,H⟩:=zo H;try dsimp only at H
 obtain⟨⟨ah9,ah_,ah'⟩,A4,H⟩:=zo H;try dsimp only at H
 simp only[Option.some.injEq,Prod.mk.injEq]at H;obtain⟨rfl,rfl,rfl,rfl,rfl,rfl⟩:=H;go_enter Tryz.func45,Tryz.ntmps45;go_wp2_with (first|((with_reducible refine aR (N:=4) rfl ?_);refine zY 4 #[.bool false,.string ⟨#[]⟩,.string ⟨#[]⟩,.bool false,.string ⟨#[]⟩,.string ⟨#[]⟩] 42 ?_;intro asI hg w5 ah hb;have Jt:=qa (ah);have aBq:=zG hg HB;have aBr:=zG hg HB;replace HB:=zS HB hb;clear hb ah hg)|((with_reducible refine cU (f:=61) rfl ?_);refine zO Tryz.func61 qk (Ep.calls a0 ah6 ah7 ah8 _ A3.out) fun w6 hb=>?_;replace Jt:=zB Jt hb;replace HB:=zS HB hb;(try clear hb))|((with_reducible refine cU (f:=61) rfl ?_);refine zO Tryz.func61 qk (Ep.calls a1 ah9 ah_ ah' _ A4.out) fun w7 hb=>?_;replace Jt:=zB Jt hb;replace HB:=zS HB hb;(try clear hb);obtain⟨Qj,Qk,Ql,adC,adD,adE,Qm,Qn,Qo,adF,adG,adH⟩:=z6 Jt))
 refine bodyPost_ret (results_cell_row rfl _ _ asI 42 #[.bool ah6,.string ah7,.string ah8,.bool ah9,.string ah_,.string ah'] (0,0) _ rfl (Kx Jt) Tryz.underlying42 rfl qk) rfl ?_;exact⟨zH,zT HB⟩
def aiU.f (k:Nat) (af:Bool) (aa aj:ByteArray) (aI:Bool) (aJ aK:ByteArray) (aq:Bool) (ak au:ByteArray) (aL:Bool) (aM aN:ByteArray) (aV:Bool) (aW aX:ByteArray) (bC:Bool) (bD bE:ByteArray) (dU:Bool) (dV dW:ByteArray) (Dv:Bool) (Dw Dx:ByteArray):Option (Int):=(mE.f k af aa aj aI aJ aK aq ak au aL aM aN aV aW aX bC bD bE).bind fun YL=>((mE.f k af aa aj aI aJ aK aq ak au aL aM aN dU dV dW Dv Dw Dx).bind fun au5=>((mE.f k aq ak au aL aM aN aV aW aX bC bD bE dU dV dW Dv Dw Dx).bind fun au6=>((mE.f k aV aW aX bC bD bE af aa aj aI aJ aK dU dV dW Dv Dw Dx).bind fun au7=>(some (mn (mn (wrap64 (YL*au5)) (wrap64 (YL*au6))) (wrap64 (YL*au7)))))))
def qP.f (k:Nat) (af:Bool) (aa aj:ByteArray) (aI:Bool) (aJ aK:ByteArray) (aq:Bool) (ak au:ByteArray) (aL:Bool) (aM aN:ByteArray) (aV:Bool) (aW aX:ByteArray) (bC:Bool) (bD bE:ByteArray):Option (Int):=(lC.f k af aa aj aI aJ aK aV aW aX bC bD bE).bind fun JE=>((lC.f k aq ak au aL aM aN aV aW aX bC bD bE).bind fun JF=>((qQ.f k JE.1 JE.2.1 JE.2.2.1 JE.2.2.2.1 JE.2.2.2.2.1 JE.2.2.2.2.2 JF.1 JF.2.1 JF.2.2.1 JF.2.2.2.1 JF.2.2.2.2.1 JF.2.2.2.2.2).bind fun Xy=>((Aj.f Xy.1 Xy.2.1 Xy.2.2).bind fun YO=>(some (wrap64 (-YO))))))
def qP.T1:Bool × List (List Nat × List Nat):=(true,[([],[]),([],[]),([0,1],[0,1]),([],[]),([],[]),([3,4,2],[3,4]),([2,5,5],[2,5]),([6,6],[6]),([7],[7]),([8,7,0,1,2,3,4,5,6,7,8],[8])])
def qP.B1:List Nat:=[0,0,3,0,0,31,63,127,255,511]
theorem qP.vv:ia .any (opsOf Tryz.f59 1)=qP.T1:=by kernel_rfl
theorem qP.uU:nh qP.T1.2 qP.B1=true:=by kernel_rfl
theorem qP.calls (k:Nat) (af:Bool) (aa aj:ByteArray) (aI:Bool) (aJ aK:ByteArray) (aq:Bool) (ak au:ByteArray) (aL:Bool) (aM aN:ByteArray) (aV:Bool) (aW aX:ByteArray) (bC:Bool) (bD bE:ByteArray) (r:Int) (w:World) (h:qP.f k af aa aj aI aJ aK aq ak au aL aM aN aV aW aX bC bD bE=some r) :
  Calls Tryz.prog 59 #[.agg #[.bool af,.string aa,.string aj,.bool aI,.string aJ,.string aK],.agg #[.bool aq,.string ak,.string au,.bool aL,.string aM,.string aN],.agg #[.bool aV,.string aW,.string aX,.bool bC,.string bD,.string bE]] w fun e w'=>e = .returned (.int .i64 r)/\Below w.heap.size w w':=by
 have mq:=Tryz.underlying42;have HB:=qa (Below.refl w.heap.size w);unfold qP.f at h;have H:=h;clear h;obtain⟨⟨aiy,aiz,aiA,aiB,aiC,aiD⟩,A4,H⟩:=zo H;try dsimp only at H
 obtain⟨⟨aiE,aiF,aiG,aiH,aiI,aiJ⟩,A5,H⟩:=zo H;try dsimp only at H
 obtain⟨⟨aiK,aiL,aiM⟩,A6,H⟩:=zo H;try dsimp only at H
 obtain⟨YO,A7,H⟩:=zo H;obtain rfl:=Option.some.inj H;go_enter Tryz.func59,Tryz.ntmps59;try go_wp2_with (first|((with_reducible refine aR (N:=3) rfl ?_);refine zY 3 #[.bool af,.string aa,.string aj,.bool aI,.string aJ,.string aK] 42 ?_;intro JG hg w8 ah hb;have eZ:=qa (ah);have aBP:=zG hg HB;have aBQ:=zG hg HB;replace HB:=zS HB hb;clear hb ah hg)|((with_reducible refine aR (N:=4) rfl ?_);refine zY 4 #[.bool aq,.string ak,.string au,.bool aL,.string aM,.string aN] 42 ?_;intro JH hg w9 ah hb;have fU:=qa (ah);have aBR:=zG hg HB;have aBS:=zG hg HB;obtain⟨avK,avL⟩:=zQ hg eZ;replace eZ:=zB eZ hb;replace HB:=zS HB hb;clear hb ah hg)|((with_reducible refine aR (N:=5) rfl ?_);refine zY 5 #[.bool aV,.string aW,.string aX,.bool bC,.string bD,.string bE] 42 ?_;intro JI hg gI ah hb;have gO:=qa (ah);have aBT:=zG hg HB;have aBU:=zG hg HB;obtain⟨avM,avN⟩:=zQ hg eZ;obtain⟨avO,avP⟩:=zQ hg fU;obtain⟨eZ,fU⟩:=eo eZ fU hb;replace HB:=zS HB hb;clear hb ah hg))
 replace eZ:=zD eZ;replace fU:=zD fU;replace gO:=zD gO;replace HB:=zF HB;refine mg (n:=10) (S:=fun w'=>w'.cell? ⟨JG,0,none⟩=some (.bool af)/\w'.cell? ⟨JG,1,none⟩=some (.string aa)/\w'.cell? ⟨JG,2,none⟩=some (.string aj)/\w'.cell? ⟨JG,3,none⟩=some (.bool aI)/\w'.cell? ⟨JG,4,none⟩=some (.string aJ)/\w'.cell? ⟨JG,5,none⟩=some (.string aK)/\w'.cell? ⟨JI,0,none⟩=some (.bool aV)/\w'.cell? ⟨JI,1,none⟩=some (.string aW)/\w'.cell? ⟨JI,2,none⟩=some (.string aX)/\w'.cell? ⟨JI,3,none⟩=some (.bool bC)/\w'.cell? ⟨JI,4,none⟩=some (.string bD)/\w'.cell? ⟨JI,5,none⟩=some (.string bE)/\w'.cell? ⟨JH,0,none⟩=some (.bool aq)/\w'.cell? ⟨JH,1,none⟩=some (.string ak)/\w'.cell? ⟨JH,2,none⟩=some (.string au)/\w'.cell? ⟨JH,3,none⟩=some (.bool aL)/\w'.cell? ⟨JH,4,none⟩=some (.string aM)/\w'.cell? ⟨JH,5,none⟩=some (.string aN)) (ds:=[]) (zb 10 0) qk rfl rfl ⟨zc eZ 0,zc eZ 1,zc eZ 2,zc eZ 3,zc eZ 4,zc eZ 5,zc gO 0,zc gO 1,zc gO 2,zc gO 3,zc gO 4,zc gO 5,zc fU 0,zc fU 1,zc fU 2,zc fU 3,zc fU 4,zc fU 5⟩ (fun hHeld=>?_);refine mZ qP.vv qP.uU (fun av bN=>?_);generalize gI.drew=lV at eZ fU gO HB hHeld ⊢;refine zV (i:=0) (N:=some 7) (zb 10 1) (cg av.out bN.out qk) hHeld ?_;refine zV (i:=1) (N:=some 8) (zb 10 3) (cg av.out bN.out qk) hHeld ?_;refine zV (i:=3) (N:=some 10) (zb 10 11) (cg av.out bN.out qk) hHeld ?_;refine zV (i:=4) (N:=some 11) (zb 10 27) (cg av.out bN.out qk) hHeld ?_;refine bM (i:=2) (N:=some 9) (zb 10 31) rfl rfl (bO av.out qk) qd (fun K hK=>?_);refine zJ Tryz.func55 qk (lC.calls k af aa aj aI aJ aK aV aW aX bC bD bE aiy aiz aiA aiB aiC aiD _ A4.out) fun gh hb=>?_;obtain⟨eZ,fU,gO⟩:=bB eZ fU gO hb;replace HB:=zS HB hb
 (try clear hb)
 refine hK.out _ _ ⟨zc eZ 0,zc eZ 1,zc eZ 2,zc eZ 3,zc eZ 4,zc eZ 5,zc gO 0,zc gO 1,zc gO 2,zc gO 3,zc gO 4,zc gO 5,zc fU 0,zc fU 1,zc fU 2,zc fU 3,zc fU 4,zc fU 5⟩ (fun hHeld=>?_);clear hK K;refine zW (some 9) ?_;refine bM (i:=5) (N:=some 12) (zb 10 63) rfl rfl (bO av.out qk) qd (fun K hK=>?_);refine zJ Tryz.func55 qk (lC.calls k aq ak au aL aM aN aV aW aX bC bD bE aiE aiF aiG aiH aiI aiJ _ A5.out) fun oP hb=>?_;obtain⟨eZ,fU,gO⟩:=bB eZ fU gO hb;replace HB:=zS HB hb
 (try clear hb)
 refine hK.out _ _ ⟨zc eZ 0,zc eZ 1,zc eZ 2,zc eZ 3,zc eZ 4,zc eZ 5,zc gO 0,zc gO 1,zc gO 2,zc gO 3,zc gO 4,zc gO 5,zc fU 0,zc fU 1,zc fU 2,zc fU 3,zc fU 4,zc fU 5⟩ (fun hHeld=>?_);clear hK K;refine zW (some 12) ?_;refine bM (i:=6) (N:=some 13) (zb 10 127) rfl rfl (bO av.out qk) qd (fun K hK=>?_);refine zJ Tryz.func71 qk (qQ.calls k aiy aiz aiA aiB aiC aiD aiE aiF aiG aiH aiI aiJ aiK aiL aiM _ A6.out) fun iq hb=>?_;obtain⟨eZ,fU,gO⟩:=bB eZ fU gO hb;replace HB:=zS HB hb
 (try clear hb)
 refine hK.out _ _ ⟨zc eZ 0,zc eZ 1,zc eZ 2,zc eZ 3,zc eZ 4,zc eZ 5,zc gO 0,zc gO 1,zc gO 2,zc gO 3,zc gO 4,zc gO 5,zc fU 0,zc fU 1,zc fU 2,zc fU 3,zc fU 4,zc fU 5⟩ (fun hHeld=>?_);clear hK K;refine zW (some 13) ?_;refine bM (i:=7) (N:=some 14) (zb 10 255) rfl rfl (bO av.out qk) qd (fun K hK=>?_);refine zJ Tryz.func53 qk (Aj.calls aiK aiL aiM YO _ A7.out) fun tH hb=>?_;obtain⟨eZ,fU,gO⟩:=bB eZ fU gO hb;replace HB:=zS HB hb
 (try clear hb)
 refine hK.out _ _ ⟨zc eZ 0,zc eZ 1,zc eZ 2,zc eZ 3,zc eZ 4,zc eZ 5,zc gO 0,zc gO 1,zc gO 2,zc gO 3,zc gO 4,zc gO 5,zc fU 0,zc fU 1,zc fU 2,zc fU 3,zc fU 4,zc fU 5⟩ (fun hHeld=>?_);clear hK K;refine zW (some 14) ?_;refine zU (i:=8) (N:=some 15) (zb 10 511) (bf av.out qk) ?_;refine zU (i:=9) (N:=some 6) (zb 10 1023) (bf av.out qk) ?_;refine mh (ng av.out qk) ?_;try go_wp2
 go_ret
 exact⟨zH,zT HB⟩
end Go.Proofs.aA.R
