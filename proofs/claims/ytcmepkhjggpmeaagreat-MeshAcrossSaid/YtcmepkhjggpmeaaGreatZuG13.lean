import Derived.Test.YtcmepkhjggpmeaaGreatZuG11
import Derived.Test.YtcmepkhjggpmeaaGreatZuG12
set_option linter.all false
set_option maxRecDepth 100000
set_option maxHeartbeats 8000000
namespace Go.Proofs.YtcmepkhjggpmeaaGreat
open Go.RowKit
open aP hiding B B_eq aG aK win jD Bp Bs ig fA eU sub_one fE iK add_one ez fH nC mul_one mL lv jc jR dw mX eo iI eH mR j3 mW gH mS kH kI mU gO mV jF jQ l8 YB l_ gM mY
open lG
theorem Nl (A0:Option Addr) (n c0:Nat) (l:List Int) (hn:l.length=n) (hc0:n<=c0) (w:World) (hr:RL w A0 l) :
  Calls Tryz.prog 143 #[.slice A0 n c0] w fun e w'=>e = .returned (.slice A0 (bl l n) c0)/\Dr w w':=by
 have hl:=hr.1;have hl2:n<=9223372036854775807:=by omega
 have HR:=Lib.hid hr;have HN:=Lib.hid hn;clear hr hn hl;go_enter Tryz.func143,Tryz.ntmps143;go_wp2
 go_loopw [3] (fun t w'=>∃ k:Nat,k<=n/\t = .int .i64 k/\Hid (bl l k=bl l n)/\Dr w w') (fun t _=>(intOf t).toNat)
 case atStart=>exact⟨n,Nat.le_refl _,rfl,Lib.hid rfl,Dr.refl _⟩
 case round =>
  obtain⟨k,hk,rfl,he,⟨m,rfl⟩⟩:=hrel;cases k with
  | zero =>
   have h1:decide ((0:Int)<((0:Nat):Int))=false:=by simp
   go_wp2
   repeat(go_quiet (fail);try go_wp2)
   go_ret
   have h0:bl l n=0:=he.out.symm;rw[h0];exact⟨rfl,by repeat(first|exact Dr.refl _|apply Dr.step)⟩
  | succ k =>
   have h1:decide ((0:Int)<((k+1:Nat):Int))=true:=by simp
   obtain⟨ad,rfl,hc⟩:=HR.out.2 (by have:=HN.out;omega);have hc1:=hc k (by have:=HN.out;omega);clear hc;have he':=he.out;clear he;by_cases hz:lg l k=0
   ·rw[IQ hz]at he'
    have he:=Lib.hid he';clear he';rw[hz]at hc1
    clear hz;go_wp2
    repeat(go_quiet (fail);try go_wp2)
    exact⟨⟨k,by omega,rfl,he,by repeat(first|exact Dr.refl _|apply Dr.step)⟩,by simp[intOf]⟩
   ·rw[IU hz]at he'
    have he:=Lib.hid he';clear he';have hz1:(lg l k==0)=false:=beq_eq_false_iff_ne.mpr hz;clear hz;go_wp2
    repeat(go_quiet (fail);try go_wp2)
    go_ret
    have h0:bl l n=k+1:=he.out.symm;rw[h0];exact⟨rfl,by repeat(first|exact Dr.refl _|apply Dr.step)⟩
theorem RB {v:Int} {N:Nat} (h0:0<=v) (hN:v<256^N):∀ k,k<=N->(∀ j,j<k->jM v (N-1-j)=0)->v<256^(N-k)
 | 0,_,_=>by simpa using hN
 | k+1,hk,h=>by
  have ih:=RB h0 hN k (by omega) fun j hj=>h j (by omega)
  have hd:=h k (by omega)
  unfold jM at hd
  rw[show N-k=(N-1-k)+1 by omega,Ys]at ih
  rw[show N-(k+1)=N-1-k by omega]
  have hp:=Yp (N-1-k)
  generalize (256:Int)^(N-1-k)=p at *
  have h1:v / p<256:=Int.ediv_lt_of_lt_mul hp (by rw[Int.mul_comm];omega)
  have h2:0<=v / p:=Int.ediv_nonneg h0 (by omega)
  have h3:v / p=0:=by omega
  have h4:=Int.emod_lt_of_pos v hp
  have h5:=Int.emod_add_mul_ediv v p
  rw[h3]at h5
  omega
theorem al2 {v:Int} {N k:Nat} (h0:0<=v) (hN:v<256^N) (hk:k<N) (h:∀ j,j<k->jM v (N-1-j)=0) (hd:jM v (N-1-k)≠0):nb v=N-k:=by
 have h1:=RB h0 hN k (by omega) h;rw[show N-k=(N-1-k)+1 by omega]at h1 ⊢
 refine NV ?_ h1;refine Int.le_of_not_gt fun h2=>hd ?_;unfold jM;rw[Int.ediv_eq_zero_of_lt h0 h2];rfl
theorem al3 {v:Int} {N:Nat} (h0:0<=v) (hN:v<256^N) (h:∀ j,j<N->jM v (N-1-j)=0):v=0:=by
 have h1:=RB h0 hN N (Nat.le_refl _) h;simp at h1;omega
theorem qD.ahy {g N:Nat} {v:Int} {w:World} {b:List Int} {w1:World} (h:qD g N v w N b w1) {k:Nat} (hk:k<=N) (hN:nb v=N-k) (c:Nat) :
  (convert 185 36 (.slice (some ⟨g,k,none⟩) (N-k) c)).run Tryz.prog w1 = .ok (.string (dW v)) w1:=by
 have:=run_convert_bytes_back (P:=Tryz.prog) w1 185 36 5 ⟨g,k,none⟩ c ((b.drop k).map fun x=>UInt8.ofNat x.toNat) Tryz.underlying185 Tryz.underlying5 Tryz.underlying36 (fun j hj=>by
  rw[List.length_map,List.length_drop,h.len]at hj
  have hc:=h.blk.cell (k+j) (by rw[h.len];omega);have ha:(⟨g,k,none⟩:Addr).add j=⟨g,k+j,none⟩:=by unfold Addr.add;split <;> simp_all
  rw[ha,hc];have hx:lg b (k+j)=b[k+j]'(by rw[h.len];omega):=by unfold lg;rw[List.getD_eq_getElem?_getD,List.getElem?_eq_getElem (by rw[h.len];omega)];rfl
  have:=h.bd (k+j);rw[List.getElem_map,Qh (by rw[hx]at this;rw[List.getElem_drop];omega),List.getElem_drop,<- hx];congr 2
  omega)
 rw[List.length_map,List.length_drop,h.len]at this
 rw[this];have hs:(⟨((b.drop k).map fun x=>UInt8.ofNat x.toNat).toArray⟩:ByteArray)=dW v:=by
  have he:dW v=⟨((List.range (N-k)).map fun j=>UInt8.ofNat (jM v (N-k-1-j)).toNat).toArray⟩:=by
   rw[<- hN];rfl
  rw[he];refine congrArg (fun l:List UInt8=>(⟨l.toArray⟩:ByteArray)) ?_;apply List.ext_getElem
  ·simp[h.len]
  ·intro i h1 h2
   rw[List.length_map,List.length_drop,h.len]at h1
   have hv:=h.val (N-k-1-i) (by omega);rw[show N-1-(N-k-1-i)=k+i by omega]at hv
   have hx:lg b (k+i)=b[k+i]'(by rw[h.len];omega):=by unfold lg;rw[List.getD_eq_getElem?_getD,List.getElem?_eq_getElem (by rw[h.len];omega)];rfl
   rw[hx]at hv
   simp[hv]
 rw[hs]
end Go.Proofs.YtcmepkhjggpmeaaGreat
namespace Go.Proofs.YtcmepkhjggpmeaaGreat
open Go.RowKit
open aP hiding B B_eq aG aK win jD Bp Bs ig fA eU sub_one fE iK add_one ez fH nC mul_one mL lv jc jR dw mX eo iI eH mR j3 mW gH mS kH kI mU gO mV jF jQ l8 YB l_ gM mY
open lG
theorem qD.step {g N k j:Nat} {v:Int} {w w1:World} {b:List Int} (h:qD g N v w k b w1) (hj:j=N-1-k) (hk:k<N):qD g N v w (k+1) (b.set j (jM v k)) (w1.setCell ⟨g,j,none⟩ (.int .u8 (jM v k))):=by
 refine⟨h.blk.set _ _,by rw[List.length_set];exact h.len,?_,?_,h.only.set _ _⟩
 ·intro t
  rw[cK];split
  ·exact Nk _ _
  ·exact h.bd t
 ·intro t ht
  rw[cK];by_cases e:t=k
  ·subst e
   rw[if_pos ⟨hj,by rw[h.len];omega⟩]
  ·rw[if_neg (by omega)]
   exact h.val t (by omega)
theorem qD.dI {g N k:Nat} {v:Int} {w w1:World} {b:List Int} (h:qD g N v w k b w1) (n:Nat):qD g N v w k b (w1.drewN n):=⟨h.blk,h.len,h.bd,h.val,h.only.dI n⟩
theorem qD.at {g N:Nat} {v:Int} {w w1:World} {b:List Int} (h:qD g N v w N b w1) (j:Nat) (hj:j<N):lg b j=jM v (N-1-j):=by
 have:=h.val (N-1-j) (by omega);rw[show N-1-(N-1-j)=j by omega]at this
 exact this
theorem JR (A0:Option Addr) (n c0:Nat) (l:List Int) (hn:l.length=n) (fW:n<=20000) (hc0:n<=c0) (w:World) (ha:RL w A0 l) (hla:aG l) :
  Calls Tryz.prog 115 #[.slice A0 n c0] w fun e w'=>e = .returned (.string (dW (lv l)))/\Below w.heap.size w w':=by
 have hpl:=fO l;have kM:=eo l;rw[hn]at hpl kM
 have Hy:=qb l n;have oD:=hla.take (bl l n);have EM:=ha.take (bl l n);have wM:=Lib.hid (Nl A0 n c0 l hn hc0 w ha);rw[<- kM];generalize hx:l.take (bl l n)=x at *;generalize hp:bl l n=p at *;have Cs:=Lib.hid EM;have tX:=Lib.hid (And.intro oD hpl);have hmk:=XP (4*p) (by omega);have hp5:p<=20000:=by omega
 have hpc:p<=c0:=by omega
 have a0:IntKind.i64.wrap (4*(p:Int))=((4*p:Nat):Int):=by rw[IntWalk.i64_in _ (by omega)];rfl
 have a1:4*(p:Int)=((4*p:Nat):Int):=rfl;obtain⟨N,hN⟩:∃ N,4*p=N:=⟨_,rfl⟩
 rw[hN]at a0 a1 hmk
 have uZ:=Lib.hid (show 4*p=N/\p<=20000 from ⟨hN,hp5⟩);clear ha hn hla hx hp kM EM hpl oD hN Hy;go_enter Tryz.func115,Tryz.ntmps115;go_wp2_with fail
 refine(wM.out).mono ?_;rintro e w5 ⟨rfl,⟨nd,rfl⟩⟩;go_wp2
 have hb1:Below w.heap.size (w.drewN nd) ((w.drewN nd).alloc (.cells (madeCells #[.int .u8 0] N) 5)):=(Below.refl _ _).alloc (by simp) _;have dn:=XQ (w.drewN nd) N;rw[show(w.drewN nd).heap.size=w.heap.size from rfl]at dn
 have hx1:=(Cs.out.dI nd).below hb1 (by simp);have Ia:∀ _:0<x.length,∀ ad,A0=some ad->ad.block≠w.heap.size:=fun hp ad e=>Nat.ne_of_lt (Cs.out.lt hp ad e);have lR:=(gI (Below.refl w.heap.size w) nd).trans hb1;generalize hw3:(w.drewN nd).alloc (.cells (madeCells #[.int .u8 0] N) 5)=w3 at *;have wH:=Lib.hid (Nat.le_refl w.heap.size);obtain⟨g,hg⟩:∃ g,w.heap.size=g:=⟨_,rfl⟩
 rw[hg]at dn Ia ⊢
 have H0:=Lib.hid (show qD g N (lv x) w3 0 (List.replicate N 0) w3 from ⟨dn,by simp,fun j=>by rw[l7];exact⟨Int.le_refl _,by decide⟩,fun i h=>by omega,bN.refl _ _⟩);have HX:=Lib.hid hx1;have VY:=Lib.hid Ia;have ni:=Lib.hid (show Below g w w3 by rw[<- hg];exact lR);have HGW:=Lib.hid hg;clear dn hx1 Ia hb1 lR hw3 hmk a0 a1 hg wH;go_loopw [4] (fun t w1=>∃ (k:Nat) (b:List Int),k<=N/\t = .int .i64 k/\qD g N (lv x) w3 k b w1) (fun t _=>N-(intOf t).toNat)
 case atStart=>exact⟨0,_,Nat.zero_le _,rfl,H0.out⟩
 case round =>
  obtain⟨k,b,hk,rfl,hI⟩:=hrel;by_cases hlt:k<N
  ·have h1:decide ((k:Int)<(N:Int))=true:=by simp;omega
   obtain⟨q8,rZ⟩:∃ q8,k / 4=q8:=⟨_,rfl⟩
   obtain⟨e8,tW⟩:∃ e8,8*(k%4)=e8:=⟨_,rfl⟩
   obtain⟨j,hj⟩:∃ j,j=N-1-k:=⟨_,rfl⟩
   have hq:q8<p:=by have:=uZ.out;omega
   obtain⟨ad,rfl,bW⟩:=(HX.out.only hI.only (fun hp Ac e=>VY.out hp Ac e)).2 (by rw[tX.out.2];omega);have hc2:=bW q8 (by rw[tX.out.2];exact hq);have hce:=hI.blk.cell j (by rw[hI.len];omega);have hfr:=hI.blk.free j;have hd:lg x q8 / 2^e8%256=jM (lv x) k:=by rw[mY tX.out.1,rZ,Y2,tW]
   have HD:=Lib.hid hd;have HI:=Lib.hid hI;have HJ:=Lib.hid (And.intro hj hk);have a0:(k:Int) / 4=(q8:Int):=by omega
   have a2:(N:Int)-1-(k:Int)=(j:Int):=by omega
   have a3:((k:Int)%4)*8=(e8:Int):=by omega
   have hjN:j<N:=by omega
   have hN9:N<=80000:=by have:=uZ.out;omega
   have aql:e8<=32:=by omega
   clear hI bW hd hj hk rZ tW;go_wp2
   rw[HD.out];obtain⟨hj,hk⟩:=HJ.out;exact⟨⟨k+1,_,by omega,by go_num,HI.out.step hj (by omega)⟩,by simp[intOf];omega⟩
  ·have he:k=N:=by omega
   subst he;have h1:decide ((k:Int)<(k:Int))=false:=by simp
   have hbl:Below w.heap.size w wr:=by have h1:=bN.below ni.out hI.only (Nat.le_refl _);rw[<- HGW.out]at h1;exact h1
   have HV:=Lib.hid (show 0<=lv x/\lv x<256^k by
    have h1:=dw tX.out.1;rw[tX.out.2,<- YB,uZ.out.1]at h1
    exact h1)
   have qI:=Lib.hid hbl;have HI:=Lib.hid hI;have hlen:=hI.len;have hN9:k<=80000:=by have:=uZ.out;omega
   clear hI hbl hk hlt hlen;go_wp2
   go_loopw [5] (fun t w1=>∃ m:Nat,m<=k/\t = .int .i64 m/\Hid (∀ j,j<m->lg b j=0)/\Dr wr w1) (fun t _=>k-(intOf t).toNat)
   case atStart=>exact⟨0,Nat.zero_le _,rfl,Lib.hid (fun j h=>by omega),Dr.refl _⟩
   case round =>
    obtain⟨m,hm,rfl,HZ,⟨rX,rfl⟩⟩:=hrel;by_cases hlt:m<k
    ·have h1:decide ((m:Int)<(k:Int))=true:=by simp;omega
     have hc:=HI.out.blk.cell m (by rw[HI.out.len];exact hlt);by_cases hz:lg b m=0
     ·rw[hz]at hc
      have HZ2:=Lib.hid (show ∀ j,j<m+1->lg b j=0 from fun j hj=>if e:j=m then by rw[e];exact hz else HZ.out j (by omega));clear hz;go_wp2
      repeat(go_quiet (fail);try go_wp2)
      exact⟨⟨m+1,by omega,by simp,HZ2,by repeat(first|exact Dr.refl _|apply Dr.step)⟩,by simp[intOf];omega⟩
     ·have hz1:(lg b m==0)=false:=beq_eq_false_iff_ne.mpr hz
      have HZ1:=Lib.hid hz;have hcv:=(HI.out.dI rX).ahy (k:=m) (by omega) (al2 HV.out.1 HV.out.2 hlt (fun j hj=>by rw[<- HI.out.at j (by omega)];exact HZ.out j hj) (by rw[<- HI.out.at m hlt];exact hz)) (k-m);clear hz;go_wp2
      repeat(go_quiet (fail);try go_wp2)
      go_ret
      exact⟨rfl,gI qI.out _⟩
    ·have he:m=k:=by omega
     subst he;have h1:decide ((m:Int)<(m:Int))=false:=by simp
     have hv0:=al3 HV.out.1 HV.out.2 (fun j hj=>by rw[<- HI.out.at j hj];exact HZ.out j hj)
     have hcv:(convert 185 36 (.slice (some ⟨g,0,none⟩) 0 0)).run Tryz.prog (wr.drewN rX) = .ok (.string ⟨#[]⟩) (wr.drewN rX) :=
      run_convert_bytes_back (P:=Tryz.prog) (wr.drewN rX) 185 36 5 ⟨g,0,none⟩ 0 [] Tryz.underlying185 Tryz.underlying5 Tryz.underlying36 (fun j hj=>by simp at hj)
     have HV0:=Lib.hid hv0;clear hv0;go_wp2
     repeat(go_quiet (fail);try go_wp2)
     go_ret
     exact⟨by rw[HV0.out,XO];rfl,gI qI.out _⟩
end Go.Proofs.YtcmepkhjggpmeaaGreat
namespace Go.Proofs.YtcmepkhjggpmeaaGreat
open Go.RowKit
open aP hiding B B_eq aG aK win jD Bp Bs ig fA eU sub_one fE iK add_one ez fH nC mul_one mL lv jc jR dw mX eo iI eH mR j3 mW gH mS kH kI mU gO mV jF jQ l8 YB l_ gM mY
open lG
theorem amT (w:World):(Instr.makeSlice 141 (.int .i64 0) (.int .i64 2)).run Tryz.prog w = .ok (.slice (some ⟨w.heap.size,0,none⟩) 0 2) (w.alloc (.cells #[.int .u64 0,.int .u64 0] 140)):=by
 have h:(Tryz.prog.info? 140).map (fun i=>(i.zero,i.size,i.bytes))=some (some (.int .u64 0),1,8):=by kernel_rfl
 cases hi:Tryz.prog.info? 140 with
 | none=>rw[hi]at h;cases h
 | some i =>
  rw[hi]at h
  simp only[Option.map_some,Option.some.injEq,Prod.mk.injEq]at h;have:=run_make (P:=Tryz.prog) w 141 140 i (.int .u64 0) Tryz.underlying141 hi h.1 .i64 .i64 0 2 (by omega) (by omega) (by rw[h.2.2];omega) (by omega);rw[h.2.1,show madeCells (Value.int .u64 0).cells (Int.toNat 2*1)=#[.int .u64 0,.int .u64 0] from by apply Array.ext';rw[show(Value.int .u64 0).cells=#[.int .u64 0] from rfl,toList_madeCells_one];rfl]at this
  exact this
theorem aii (u:Int) (hu:0<=u/\u<18446744073709551616) (A0:Option Addr) (cc:Nat) (hcc:1<=cc) (w:World) (ha:RL w A0 [u]) :
  Calls Tryz.prog 106 #[.slice A0 1 cc] w fun e w'=>∃ x r,e = .returned x/\pO w' x r/\aG r/\Tr r/\lv r=u/\Below w.heap.size w w':=by
 obtain⟨ad,rfl,hc⟩:=ha.2 (by simp);have K5:=hc 0 (by simp);rw[show ad.add 0=ad from by simp[Addr.add],show lg [u] 0=u from rfl]at K5
 clear hc;have hmk:=amT;have hu1:u.tmod 4294967296=u%4294967296:=Int.tmod_eq_emod_of_nonneg hu.1;have hu2:u.tdiv 4294967296=u / 4294967296:=Int.tdiv_eq_ediv_of_nonneg hu.1;go_enter Tryz.func106,Tryz.ntmps106;go_wp2
 obtain⟨w1,hw1⟩:∃ w1,w1=w.alloc (.cells #[.int .u64 0,.int .u64 0] 140):=⟨_,rfl⟩
 have hb1:Below w.heap.size w w1:=by rw[hw1];exact(Below.refl _ _).alloc (Nat.le_refl _) _
 have u1:=(hb1.cell (World.block_lt_of_cell? w _ K5)).trans K5;have hblk:w1.heap[w.heap.size]?=some (.cells #[.int .u64 0,.int .u64 0] 140 (0,0)):=by rw[hw1];exact heap_alloc_new w _
 have aqp:=World.block_lt_of_cell? w _ K5;rw[<- hw1];obtain⟨g,hg⟩:∃ g,w.heap.size=g:=⟨_,rfl⟩
 rw[hg]at hblk aqp ⊢
 have bu:=Lib.hid (And.intro hb1 hg);have H1:=Lib.hid hblk;clear hw1 hmk K5 hb1 hg ha;go_loopg [3,4] 1 (fun gk s t w2=>(gk=1/\s = .slice (some ⟨g,0,none⟩) 0 2/\t = .int .i64 0/\w1=w2)\/(gk=0/\s = .slice (some ⟨g,0,none⟩) 2 2/\t = .int .i64 1/\Hid (cO w2 g [u%4294967296,u / 4294967296]/\Below w.heap.size w w2)))
 case atStart=>exact .inl ⟨rfl,rfl,rfl,rfl⟩
 case round =>
  rcases hrel with ⟨rfl,rfl,rfl,rfl⟩|⟨rfl,rfl,rfl,HF⟩
  ·have hne:¬ ad.block=g:=by omega
   have hbk:cO w1 g [0,0]:=⟨_,H1.out,by simp,fun j hj=>by match j,hj with|0,_=>rfl|1,_=>rfl⟩
   have c0:=hbk.cell 0 (by simp);have c1:=hbk.cell 1 (by simp);rw[show lg [0,0] 0=0 from rfl]at c0
   rw[show lg [0,0] 1=0 from rfl]at c1
   have f0:=hbk.free 0;have f1:=hbk.free 1;have hlt:=hbk.lt;have xV:=Lib.hid hbk;clear hbk;go_wp2
   go_region
   have HF:=Lib.hid (show cO (((w1.setCell ⟨g,0,none⟩ (.int .u64 (u%4294967296))).setCell ⟨g,1,none⟩ (.int .u64 (u / 4294967296))).alloc (.cells #[.int .u64 (u%4294967296),.int .u64 (u / 4294967296)] 140)).drew g [u%4294967296,u / 4294967296]/\Below w.heap.size w (((w1.setCell ⟨g,0,none⟩ (.int .u64 (u%4294967296))).setCell ⟨g,1,none⟩ (.int .u64 (u / 4294967296))).alloc (.cells #[.int .u64 (u%4294967296),.int .u64 (u / 4294967296)] 140)).drew by
    have h1:cO ((w1.setCell ⟨g,0,none⟩ (.int .u64 (u%4294967296))).setCell ⟨g,1,none⟩ (.int .u64 (u / 4294967296))) g [u%4294967296,u / 4294967296]:=(xV.out.set 0 _).set 1 _;have h2:=bu.out.2;have h3:=bu.out.1;have h4:Below w.heap.size w ((w1.setCell ⟨g,0,none⟩ (.int .u64 (u%4294967296))).setCell ⟨g,1,none⟩ (.int .u64 (u / 4294967296))):=(h3.setCell (by simp;omega) _).setCell (by simp;omega) _;exact⟨(h1.below ((Below.refl _ _).alloc (Nat.le_refl _) _) h1.lt).dI 1,(h4.alloc h4.size _).drew⟩)
   clear c0 c1 f0 f1;go_wp2
   go_roundg 0
   case measure=>omega
   case rel=>exact .inr ⟨rfl,rfl,by simp,HF⟩
  ·have dM:=Lib.hid (show aG [u%4294967296,u / 4294967296]/\lv [u%4294967296,u / 4294967296]=u by
    have h1:u%4294967296+u / 4294967296*4294967296=u:=by omega
    refine⟨fun j=>?_,?_⟩
    ·match j with
     | 0=>exact⟨by show 0<=u%4294967296;omega,by show u%4294967296<4294967296;omega⟩
     | 1=>exact⟨by show 0<=u / 4294967296;omega,by show u / 4294967296<4294967296;omega⟩
     | j+2=>exact⟨by show(0:Int)<=0;omega,by show(0:Int)<4294967296;omega⟩
    ·show 0+u%4294967296*4294967296^0+u / 4294967296*4294967296^1=u
     rw[Int.pow_zero,Int.pow_one];omega)
   have HR:=Lib.hid (Nl (some ⟨g,0,none⟩) 2 2 [u%4294967296,u / 4294967296] rfl (by omega) wr (HF.out.1.RL (by simp)));have hne:¬ ad.block=g:=by omega
   clear u1 hne;go_wp2_with fail
   refine(HR.out).mono ?_;rintro e w4 ⟨rfl,⟨nd,rfl⟩⟩;go_wp2
   go_ret
   have h1:=fO [u%4294967296,u / 4294967296];exact⟨_,[u%4294967296,u / 4294967296].take (bl [u%4294967296,u / 4294967296] 2),rfl,⟨_,2,by rw[show bl [u%4294967296,u / 4294967296] 2=bl [u%4294967296,u / 4294967296] [u%4294967296,u / 4294967296].length from rfl,h1];rfl,by rw[show bl [u%4294967296,u / 4294967296] 2=bl [u%4294967296,u / 4294967296] [u%4294967296,u / 4294967296].length from rfl,h1];exact qb _ _,((HF.out.1.RL (by simp)).take _).dI _⟩,dM.out.1.take _,kA [u%4294967296,u / 4294967296],(eo [u%4294967296,u / 4294967296]).trans dM.out.2,gI HF.out.2 _⟩
end Go.Proofs.YtcmepkhjggpmeaaGreat
namespace Go.Proofs.YtcmepkhjggpmeaaGreat
open Go.RowKit
open aP hiding B B_eq aG aK win jD Bp Bs ig fA eU sub_one fE iK add_one ez fH nC mul_one mL lv jc jR dw mX eo iI eH mR j3 mW gH mS kH kI mU gO mV jF jQ l8 YB l_ gM mY
open lG
theorem afY {n:Bool} {v:Int} (h0:0<=v):Value.agg #[.bool (decide (bk n v<0)),.string (dW v)]=o_ (bk n v):=by
 unfold o_;have e:v=((bk n v).natAbs:Int):=by
  unfold bk;split <;> omega
 rw[<- e]
theorem R5 (neg:Bool) (A0:Option Addr) (n c0:Nat) (l:List Int) (hn:l.length=n) (fW:n<=20000) (hc0:n<=c0) (w:World) (ha:RL w A0 l) (hla:aG l) :
  Calls Tryz.prog 105 #[.bool neg,.slice A0 n c0] w fun e w'=>e = .returned (o_ (bk neg (lv l)))/\Below w.heap.size w w':=by
 have hb1:Below w.heap.size w (w.alloc (.cells #[.bool false,.string ⟨#[]⟩] 38)):=(Below.refl _ _).alloc (Nat.le_refl _) _;obtain⟨w1,hw1⟩:∃ w1,w1=w.alloc (.cells #[.bool false,.string ⟨#[]⟩] 38):=⟨_,rfl⟩
 have d0:w1.cell? ⟨w.heap.size,0,none⟩=some (.bool false):=by rw[hw1];simp[go_sem]
 have d1:w1.cell? ⟨w.heap.size,1,none⟩=some (.string ⟨#[]⟩):=by rw[hw1];simp[go_sem]
 have d2:w1.frozen? ⟨w.heap.size,0,none⟩=false:=by rw[hw1];simp[go_sem]
 have d3:w1.frozen? ⟨w.heap.size,1,none⟩=false:=by rw[hw1];simp[go_sem]
 have hs1:w1.heap.size=w.heap.size+1:=by rw[hw1];simp
 rw[<- hw1]at hb1
 have HN:=Lib.hid (JR A0 n c0 l hn fW hc0 w1 (iJ hb1 ha (Nat.le_refl _)) hla);have HW:=Lib.hid hw1;have HB:=Lib.hid hb1;have HS:=Lib.hid hs1;have hpos:=(dw hla).1;rw[<- afY hpos];obtain⟨v,hv⟩:∃ v,lv l=v:=⟨_,rfl⟩
 obtain⟨s,hs⟩:∃ s,dW v=s:=⟨_,rfl⟩
 have hss:s.size=nb v:=by rw[<- hs];exact xh _
 rw[hv,hs]at HN
 rw[hv]at hpos
 rw[hv,hs];obtain⟨b,hb⟩:∃ b,decide (bk neg v<0)=b:=⟨_,rfl⟩
 rw[hb];have hcases:(neg=false/\b=false)\/(neg=true/\v=0/\b=false/\s.size=0)\/(neg=true/\b=true/\0<s.size):=by
  cases neg with
  | false=>exact .inl ⟨rfl,by rw[<- hb];simp[bk];omega⟩
  | true =>
   rcases (show v=0\/0<v by omega) with h|h
   ·exact .inr (.inl ⟨rfl,h,by rw[<- hb];simp[bk];omega,by rw[hss,h,vN]⟩)
   ·exact .inr (.inr ⟨rfl,by rw[<- hb];simp[bk];omega,by rw[hss];exact(Dc h).2.2⟩)
 clear hw1 hb1 hs1 ha hla hn hpos hv hs hss hb;rcases hcases with ⟨rfl,rfl⟩|⟨rfl,-,rfl,hz⟩|⟨rfl,rfl,hz⟩
 ·go_enter Tryz.func105,Tryz.ntmps105
  go_wp2_with fail
  rw[<- HW.out];refine(HN.out).mono ?_;rintro e w2 ⟨rfl,hb2⟩;have c0:=(hb2.cell (p:=⟨w.heap.size,0,none⟩) (by have:=HS.out;simp;omega)).trans d0;have c1:=(hb2.cell (p:=⟨w.heap.size,1,none⟩) (by have:=HS.out;simp;omega)).trans d1;have c2:=(hb2.frozen (p:=⟨w.heap.size,0,none⟩) (by have:=HS.out;simp;omega)).trans d2;have c3:=(hb2.frozen (p:=⟨w.heap.size,1,none⟩) (by have:=HS.out;simp;omega)).trans d3;have bX:=Lib.hid (HB.out.trans (hb2.mono HB.out.size));clear hb2 d0 d1 d2 d3;go_wp2
  refine bodyPost_ret (by simp[results,Tryz.results105,go_sem,c0,c1];try rfl) rfl ?_;exact⟨rfl,(bX.out.setCell (by simp;try omega) _).setCell (by simp;try omega) _⟩
 ·obtain⟨t1,t2⟩:=toList_nil hz
  clear hz;go_enter Tryz.func105,Tryz.ntmps105;go_wp2_with fail
  rw[<- HW.out];refine(HN.out).mono ?_;rintro e w2 ⟨rfl,hb2⟩;have c0:=(hb2.cell (p:=⟨w.heap.size,0,none⟩) (by have:=HS.out;simp;omega)).trans d0;have c1:=(hb2.cell (p:=⟨w.heap.size,1,none⟩) (by have:=HS.out;simp;omega)).trans d1;have c2:=(hb2.frozen (p:=⟨w.heap.size,0,none⟩) (by have:=HS.out;simp;omega)).trans d2;have c3:=(hb2.frozen (p:=⟨w.heap.size,1,none⟩) (by have:=HS.out;simp;omega)).trans d3;have bX:=Lib.hid (HB.out.trans (hb2.mono HB.out.size));clear hb2 d0 d1 d2 d3;go_wp2
  refine bodyPost_ret (by simp[results,Tryz.results105,go_sem,c0,c1];try rfl) rfl ?_;exact⟨rfl,(bX.out.setCell (by simp;try omega) _).setCell (by simp;try omega) _⟩
 ·obtain⟨t1,t2⟩:=yt hz
  clear hz;go_enter Tryz.func105,Tryz.ntmps105;go_wp2_with fail
  rw[<- HW.out];refine(HN.out).mono ?_;rintro e w2 ⟨rfl,hb2⟩;have c0:=(hb2.cell (p:=⟨w.heap.size,0,none⟩) (by have:=HS.out;simp;omega)).trans d0;have c1:=(hb2.cell (p:=⟨w.heap.size,1,none⟩) (by have:=HS.out;simp;omega)).trans d1;have c2:=(hb2.frozen (p:=⟨w.heap.size,0,none⟩) (by have:=HS.out;simp;omega)).trans d2;have c3:=(hb2.frozen (p:=⟨w.heap.size,1,none⟩) (by have:=HS.out;simp;omega)).trans d3;have bX:=Lib.hid (HB.out.trans (hb2.mono HB.out.size));clear hb2 d0 d1 d2 d3;go_wp2
  refine bodyPost_ret (by simp[results,Tryz.results105,go_sem,c0,c1];try rfl) rfl ?_;exact⟨rfl,(bX.out.setCell (by simp;try omega) _).setCell (by simp;try omega) _⟩
theorem aqq (n:Int) (h1 : -9223372036854775808<=n) (h2:n<=9223372036854775807) (w:World) :
  Calls Tryz.prog 68 #[.int .i64 n] w fun e w'=>e = .returned (o_ n)/\Below w.heap.size w w':=by
 have hb1:Below w.heap.size w (w.alloc (.cells #[.bool false,.string ⟨#[]⟩] 38)):=(Below.refl _ _).alloc (Nat.le_refl _) _;obtain⟨w1,hw1⟩:∃ w1,w1=w.alloc (.cells #[.bool false,.string ⟨#[]⟩] 38):=⟨_,rfl⟩
 have d0:w1.cell? ⟨w.heap.size,0,none⟩=some (.bool false):=by rw[hw1];simp[go_sem]
 have d1:w1.cell? ⟨w.heap.size,1,none⟩=some (.string ⟨#[]⟩):=by rw[hw1];simp[go_sem]
 have d2:w1.frozen? ⟨w.heap.size,0,none⟩=false:=by rw[hw1];simp[go_sem]
 have d3:w1.frozen? ⟨w.heap.size,1,none⟩=false:=by rw[hw1];simp[go_sem]
 have hs1:w1.heap.size=w.heap.size+1:=by rw[hw1];simp
 rw[<- hw1]at hb1
 have HW:=Lib.hid hw1;have HB:=Lib.hid hb1;have HS:=Lib.hid hs1;have Pv:=fun (x:Int) (hx:0<=x/\x<18446744073709551616)=>aii x hx (some ⟨w1.heap.size,0,none⟩) 1 (Nat.le_refl _) (w1.alloc (.cells #[.int .u64 x] 140)) (SU w1 x);have gT:∀ x:Int,Below w1.heap.size w1 (w1.alloc (.cells #[.int .u64 x] 140)):=fun x=>(Below.refl _ _).alloc (Nat.le_refl _) _;have EU:=Lib.hid gT;by_cases hn:n<0
 ·have t1:decide (n<0)=true:=by simp[hn]
  have a1:IntKind.i64.wrap (n+1)=n+1:=IntWalk.i64_in _ (by omega);have a2:IntKind.i64.wrap (-(n+1)) = -(n+1):=IntWalk.i64_in _ (by omega);have a3:IntKind.u64.wrap (-(n+1)) = -n-1:=by rw[bR _ ⟨by omega,by rw[aP.B_eq];omega⟩];omega
  have a4:IntKind.u64.wrap (-n-1+1) = -n:=by rw[bR _ ⟨by omega,by rw[aP.B_eq];omega⟩];omega
  have a5:IntKind.u64.wrap (-n) = -n:=by rw[bR _ ⟨by omega,by rw[aP.B_eq];omega⟩]
  have V7:=Lib.hid (Pv (-n) ⟨by omega,by omega⟩);have HP:=Lib.hid (show bk true (-n)=n /\ -n<18446744073709551616 by simp[bk];omega);clear hw1 hb1 hs1 Pv gT hn h1 h2;go_enter Tryz.func68,Tryz.ntmps68;go_wp2_with fail
  rw[<- HW.out,show w.heap.size+1=w1.heap.size from HS.out.symm];refine(V7.out).mono ?_;rintro e w2 ⟨x,r,rfl,⟨A,cc,rfl,bW,hrl⟩,hlr,htr,fD,hb2⟩;have hb3:=(EU.out (-n)).trans (hb2.mono (by simp));have hlen:r.length<=2:=by
   apply gH htr hlr;rw[fD,show(B:Int)=4294967296 from rfl];have:=HP.out.2;omega
  have HM:=Lib.hid (R5 true A r.length cc r rfl (by omega) bW w2 hrl hlr);rw[fD]at HM
  clear bW hrl hlr htr fD hlen hb2;go_wp2_with fail
  refine(HM.out).mono ?_;rintro e w4 ⟨rfl,hb4⟩;have cL:=hb3.trans (hb4.mono hb3.size);have c0:=(cL.cell (p:=⟨w.heap.size,0,none⟩) (by have:=HS.out;simp;omega)).trans d0;have c1:=(cL.cell (p:=⟨w.heap.size,1,none⟩) (by have:=HS.out;simp;omega)).trans d1;have c2:=(cL.frozen (p:=⟨w.heap.size,0,none⟩) (by have:=HS.out;simp;omega)).trans d2;have c3:=(cL.frozen (p:=⟨w.heap.size,1,none⟩) (by have:=HS.out;simp;omega)).trans d3;have bX:=Lib.hid (HB.out.trans (cL.mono HB.out.size));clear hb3 hb4 cL d0 d1 d2 d3;rw[HP.out.1];unfold o_;go_wp2
  refine bodyPost_ret (by simp[results,Tryz.results68,go_sem,c0,c1];try rfl) rfl ?_;exact⟨by unfold o_;rw[t1],(bX.out.setCell (by simp;try omega) _).setCell (by simp;try omega) _⟩
 ·have t1:decide (n<0)=false:=by simp;omega
  have a5:IntKind.u64.wrap n=n:=by rw[bR _ ⟨by omega,by rw[aP.B_eq];omega⟩]
  have V7:=Lib.hid (Pv n ⟨by omega,by omega⟩);have HP:=Lib.hid (show bk false n=n/\n<18446744073709551616 by simp[bk];omega);clear hw1 hb1 hs1 Pv gT hn h1 h2;go_enter Tryz.func68,Tryz.ntmps68;go_wp2_with fail
  rw[<- HW.out,show w.heap.size+1=w1.heap.size from HS.out.symm];refine(V7.out).mono ?_;rintro e w2 ⟨x,r,rfl,⟨A,cc,rfl,bW,hrl⟩,hlr,htr,fD,hb2⟩;have hb3:=(EU.out n).trans (hb2.mono (by simp));have hlen:r.length<=2:=by
   apply gH htr hlr;rw[fD,show(B:Int)=4294967296 from rfl];have:=HP.out.2;omega
  have HM:=Lib.hid (R5 false A r.length cc r rfl (by omega) bW w2 hrl hlr);rw[fD]at HM
  clear bW hrl hlr htr fD hlen hb2;go_wp2_with fail
  refine(HM.out).mono ?_;rintro e w4 ⟨rfl,hb4⟩;have cL:=hb3.trans (hb4.mono hb3.size);have c0:=(cL.cell (p:=⟨w.heap.size,0,none⟩) (by have:=HS.out;simp;omega)).trans d0;have c1:=(cL.cell (p:=⟨w.heap.size,1,none⟩) (by have:=HS.out;simp;omega)).trans d1;have c2:=(cL.frozen (p:=⟨w.heap.size,0,none⟩) (by have:=HS.out;simp;omega)).trans d2;have c3:=(cL.frozen (p:=⟨w.heap.size,1,none⟩) (by have:=HS.out;simp;omega)).trans d3;have bX:=Lib.hid (HB.out.trans (cL.mono HB.out.size));clear hb3 hb4 cL d0 d1 d2 d3;rw[HP.out.1];unfold o_;go_wp2
  refine bodyPost_ret (by simp[results,Tryz.results68,go_sem,c0,c1];try rfl) rfl ?_;exact⟨by unfold o_;rw[t1],(bX.out.setCell (by simp;try omega) _).setCell (by simp;try omega) _⟩
end Go.Proofs.YtcmepkhjggpmeaaGreat
