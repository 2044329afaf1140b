import Derived.Test.YtcmepkhjggpmeaaGreatZuG10
set_option linter.all false
set_option maxRecDepth 100000
set_option maxHeartbeats 8000000
namespace Go.Proofs.YtcmepkhjggpmeaaGreat
open Go.RowKit aP
def acH (n1:Bool) (s1:ByteArray) (n2:Bool) (s2:ByteArray) (w:World) (e:Ending) (w':World):Prop :=
 (gJ n1 s1 n2 s2≠0->e = .returned (.tuple #[.agg #[.bool false,.string ⟨#[]⟩],.agg #[.bool false,.string ⟨#[]⟩],.int .i64 (gJ n1 s1 n2 s2)])) /\
 (gJ n1 s1 n2 s2=0->nv s2=0->e = .returned (.tuple #[.agg #[.bool false,.string ⟨#[]⟩],.agg #[.bool false,.string ⟨#[]⟩],.int .i64 3])) /\
 (gJ n1 s1 n2 s2=0->nv s2≠0->e = .returned (.tuple #[o_ (ival n1 s1 / ival n2 s2),o_ (ival n1 s1%ival n2 s2),.int .i64 0]))/\Below w.heap.size w w'
structure UP (w2 w6:World) (hq hr:Nat) (bq br:Bool) (A:Option Addr) (k c:Nat) (A':Option Addr) (k' c':Nat):Prop where
 x0:w6.cell? ⟨hq,0,none⟩=some (.bool bq)
 x1:w6.cell? ⟨hq,1,none⟩=some (.slice A k c)
 x2:w6.cell? ⟨hr,0,none⟩=some (.bool br)
 x3:w6.cell? ⟨hr,1,none⟩=some (.slice A' k' c')
 x4:w6.frozen? ⟨hq,0,none⟩=false
 x5:w6.frozen? ⟨hq,1,none⟩=false
 x6:w6.frozen? ⟨hr,0,none⟩=false
 x7:w6.frozen? ⟨hr,1,none⟩=false
 ey:Below w2.heap.size w2 w6
 lq:w2.heap.size<=hq
 lr:w2.heap.size<=hr
 gq:hq<w6.heap.size
 gr:hr<w6.heap.size
 ne:¬ hq=hr
theorem alY (w2:World) (bq br:Bool) (A:Option Addr) (k c:Nat) (A':Option Addr) (k' c':Nat):UP w2 ((w2.alloc (.cells #[.bool bq,.slice A k c] 143)).alloc (.cells #[.bool br,.slice A' k' c'] 143)).drew w2.heap.size (w2.heap.size+1) bq br A k c A' k' c' :=
 ⟨by simp[go_sem],by simp[go_sem],by simp[go_sem],by simp[go_sem],by simp[go_sem],by simp[go_sem],by simp[go_sem],by simp[go_sem],(((Below.refl _ _).alloc (Nat.le_refl _) _).alloc (by simp) _).drew,by omega,by omega,by simp;try omega,by simp;try omega,by omega⟩
theorem alZ (w2:World) (bq br:Bool) (A:Option Addr) (k c:Nat) (A':Option Addr) (k' c':Nat):UP w2 ((w2.alloc (.cells #[.bool br,.slice A' k' c'] 143)).alloc (.cells #[.bool bq,.slice A k c] 143)).drew (w2.heap.size+1) w2.heap.size bq br A k c A' k' c' :=
 ⟨by simp[go_sem],by simp[go_sem],by simp[go_sem],by simp[go_sem],by simp[go_sem],by simp[go_sem],by simp[go_sem],by simp[go_sem],(((Below.refl _ _).alloc (Nat.le_refl _) _).alloc (by simp) _).drew,by omega,by omega,by simp;try omega,by simp;try omega,by omega⟩
theorem dK {w:World} {g h i:Nat} {u v:Value} {X:Option Value} (hne:¬ g=h) (hc:w.cell? ⟨g,i,none⟩=X):((w.setCell ⟨h,0,none⟩ u).setCell ⟨h,1,none⟩ v).cell? ⟨g,i,none⟩=X :=
 (cell_far _ _ _ _ _ _ hne).trans ((cell_far _ _ _ _ _ _ hne).trans hc)
structure qx (n:Nat) (n2:Bool) (wx:World) (hq hr:Nat) (bq:Bool) (A:Option Addr) (k c:Nat) (br:Bool) (A':Option Addr) (k' c':Nat):Prop where
 x0:wx.cell? ⟨hq,0,none⟩=some (.bool bq)
 x1:wx.cell? ⟨hq,1,none⟩=some (.slice A k c)
 x2:wx.cell? ⟨hr,0,none⟩=some (.bool br)
 x3:wx.cell? ⟨hr,1,none⟩=some (.slice A' k' c')
 x4:wx.frozen? ⟨hq,0,none⟩=false
 x5:wx.frozen? ⟨hq,1,none⟩=false
 x6:wx.frozen? ⟨hr,0,none⟩=false
 x7:wx.frozen? ⟨hr,1,none⟩=false
 p1:wx.cell? ⟨n+1,0,none⟩=some (.bool n2)
 p2:wx.cell? ⟨n+2,0,none⟩=some (.bool false)
 p3:wx.cell? ⟨n+2,1,none⟩=some (.string ⟨#[]⟩)
 p4:wx.frozen? ⟨n+2,0,none⟩=false
 p5:wx.frozen? ⟨n+2,1,none⟩=false
 p6:wx.cell? ⟨n+3,0,none⟩=some (.bool false)
 p7:wx.cell? ⟨n+3,1,none⟩=some (.string ⟨#[]⟩)
 p8:wx.frozen? ⟨n+3,0,none⟩=false
 p9:wx.frozen? ⟨n+3,1,none⟩=false
 gq:hq<wx.heap.size
 gr:hr<wx.heap.size
 gl:n+3<wx.heap.size
 lq:n+3<hq
 lr:n+3<hr
 ne:¬ hq=hr
theorem qx.below {n:Nat} {n2:Bool} {wx w':World} {hq hr:Nat} {bq:Bool} {A:Option Addr} {k c:Nat} {br:Bool} {A':Option Addr} {k' c':Nat} (h:qx n n2 wx hq hr bq A k c br A' k' c') {B:Nat} (hb:Below B wx w') (hB:wx.heap.size<=B):qx n n2 w' hq hr bq A k c br A' k' c':=by
 have g1:=h.gq;have g2:=h.gr;have g3:=h.gl;have g4:=hb.size
 exact⟨(hb.cell (by simp;omega)).trans h.x0,(hb.cell (by simp;omega)).trans h.x1,(hb.cell (by simp;omega)).trans h.x2,(hb.cell (by simp;omega)).trans h.x3,(hb.frozen (by simp;omega)).trans h.x4,(hb.frozen (by simp;omega)).trans h.x5,(hb.frozen (by simp;omega)).trans h.x6,(hb.frozen (by simp;omega)).trans h.x7,
  (hb.cell (by simp;omega)).trans h.p1,(hb.cell (by simp;omega)).trans h.p2,(hb.cell (by simp;omega)).trans h.p3,(hb.frozen (by simp;omega)).trans h.p4,(hb.frozen (by simp;omega)).trans h.p5,(hb.cell (by simp;omega)).trans h.p6,(hb.cell (by simp;omega)).trans h.p7,(hb.frozen (by simp;omega)).trans h.p8,(hb.frozen (by simp;omega)).trans h.p9,by omega,by omega,by omega,h.lq,h.lr,h.ne⟩
theorem qx.heap {n:Nat} {n2:Bool} {wx wy:World} {hq hr:Nat} {bq:Bool} {A:Option Addr} {k c:Nat} {br:Bool} {A':Option Addr} {k' c':Nat} (h:qx n n2 wx hq hr bq A k c br A' k' c') (e:wy.heap=wx.heap):qx n n2 wy hq hr bq A k c br A' k' c':=by
 have e1:∀ p,wy.cell? p=wx.cell? p:=fun p=>by unfold World.cell?;rw[e]
 have e2:∀ p,wy.frozen? p=wx.frozen? p:=fun p=>by unfold World.frozen?;rw[e]
 exact⟨(e1 _).trans h.x0,(e1 _).trans h.x1,(e1 _).trans h.x2,(e1 _).trans h.x3,(e2 _).trans h.x4,(e2 _).trans h.x5,(e2 _).trans h.x6,(e2 _).trans h.x7,(e1 _).trans h.p1,(e1 _).trans h.p2,(e1 _).trans h.p3,(e2 _).trans h.p4,(e2 _).trans h.p5,(e1 _).trans h.p6,(e1 _).trans h.p7,(e2 _).trans h.p8,(e2 _).trans h.p9,by rw[e];exact h.gq,by rw[e];exact h.gr,by rw[e];exact h.gl,h.lq,h.lr,h.ne⟩
theorem AW {n:Nat} {n2:Bool} {wx wy w':World} {hq hr:Nat} {bq:Bool} {A:Option Addr} {k c:Nat} {br:Bool} {A':Option Addr} {k' c' B:Nat} (hb:Below B wy w') (h:qx n n2 wx hq hr bq A k c br A' k' c') (e:wy.heap=wx.heap) (hB:wx.heap.size<=B):qx n n2 w' hq hr bq A k c br A' k' c':=(h.heap e).below hb (by rw[e];exact hB)
theorem Me {w:World} {g:Nat} {u v a b:Value} (h0:w.cell? ⟨g,0,none⟩=some a) (h1:w.cell? ⟨g,1,none⟩=some b):((w.setCell ⟨g,0,none⟩ u).setCell ⟨g,1,none⟩ v).cell? ⟨g,0,none⟩=some u/\((w.setCell ⟨g,0,none⟩ u).setCell ⟨g,1,none⟩ v).cell? ⟨g,1,none⟩=some v:=by
 constructor
 ·exact I1 aC (World.cell?_setCell_same' _ _ _ (by rw[h0];rfl))
 ·exact World.cell?_setCell_same' _ _ _ (by rw[I1 aC h1];rfl)
theorem pZ {w:World} {g:Nat} {u v:Value} {p:Addr} {x:Bool} (h:w.frozen? p=x):((w.setCell ⟨g,0,none⟩ u).setCell ⟨g,1,none⟩ v).frozen? p=x:=by simp only[World.frozen?_setCell];exact h
theorem qx.aqn {n:Nat} {n2:Bool} {wx:World} {hq hr:Nat} {bq:Bool} {A:Option Addr} {k c:Nat} {br:Bool} {A':Option Addr} {k' c':Nat} (h:qx n n2 wx hq hr bq A k c br A' k' c') (b3:Bool) (A3:Option Addr) (k3 c3:Nat) :
  qx n n2 ((wx.setCell ⟨hr,0,none⟩ (.bool b3)).setCell ⟨hr,1,none⟩ (.slice A3 k3 c3)) hq hr bq A k c b3 A3 k3 c3:=by
 have l1:=h.lq;have l2:=h.lr;exact⟨dK h.ne h.x0,dK h.ne h.x1,(Me h.x2 h.x3).1,(Me h.x2 h.x3).2,pZ h.x4,pZ h.x5,pZ h.x6,pZ h.x7,dK aC h.p1,dK aC h.p2,dK aC h.p3,pZ h.p4,pZ h.p5,dK aC h.p6,dK aC h.p7,pZ h.p8,pZ h.p9,by simpa using h.gq,by simpa using h.gr,by simpa using h.gl,l1,l2,h.ne⟩
theorem qx.aqo {n:Nat} {n2:Bool} {wx:World} {hq hr:Nat} {bq:Bool} {A:Option Addr} {k c:Nat} {br:Bool} {A':Option Addr} {k' c':Nat} (h:qx n n2 wx hq hr bq A k c br A' k' c') (b3:Bool) (A3:Option Addr) (k3 c3:Nat) :
  qx n n2 ((wx.setCell ⟨hq,0,none⟩ (.bool b3)).setCell ⟨hq,1,none⟩ (.slice A3 k3 c3)) hq hr b3 A3 k3 c3 br A' k' c':=by
 have l1:=h.lq;have l2:=h.lr;have l3:¬ hr=hq:=fun e=>h.ne e.symm;exact⟨(Me h.x0 h.x1).1,(Me h.x0 h.x1).2,dK l3 h.x2,dK l3 h.x3,pZ h.x4,pZ h.x5,pZ h.x6,pZ h.x7,dK aC h.p1,dK aC h.p2,dK aC h.p3,pZ h.p4,pZ h.p5,dK aC h.p6,dK aC h.p7,pZ h.p8,pZ h.p9,by simpa using h.gq,by simpa using h.gr,by simpa using h.gl,l1,l2,h.ne⟩
structure UQ (w:World) (n2:Bool) (wx:World) (hq hr:Nat) (VQ VR:Int) (bq:Bool) (A:Option Addr) (q:List Int) (c:Nat) (br:Bool) (A':Option Addr) (r:List Int) (c':Nat):Prop where
 cs:qx w.heap.size n2 wx hq hr bq A q.length c br A' r.length c'
 rq:RL wx A q
 rr:RL wx A' r
 hlq:aG q
 hlr:aG r
 lq:q.length<=4000
 lr:r.length<=4000
 cq:q.length<=c
 cr:r.length<=c'
 vq:bk bq (lv q)=VQ
 vr:bk br (lv r)=VR
 ey:Below w.heap.size w wx
theorem SU (w:World) (x:Int):RL (w.alloc (.cells #[.int .u64 x] 140)) (some ⟨w.heap.size,0,none⟩) [x]:=by
 refine⟨by simp,fun _=>⟨_,rfl,fun j hj=>?_⟩⟩;have:j=0:=by simp at hj;omega
 subst this;simp[Addr.add,go_sem,lg]
theorem Mx {x:Int} (h:0<=x/\x<B):aG [x]:=by
 intro j;cases j with
 | zero=>exact h
 | succ j=>exact⟨by simp[lg],by simp[lg,B]⟩
theorem SV (x:Int):lv [x]=x:=by simp[lv,aK,lg]
theorem iJ {B:Nat} {w w1:World} {A:Option Addr} {l:List Int} (ho:Below B w w1) (h:RL w A l) (hB:w.heap.size<=B):RL w1 A l:=h.below ho hB
theorem My {v:Int} (h:(v.natAbs:Int)<=256^15000):Fits v:=by
 have h3:=qz (show 15001<=8*4000 by omega);have h4:=Ys 15000;have h5:=Yp 15000;refine⟨?_⟩;rw[SQ];generalize (256:Int)^(8*4000)=u at *;generalize (256:Int)^(15000+1)=u at *;generalize (256:Int)^15000=u at *;omega
theorem Yd {r:List Int} (ht:Tr r) (hl:aG r) (h:Fits (lv r)):r.length<=4000:=by
 have h1:=h.out;have h2:=(dw hl).1;apply gH ht hl;generalize B^4000=u at *;omega
theorem ahv {x y:Int} (hx:0<=x) (h:x<256^15000) (hy:0<y):Fits (x / y):=by
 apply My;have h1:=Int.ediv_nonneg hx (Int.le_of_lt hy);have h2:=Int.ediv_le_self y hx;generalize (256:Int)^15000=u at *;omega
theorem ahw {x y:Int} (hx:0<=x) (h:y<256^15000) (hy:0<y):Fits (x%y):=by
 apply My;have h1:=Int.emod_nonneg x (Int.ne_of_gt hy);have h2:=Int.emod_lt_of_pos x hy;generalize (256:Int)^15000=u at *;omega
theorem afH {n2:Bool} {s1 s2:ByteArray} (h:nv s2<256^15000) (hy:0<nv s2):Fits (ival true s1%ival n2 s2):=by
 apply My;have e:ival true s1%ival n2 s2=ival true s1%nv s2:=by cases n2 <;> simp[ival,bk,Int.emod_neg]
 rw[e];have h1:=Int.emod_nonneg (ival true s1) (Int.ne_of_gt hy);have h2:=Int.emod_lt_of_pos (ival true s1) hy;generalize (256:Int)^15000=u at *;omega
theorem afI {n2:Bool} {s1 s2:ByteArray} (hx:0<=nv s1) (h:nv s1<256^15000) (hy:0<nv s2):Fits (ival true s1 / ival n2 s2):=by
 apply My;have e:(ival true s1 / ival n2 s2).natAbs=(-nv s1 / nv s2).natAbs:=by cases n2 <;> simp[ival,bk,Int.ediv_neg]
 rw[e];have h1 : -nv s1 <= -nv s1 / nv s2:=by
  rw[Int.le_ediv_iff_mul_le hy];have:nv s1*1<=nv s1*nv s2:=Int.mul_le_mul_of_nonneg_left aC hx;rw[Int.neg_mul];omega
 have h2 : -nv s1 / nv s2<=0:=Int.ediv_nonpos_of_nonpos_of_neg aC aC;generalize (256:Int)^15000=u at *;omega
theorem Rz {r:List Int} (ht:Tr r) (hz:lv r=0) (hl:aG r):r.length=0:=by
 have:=gH ht hl (k:=0) (by rw[hz];decide);omega
theorem aaO (n2:Bool) {x y:Int} (hx:0<=x) (hy:0<y):bk (!false==n2) (x / y)=bk false x / bk n2 y/\bk false (x%y)=bk false x%bk n2 y:=by
 cases n2 <;> simp[bk,Int.ediv_neg,Int.emod_neg]
theorem aaP (n2:Bool) {x y:Int} (hx:0<=x) (hy:0<y) (hr:x%y=0):bk (!true==n2) (x / y)=bk true x / bk n2 y/\bk true (x%y)=bk true x%bk n2 y:=by
 have h1:(-x) / y = -(x / y)/\(-x)%y=0:=by
  have:=Int.mul_ediv_add_emod x y;refine(Int.ediv_emod_unique hy).2 ⟨?_,by omega,hy⟩;rw[Int.mul_neg];omega
 cases n2 <;> simp[bk,Int.ediv_neg,Int.emod_neg,h1.1,h1.2,hr]
theorem aaQ (n2:Bool) {x y:Int} (hx:0<=x) (hy:0<y) (hr:0<x%y):bk (!true==n2) (x / y)+bk (!n2) 1=bk true x / bk n2 y/\bk true (x%y)+bk false y=bk true x%bk n2 y:=by
 have h1:(-x) / y = -(x / y)-1/\(-x)%y=y-x%y:=by
  have:=Int.mul_ediv_add_emod x y;have h2:=Int.emod_lt_of_pos x hy;refine(Int.ediv_emod_unique hy).2 ⟨?_,by omega,by omega⟩;rw[Int.mul_sub,Int.mul_neg];omega
 cases n2 <;> simp[bk,Int.ediv_neg,Int.emod_neg,h1.1,h1.2] <;> omega
theorem al0 (n1:Bool) (s1:ByteArray) (n2:Bool) (s2:ByteArray) (h1:s1.size<=15000) (h2:s2.size<=15000) (w:World) :
  Calls Tryz.prog 138 #[.agg #[.bool n1,.string s1],.agg #[.bool n2,.string s2]] w (acH n1 s1 n2 s2 w):=by
 obtain⟨w4,hw4⟩:∃ w4,w4=((((w.alloc (.cells #[.bool n1,.string s1] 38)).alloc (.cells #[.bool n2,.string s2] 38)).alloc (.cells #[.bool false,.string ⟨#[]⟩] 38)).alloc (.cells #[.bool false,.string ⟨#[]⟩] 38)).alloc (.cells #[.bool n1,.string s1,.bool n2,.string s2] 38):=⟨_,rfl⟩
 have hb4:Below w.heap.size w w4:=by rw[hw4];exact(((((Below.refl _ _).alloc (Nat.le_refl _) _).alloc (by simp;try omega) _).alloc (by simp;try omega) _).alloc (by simp;try omega) _).alloc (by simp;try omega) _
 have d0:w4.cell? ⟨w.heap.size+4,0,none⟩=some (.bool n1):=by rw[hw4];simp[go_sem]
 have d1:w4.cell? ⟨w.heap.size+4,1,none⟩=some (.string s1):=by rw[hw4];simp[go_sem]
 have d2:w4.cell? ⟨w.heap.size+4,2,none⟩=some (.bool n2):=by rw[hw4];simp[go_sem]
 have d3:w4.cell? ⟨w.heap.size+4,3,none⟩=some (.string s2):=by rw[hw4];simp[go_sem]
 have u0:w4.cell? ⟨w.heap.size,0,none⟩=some (.bool n1):=by rw[hw4];simp[go_sem]
 have u1:w4.cell? ⟨w.heap.size+1,0,none⟩=some (.bool n2):=by rw[hw4];simp[go_sem]
 have u2:w4.cell? ⟨w.heap.size+2,0,none⟩=some (.bool false):=by rw[hw4];simp[go_sem]
 have u3:w4.cell? ⟨w.heap.size+2,1,none⟩=some (.string ⟨#[]⟩):=by rw[hw4];simp[go_sem]
 have u4:w4.frozen? ⟨w.heap.size+2,0,none⟩=false:=by rw[hw4];simp[go_sem]
 have u5:w4.frozen? ⟨w.heap.size+2,1,none⟩=false:=by rw[hw4];simp[go_sem]
 have u6:w4.cell? ⟨w.heap.size+3,0,none⟩=some (.bool false):=by rw[hw4];simp[go_sem]
 have u7:w4.cell? ⟨w.heap.size+3,1,none⟩=some (.string ⟨#[]⟩):=by rw[hw4];simp[go_sem]
 have u8:w4.frozen? ⟨w.heap.size+3,0,none⟩=false:=by rw[hw4];simp[go_sem]
 have u9:w4.frozen? ⟨w.heap.size+3,1,none⟩=false:=by rw[hw4];simp[go_sem]
 have hsz:w4.heap.size=w.heap.size+5:=by rw[hw4];simp
 have hkk:∀ (w':World) (h:Below w4.heap.size w4 w'),w'.cell? ⟨w.heap.size,0,none⟩=some (.bool n1)/\w'.cell? ⟨w.heap.size+1,0,none⟩=some (.bool n2)/\w'.cell? ⟨w.heap.size+2,0,none⟩=some (.bool false)/\w'.cell? ⟨w.heap.size+2,1,none⟩=some (.string ⟨#[]⟩)/\w'.frozen? ⟨w.heap.size+2,0,none⟩=false/\w'.frozen? ⟨w.heap.size+2,1,none⟩=false/\w'.cell? ⟨w.heap.size+3,0,none⟩=some (.bool false)/\w'.cell? ⟨w.heap.size+3,1,none⟩=some (.string ⟨#[]⟩)/\w'.frozen? ⟨w.heap.size+3,0,none⟩=false/\w'.frozen? ⟨w.heap.size+3,1,none⟩=false :=
  fun w' h=>⟨(h.cell (by simp[hsz];try omega)).trans u0,(h.cell (by simp[hsz];try omega)).trans u1,(h.cell (by simp[hsz];try omega)).trans u2,(h.cell (by simp[hsz];try omega)).trans u3,(h.frozen (by simp[hsz];try omega)).trans u4,(h.frozen (by simp[hsz];try omega)).trans u5,(h.cell (by simp[hsz];try omega)).trans u6,(h.cell (by simp[hsz];try omega)).trans u7,(h.frozen (by simp[hsz];try omega)).trans u8,(h.frozen (by simp[hsz];try omega)).trans u9⟩
 have HW:=Lib.hid hw4;have HS:=Lib.hid hb4;have dP:=Lib.hid hsz;have HK:=Lib.hid hkk;unfold acH;by_cases hb:gJ n1 s1 n2 s2=0
 ·obtain⟨o1,o2⟩:=Bd.1 hb
  rw[hb];have HC:=Lib.hid (IZ n1 s1 n2 s2 _ 2 w4 d0 d1 d2 d3 o1 o2);clear d0 d1 d2 d3 u0 u1 u2 u3 u4 u5 u6 u7 u8 u9 hsz hkk hb4 hw4 hb o1 o2;go_enter Tryz.func138,Tryz.ntmps138;go_wp2_with fail
  rw[<- HW.out];refine(HC.out).mono ?_;rintro e w' ⟨g,c,g1,k1,r1,g2,k2,r2,rfl,hg,hc,N1,N2,hbr⟩;have c0:=N1.c0;have c1:=N1.c1;have c2:=N2.c0;have c3:=N2.c1;obtain⟨e0,e1,e2,e3,e4,e5,e6,e7,e8,e9⟩:=HK.out _ hbr;have hg2:g<w'.heap.size:=World.block_lt_of_cell? w' _ c0;have HR:=Lib.hid (HS.out.trans (hbr.mono (by rw[dP.out];omega)));have HGN:=Lib.hid (show w.heap.size+3<g by have:=dP.out;omega);have HL:=Lib.hid (show w.heap.size+3<w'.heap.size by have:=hbr.size;rw[dP.out]at this;omega);by_cases hz:nv s2=0
  ·have hsc:=fun (w5:World) (h5:w5.heap=w'.heap)=>div_zero (some ⟨g1,0,none⟩) (some ⟨g2,0,none⟩) k1 k2 k1 k2 r1 r2 N1.len N2.len N1.le N2.le (Nat.le_refl _) (Nat.le_refl _) w5 (N1.row.heap h5) (N2.row.heap h5) N2.lim (by rw[N2.val];exact hz)
   have HC:=Lib.hid hsc;have HZ:=Lib.hid hz;clear hsc hg hbr N1 N2 hz;go_wp2
   go_region_held3 (fun w'=>w'.cell? ⟨g,1,none⟩=some (.slice (some ⟨g1,0,none⟩) k1 k1)/\w'.cell? ⟨g,3,none⟩=some (.slice (some ⟨g2,0,none⟩) k2 k2)) (first|go_keep|exact⟨z1,z3⟩) (first|(go_at_call 166;refine(HC.out _ (by rfl)).mono ?_;rintro e w2 ⟨rfl,hbr⟩;have z1:=(hbr.cell (p:=⟨g,1,none⟩) hg2).trans c1;have z3:=(hbr.cell (p:=⟨g,3,none⟩) hg2).trans c3;have p0:=(hbr.cell (p:=⟨w.heap.size,0,none⟩) (Nat.lt_of_le_of_lt (Nat.add_le_add_left (by decide:0<=3) w.heap.size) HL.out)).trans e0;have p1:=(hbr.cell (p:=⟨w.heap.size+1,0,none⟩) (Nat.lt_of_le_of_lt (Nat.add_le_add_left (by decide:1<=3) w.heap.size) HL.out)).trans e1;have p2:=(hbr.cell (p:=⟨w.heap.size+2,0,none⟩) (Nat.lt_of_le_of_lt (Nat.add_le_add_left (by decide:2<=3) w.heap.size) HL.out)).trans e2;have p3:=(hbr.cell (p:=⟨w.heap.size+2,1,none⟩) (Nat.lt_of_le_of_lt (Nat.add_le_add_left (by decide:2<=3) w.heap.size) HL.out)).trans e3;have p4:=(hbr.frozen (p:=⟨w.heap.size+2,0,none⟩) (Nat.lt_of_le_of_lt (Nat.add_le_add_left (by decide:2<=3) w.heap.size) HL.out)).trans e4;have p5:=(hbr.frozen (p:=⟨w.heap.size+2,1,none⟩) (Nat.lt_of_le_of_lt (Nat.add_le_add_left (by decide:2<=3) w.heap.size) HL.out)).trans e5;have p6:=(hbr.cell (p:=⟨w.heap.size+3,0,none⟩) (Nat.lt_of_le_of_lt (Nat.add_le_add_left (by decide:3<=3) w.heap.size) HL.out)).trans e6;have p7:=(hbr.cell (p:=⟨w.heap.size+3,1,none⟩) (Nat.lt_of_le_of_lt (Nat.add_le_add_left (by decide:3<=3) w.heap.size) HL.out)).trans e7;have p8:=(hbr.frozen (p:=⟨w.heap.size+3,0,none⟩) (Nat.lt_of_le_of_lt (Nat.add_le_add_left (by decide:3<=3) w.heap.size) HL.out)).trans e8;have p9:=(hbr.frozen (p:=⟨w.heap.size+3,1,none⟩) (Nat.lt_of_le_of_lt (Nat.add_le_add_left (by decide:3<=3) w.heap.size) HL.out)).trans e9;have bV:=eL HR.out hbr HR.out.size rfl rfl rfl rfl;have gw:=Nat.lt_of_lt_of_le HL.out hbr.size;clear hbr))
   clear c0 c1 c2 c3 e0 e1 e2 e3 e4 e5 e6 e7 e8 e9 z1 z3;go_wp2
   refine bodyPost_ret (by simp[results,Tryz.results138,go_sem,p2,p3,p6,p7];try rfl) rfl ?_;exact⟨fun h=>absurd rfl h,fun _ _=>rfl,fun _ h=>absurd HZ.out h,((((bV.setCell (by simp;try omega) _).setCell (by simp;try omega) _).setCell (by simp;try omega) _).setCell (by simp;try omega) _)⟩
  ·have hsc:=fun (w5:World) (h5:w5.heap=w'.heap)=>aaN (some ⟨g1,0,none⟩) (some ⟨g2,0,none⟩) k1 k2 k1 k2 r1 r2 N1.len N2.len N1.le N2.le (Nat.le_refl _) (Nat.le_refl _) w5 (N1.row.heap h5) (N2.row.heap h5) N1.lim N2.lim (by rw[N2.val];exact hz)
   rw[N1.val,N2.val]at hsc
   have HC:=Lib.hid hsc;have HZ:=Lib.hid hz;have HX:=Lib.hid (And.intro (jg s1).1 (And.intro (nE h1) (And.intro (nE h2) (show 0<nv s2 by have:=(jg s2).1;omega))));have acI:=Lib.hid (And.intro N2.row (And.intro N2.lim (And.intro N2.len (And.intro N2.le N2.val))));clear hsc hg hbr N1 N2 hz;go_wp2
   go_region_held3 (fun w'=>w'.cell? ⟨g,1,none⟩=some (.slice (some ⟨g1,0,none⟩) k1 k1)/\w'.cell? ⟨g,3,none⟩=some (.slice (some ⟨g2,0,none⟩) k2 k2)) (first|go_keep|exact⟨z1,z3⟩) (first|(go_at_call 166;refine(HC.out _ (by rfl)).mono ?_;rintro e w2 ⟨x,y,q,r,rfl,hq,hr,hlq,ES,hlr,htr,K2,fD,hbr⟩;obtain⟨A,cc,rfl,hqc,iz⟩:=hq;obtain⟨A',Am,rfl,hrc,hrl⟩:=hr;have z1:=(hbr.cell (p:=⟨g,1,none⟩) hg2).trans c1;have z3:=(hbr.cell (p:=⟨g,3,none⟩) hg2).trans c3;have oH:=iJ hbr acI.out.1 (Nat.le_refl _);have p0:=(hbr.cell (p:=⟨w.heap.size,0,none⟩) (Nat.lt_of_le_of_lt (Nat.add_le_add_left (by decide:0<=3) w.heap.size) HL.out)).trans e0;have p1:=(hbr.cell (p:=⟨w.heap.size+1,0,none⟩) (Nat.lt_of_le_of_lt (Nat.add_le_add_left (by decide:1<=3) w.heap.size) HL.out)).trans e1;have p2:=(hbr.cell (p:=⟨w.heap.size+2,0,none⟩) (Nat.lt_of_le_of_lt (Nat.add_le_add_left (by decide:2<=3) w.heap.size) HL.out)).trans e2;have p3:=(hbr.cell (p:=⟨w.heap.size+2,1,none⟩) (Nat.lt_of_le_of_lt (Nat.add_le_add_left (by decide:2<=3) w.heap.size) HL.out)).trans e3;have p4:=(hbr.frozen (p:=⟨w.heap.size+2,0,none⟩) (Nat.lt_of_le_of_lt (Nat.add_le_add_left (by decide:2<=3) w.heap.size) HL.out)).trans e4;have p5:=(hbr.frozen (p:=⟨w.heap.size+2,1,none⟩) (Nat.lt_of_le_of_lt (Nat.add_le_add_left (by decide:2<=3) w.heap.size) HL.out)).trans e5;have p6:=(hbr.cell (p:=⟨w.heap.size+3,0,none⟩) (Nat.lt_of_le_of_lt (Nat.add_le_add_left (by decide:3<=3) w.heap.size) HL.out)).trans e6;have p7:=(hbr.cell (p:=⟨w.heap.size+3,1,none⟩) (Nat.lt_of_le_of_lt (Nat.add_le_add_left (by decide:3<=3) w.heap.size) HL.out)).trans e7;have p8:=(hbr.frozen (p:=⟨w.heap.size+3,0,none⟩) (Nat.lt_of_le_of_lt (Nat.add_le_add_left (by decide:3<=3) w.heap.size) HL.out)).trans e8;have p9:=(hbr.frozen (p:=⟨w.heap.size+3,1,none⟩) (Nat.lt_of_le_of_lt (Nat.add_le_add_left (by decide:3<=3) w.heap.size) HL.out)).trans e9;have bV:=eL HR.out hbr HR.out.size rfl rfl rfl rfl;have gw:=Nat.lt_of_lt_of_le HL.out hbr.size;have hg3:=Nat.lt_of_lt_of_le hg2 hbr.size;clear hbr))
   clear c0 c1 c2 c3 e0 e1 e2 e3 e4 e5 e6 e7 e8 e9;have l0:w.heap.size<w2.heap.size:=by omega
   have l1:w.heap.size+1<w2.heap.size:=by omega
   have l2:w.heap.size+2<w2.heap.size:=by omega
   obtain⟨bq,hbq⟩:∃ bq,(!n1==n2)=bq:=⟨_,rfl⟩
   go_upto_region 7 with fail
   go_cut [11,12] (fun a b wx=>∃ hq hr:Nat,a = .pointer (some ⟨hq,0,none⟩)/\b = .pointer (some ⟨hr,0,none⟩)/\UP w2 wx hq hr bq n1 A q.length cc A' r.length Am)
   case first =>
    go_region_held3 (fun w'=>w'.cell? ⟨w.heap.size,0,none⟩=some (.bool n1)/\w'.cell? ⟨w.heap.size+1,0,none⟩=some (.bool n2)) (first|go_keep|exact⟨p0,p1⟩|exact⟨by simp[go_sem,p0,p1,l0,l1],by simp[go_sem,p0,p1,l0,l1]⟩) (first|fail)
    ·go_wp2;go_meet;exact⟨_,_,rfl,rfl,alY _ _ _ _ _ _ _ _ _⟩
    ·go_wp2;go_meet;exact⟨_,_,rfl,rfl,alZ _ _ _ _ _ _ _ _ _⟩
   case rest =>
    obtain⟨hq,hr,rfl,rfl,T6⟩:=hcut;have bb:=T6.ey;have l3:=T6.lq;have l4:=T6.lr;have l5:=bb.size;have CS:qx w.heap.size n2 wc hq hr bq A q.length cc n1 A' r.length Am:=⟨T6.x0,T6.x1,T6.x2,T6.x3,T6.x4,T6.x5,T6.x6,T6.x7,(bb.cell (by simp;omega)).trans p1,(bb.cell (by simp;omega)).trans p2,(bb.cell (by simp;omega)).trans p3,(bb.frozen (by simp;omega)).trans p4,(bb.frozen (by simp;omega)).trans p5,(bb.cell (by simp;omega)).trans p6,(bb.cell (by simp;omega)).trans p7,(bb.frozen (by simp;omega)).trans p8,(bb.frozen (by simp;omega)).trans p9,T6.gq,T6.gr,by omega,by omega,by omega,T6.ne⟩
    have hgg:w.heap.size+3<g:=HGN.out;have z3w:=(bb.cell (p:=⟨g,3,none⟩) (by simp;omega)).trans z3;have p0w:=(bb.cell (p:=⟨w.heap.size,0,none⟩) (by simp;omega)).trans p0;have oH:=Lib.hid (And.intro (iJ bb oH (Nat.le_refl _)) acI.out.2);have lq:q.length<=4000:=Yd ES hlq (by rw[K2];exact ahv HX.out.1 HX.out.2.1 HX.out.2.2.2);have lr:r.length<=4000:=Yd htr hlr (by rw[fD];exact ahw HX.out.1 HX.out.2.2.1 HX.out.2.2.2);have HQ:=Lib.hid (iJ bb iz (Nat.le_refl _));have V1:=Lib.hid (iJ bb hrl (Nat.le_refl _));have wL:=Lib.hid (bV.trans (bb.mono bV.size));have Ao:=Lib.hid CS;clear z1 z3 bb iz hrl bV gw l0 l1 l2 l3 l4 l5 hg2 hg3 hgg T6 CS p0 p1 p2 p3 p4 p5 p6 p7 p8 p9;have HE:=Lib.hid (And.intro K2 (And.intro fD (And.intro hbq (And.intro ES htr))));clear K2 fD hbq;cases n1 with
    | false =>
     have HF:=Lib.hid (show UQ w n2 wc hq hr (ival false s1 / ival n2 s2) (ival false s1%ival n2 s2) bq A q cc false A' r Am from ⟨Ao.out,HQ.out,V1.out,hlq,hlr,lq,lr,hqc,hrc,by rw[HE.out.1,<- HE.out.2.2.1];exact(aaO n2 HX.out.1 HX.out.2.2.2).1,by rw[HE.out.2.1];exact(aaO n2 HX.out.1 HX.out.2.2.2).2,wL.out⟩);clear hlq hlr lq lr hqc hrc ES htr;go_wp2
     have kN:¬ hq=w.heap.size+1+1:=by have:=HF.out.cs.lq;omega
     have lB:¬ hr=w.heap.size+1+1:=by have:=HF.out.cs.lr;omega
     have n3:¬ hq=w.heap.size+1+1+1:=by have:=HF.out.cs.lq;omega
     have n4:¬ hr=w.heap.size+1+1+1:=by have:=HF.out.cs.lr;omega
     have m23:¬ w.heap.size+3=w.heap.size+1+1:=by omega
     have x0:=HF.out.cs.x0;have x1:=HF.out.cs.x1;have x2:=HF.out.cs.x2;have x3:=HF.out.cs.x3;go_region_held3 (fun w'=>w'.cell? ⟨hq,0,none⟩=some (.bool bq)/\w'.cell? ⟨hq,1,none⟩=some (.slice A q.length cc)/\w'.cell? ⟨hr,0,none⟩=some (.bool false)/\w'.cell? ⟨hr,1,none⟩=some (.slice A' r.length Am)) (first|go_keep|exact⟨dK kN bS.out.x0,dK kN bS.out.x1,dK lB bS.out.x2,dK lB bS.out.x3⟩|exact⟨dK n3 (dK kN bS.out.x0),dK n3 (dK kN bS.out.x1),dK n4 (dK lB bS.out.x2),dK n4 (dK lB bS.out.x3)⟩) (first|(go_at_call 95;have K3:=nY;clear K3;refine(vQ false A' _ Am r rfl HF.out.lr HF.out.cr _ (by exact K4.out) HF.out.hlr).mono ?_;rintro e w8 ⟨rfl,bI⟩;have bS:=Lib.hid (AW bI nY.out rfl (Nat.le_refl _));clear z0 z1 z2 z3;have y0:=bS.out.x0;have y1:=bS.out.x1;have y2:=bS.out.x2;have y3:=bS.out.x3;have t2:=bS.out.p2;have t3:=bS.out.p3;have t4:=bS.out.p4;have t5:=bS.out.p5;have t6:=bS.out.p6;have t7:=bS.out.p7;have t8:=bS.out.p8;have t9:=bS.out.p9;have r9:=Lib.hid (eL lp.out bI lp.out.size rfl rfl rfl rfl);have t10:=(dK (u := .bool (decide (bk bq (lv q)<0))) (v := .string (dW (lv q))) m23 t6);have t11:=(dK (u := .bool (decide (bk bq (lv q)<0))) (v := .string (dW (lv q))) m23 t7);clear bI)|(go_at_call 95;refine(vQ bq A _ cc q rfl HF.out.lq HF.out.cq _ (by exact HF.out.rq) HF.out.hlq).mono ?_;rintro e w7 ⟨rfl,bI⟩;have nY:=Lib.hid (AW bI HF.out.cs rfl (Nat.le_refl _));have z0:=nY.out.x0;have z1:=nY.out.x1;have z2:=nY.out.x2;have z3:=nY.out.x3;have K4:=Lib.hid (iJ bI HF.out.rr (Nat.le_refl _));have lp:=Lib.hid (eL HF.out.ey bI HF.out.ey.size rfl rfl rfl rfl);clear bI))
     go_wp2
     refine bodyPost_ret (by simp[results,Tryz.results138,go_sem,t2,t3,t6,t7];try rfl) rfl ?_;exact⟨fun h=>absurd rfl h,fun _ h=>absurd h HZ.out,fun _ _=>by rw[<- Be HF.out.hlq HF.out.vq,<- Be HF.out.hlr HF.out.vr],((((r9.out.setCell (by simp;try omega) _).setCell (by simp;try omega) _).setCell (by simp;try omega) _).setCell (by simp;try omega) _)⟩
    | true =>
     go_wp2
     ·have hT:0<r.length:=by omega
      have hrp:0<nv s1%nv s2:=by
       rw[<- HE.out.2.1];have h1:=(dw hlr).1;have h2:lv r≠0:=fun h=>by have:=Rz htr h hlr;omega
       omega
      have HT:=Lib.hid hrp;clear hT hrp;have x2:=Ao.out.x2;have x3:=Ao.out.x3;go_still_tail 6,(by kernel_rfl)
      change wpList _ _ _ _ _ wc.drew;go_wp2_with fail
      refine(NW true false A' (some ⟨g2,0,none⟩) r.length k2 Am k2 r r2 rfl oH.out.2.2.1 lr oH.out.2.2.2.1 hrc (Nat.le_refl _) _ (by exact V1.out) (by exact oH.out.1) hlr oH.out.2.1).mono ?_;clear x2 x3;rintro e w7 ⟨b3,x,r3,rfl,hx,gw,ht3,hv3,lS⟩;obtain⟨A3,c3,rfl,hc3,acJ⟩:=hx;have xT:=AW lS Ao.out rfl (Nat.le_refl _);have V2:=xT.aqn b3 A3 r3.length c3;have V3:=(iJ lS HQ.out (Nat.le_refl _)).pair xT.x2 xT.x3 (.bool b3) (.slice A3 r3.length c3);have V4:=acJ.pair xT.x2 xT.x3 (.bool b3) (.slice A3 r3.length c3);have r9:=((eL wL.out lS wL.out.size rfl rfl rfl rfl).setCell (p:=⟨hr,0,none⟩) (by have:=Ao.out.lr;simp;omega) (.bool b3)).setCell (p:=⟨hr,1,none⟩) (by have:=Ao.out.lr;simp;omega) (.slice A3 r3.length c3);have e0:=xT.x2;have e1:=xT.x3;have e2:=xT.x6;have e3:=xT.x7;obtain⟨w8,ET⟩:∃ w8,w8=(w7.setCell ⟨hr,0,none⟩ (.bool b3)).setCell ⟨hr,1,none⟩ (.slice A3 r3.length c3):=⟨_,rfl⟩
      rw[<- ET]at V2 V3 V4 r9
      have H8:=Lib.hid ET;have bS:=Lib.hid V2;have V5:=Lib.hid V3;have HR8:=Lib.hid V4;have acK:=Lib.hid r9;have tY:=Lib.hid (And.intro hv3 (And.intro gw (And.intro ht3 hc3)));clear ET xT V2 V3 V4 r9 acJ hv3 gw ht3 hc3 lS;go_upto_region 10 with fail
      rw[<- H8.out];clear e0 e1 e2 e3;have e0:=bS.out.x0;have e1:=bS.out.x1;have e2:=bS.out.p1;go_wp2_with fail
      have Cu:Below w8.heap.size w8 (w8.alloc (.cells #[.int .u64 1] 140)):=(Below.refl _ _).alloc (Nat.le_refl _) _;have CS9:=bS.out.below Cu (Nat.le_refl _);refine(NW bq (!n2) A (some ⟨w8.heap.size,0,none⟩) q.length 1 cc 1 q [1] rfl rfl lq aC hqc (Nat.le_refl _) _ (by exact iJ Cu V5.out (Nat.le_refl _)) (by exact SU w8 1) hlq (Mx (by decide))).mono ?_;rintro e iC ⟨b4,x,q4,rfl,hx,hl4,xU,hv4,xL⟩;obtain⟨A4,c4,rfl,rY,acL⟩:=hx;have xM:=AW xL CS9 rfl (Nat.le_refl _);have UR:=xM.aqo b4 A4 q4.length c4;have US:=(iJ xL (iJ Cu HR8.out (Nat.le_refl _)) (Nat.le_refl _)).pair xM.x0 xM.x1 (.bool b4) (.slice A4 q4.length c4);have UT:=acL.pair xM.x0 xM.x1 (.bool b4) (.slice A4 q4.length c4);have V6:=acK.out.trans (Cu.mono acK.out.size);have zi:=((eL V6 xL V6.size rfl rfl rfl rfl).setCell (p:=⟨hq,0,none⟩) (by have:=Ao.out.lq;simp;omega) (.bool b4)).setCell (p:=⟨hq,1,none⟩) (by have:=Ao.out.lq;simp;omega) (.slice A4 q4.length c4);clear e0 e1 e2;have e0:=xM.x0;have e1:=xM.x1;have e2:=xM.x4;have e3:=xM.x5;have UU:bk b4 (lv q4)=ival true s1 / ival n2 s2:=by rw[hv4,HE.out.1,SV,<- HE.out.2.2.1];exact(aaQ n2 HX.out.1 HX.out.2.2.2 HT.out).1
      have UW:bk b3 (lv r3)=ival true s1%ival n2 s2:=by rw[tY.out.1,HE.out.2.1,oH.out.2.2.2.2];exact(aaQ n2 HX.out.1 HX.out.2.2.2 HT.out).2
      have lq4:q4.length<=4000:=IG hl4 xU UU (afI HX.out.1 HX.out.2.1 HX.out.2.2.2);have lr3:r3.length<=4000:=IG tY.out.2.1 tY.out.2.2.1 UW (afH HX.out.2.2.1 HX.out.2.2.2);obtain⟨nk,UX⟩:∃ nk,nk=(iC.setCell ⟨hq,0,none⟩ (.bool b4)).setCell ⟨hq,1,none⟩ (.slice A4 q4.length c4):=⟨_,rfl⟩
      rw[<- UX]at UR UT US zi
      have HF:=Lib.hid (show UQ w n2 nk hq hr (ival true s1 / ival n2 s2) (ival true s1%ival n2 s2) b4 A4 q4 c4 b3 A3 r3 c3 from ⟨UR,UT,US,hl4,tY.out.2.1,lq4,lr3,rY,tY.out.2.2.2,UU,UW,zi⟩);have H11:=Lib.hid UX;clear UX CS9 xM UR UT US V6 zi acL hv4 hl4 xU rY xL Cu UU UW lq4 lr3 hlq hlr lq lr hqc hrc ES htr p0w z3w;go_upto_region 11 with fail
      rw[<- H11.out];clear e0 e1 e2 e3;have kN:¬ hq=w.heap.size+1+1:=by have:=HF.out.cs.lq;omega
      have lB:¬ hr=w.heap.size+1+1:=by have:=HF.out.cs.lr;omega
      have n3:¬ hq=w.heap.size+1+1+1:=by have:=HF.out.cs.lq;omega
      have n4:¬ hr=w.heap.size+1+1+1:=by have:=HF.out.cs.lr;omega
      have m23:¬ w.heap.size+3=w.heap.size+1+1:=by omega
      have x0:=HF.out.cs.x0;have x1:=HF.out.cs.x1;have x2:=HF.out.cs.x2;have x3:=HF.out.cs.x3;go_region_held3 (fun w'=>w'.cell? ⟨hq,0,none⟩=some (.bool b4)/\w'.cell? ⟨hq,1,none⟩=some (.slice A4 q4.length c4)/\w'.cell? ⟨hr,0,none⟩=some (.bool b3)/\w'.cell? ⟨hr,1,none⟩=some (.slice A3 r3.length c3)) (first|go_keep|exact⟨dK kN bS.out.x0,dK kN bS.out.x1,dK lB bS.out.x2,dK lB bS.out.x3⟩|exact⟨dK n3 (dK kN bS.out.x0),dK n3 (dK kN bS.out.x1),dK n4 (dK lB bS.out.x2),dK n4 (dK lB bS.out.x3)⟩) (first|(go_at_call 95;have K3:=nY;clear K3;refine(vQ b3 A3 _ c3 r3 rfl HF.out.lr HF.out.cr _ (by exact K4.out) HF.out.hlr).mono ?_;rintro e w8 ⟨rfl,bI⟩;have bS:=Lib.hid (AW bI nY.out rfl (Nat.le_refl _));clear z0 z1 z2 z3;have y0:=bS.out.x0;have y1:=bS.out.x1;have y2:=bS.out.x2;have y3:=bS.out.x3;have t2:=bS.out.p2;have t3:=bS.out.p3;have t4:=bS.out.p4;have t5:=bS.out.p5;have t6:=bS.out.p6;have t7:=bS.out.p7;have t8:=bS.out.p8;have t9:=bS.out.p9;have r9:=Lib.hid (eL lp.out bI lp.out.size rfl rfl rfl rfl);have t10:=(dK (u := .bool (decide (bk b4 (lv q4)<0))) (v := .string (dW (lv q4))) m23 t6);have t11:=(dK (u := .bool (decide (bk b4 (lv q4)<0))) (v := .string (dW (lv q4))) m23 t7);clear bI)|(go_at_call 95;refine(vQ b4 A4 _ c4 q4 rfl HF.out.lq HF.out.cq _ (by exact HF.out.rq) HF.out.hlq).mono ?_;rintro e w7 ⟨rfl,bI⟩;have nY:=Lib.hid (AW bI HF.out.cs rfl (Nat.le_refl _));have z0:=nY.out.x0;have z1:=nY.out.x1;have z2:=nY.out.x2;have z3:=nY.out.x3;have K4:=Lib.hid (iJ bI HF.out.rr (Nat.le_refl _));have lp:=Lib.hid (eL HF.out.ey bI HF.out.ey.size rfl rfl rfl rfl);clear bI))
      go_wp2
      refine bodyPost_ret (by simp[results,Tryz.results138,go_sem,t2,t3,t6,t7];try rfl) rfl ?_;exact⟨fun h=>absurd rfl h,fun _ h=>absurd h HZ.out,fun _ _=>by rw[<- Be HF.out.hlq HF.out.vq,<- Be HF.out.hlr HF.out.vr],((((r9.out.setCell (by simp;try omega) _).setCell (by simp;try omega) _).setCell (by simp;try omega) _).setCell (by simp;try omega) _)⟩
     ·have acM:r.length=0:=by omega
      have hz1:nv s1%nv s2=0:=by rw[<- HE.out.2.1];unfold lv;rw[acM];rfl
      have HF:=Lib.hid (show UQ w n2 wc hq hr (ival true s1 / ival n2 s2) (ival true s1%ival n2 s2) bq A q cc true A' r Am from ⟨Ao.out,HQ.out,V1.out,hlq,hlr,lq,lr,hqc,hrc,by rw[HE.out.1,<- HE.out.2.2.1];exact(aaP n2 HX.out.1 HX.out.2.2.2 hz1).1,by rw[HE.out.2.1];exact(aaP n2 HX.out.1 HX.out.2.2.2 hz1).2,wL.out⟩);clear hlq hlr lq lr hqc hrc ES htr;clear acM hz1;have kN:¬ hq=w.heap.size+1+1:=by have:=HF.out.cs.lq;omega
      have lB:¬ hr=w.heap.size+1+1:=by have:=HF.out.cs.lr;omega
      have n3:¬ hq=w.heap.size+1+1+1:=by have:=HF.out.cs.lq;omega
      have n4:¬ hr=w.heap.size+1+1+1:=by have:=HF.out.cs.lr;omega
      have m23:¬ w.heap.size+3=w.heap.size+1+1:=by omega
      have x0:=HF.out.cs.x0;have x1:=HF.out.cs.x1;have x2:=HF.out.cs.x2;have x3:=HF.out.cs.x3;go_region_held3 (fun w'=>w'.cell? ⟨hq,0,none⟩=some (.bool bq)/\w'.cell? ⟨hq,1,none⟩=some (.slice A q.length cc)/\w'.cell? ⟨hr,0,none⟩=some (.bool true)/\w'.cell? ⟨hr,1,none⟩=some (.slice A' r.length Am)) (first|go_keep|exact⟨dK kN bS.out.x0,dK kN bS.out.x1,dK lB bS.out.x2,dK lB bS.out.x3⟩|exact⟨dK n3 (dK kN bS.out.x0),dK n3 (dK kN bS.out.x1),dK n4 (dK lB bS.out.x2),dK n4 (dK lB bS.out.x3)⟩) (first|(go_at_call 95;have K3:=nY;clear K3;refine(vQ true A' _ Am r rfl HF.out.lr HF.out.cr _ (by exact K4.out) HF.out.hlr).mono ?_;rintro e w8 ⟨rfl,bI⟩;have bS:=Lib.hid (AW bI nY.out rfl (Nat.le_refl _));clear z0 z1 z2 z3;have y0:=bS.out.x0;have y1:=bS.out.x1;have y2:=bS.out.x2;have y3:=bS.out.x3;have t2:=bS.out.p2;have t3:=bS.out.p3;have t4:=bS.out.p4;have t5:=bS.out.p5;have t6:=bS.out.p6;have t7:=bS.out.p7;have t8:=bS.out.p8;have t9:=bS.out.p9;have r9:=Lib.hid (eL lp.out bI lp.out.size rfl rfl rfl rfl);have t10:=(dK (u := .bool (decide (bk bq (lv q)<0))) (v := .string (dW (lv q))) m23 t6);have t11:=(dK (u := .bool (decide (bk bq (lv q)<0))) (v := .string (dW (lv q))) m23 t7);clear bI)|(go_at_call 95;refine(vQ bq A _ cc q rfl HF.out.lq HF.out.cq _ (by exact HF.out.rq) HF.out.hlq).mono ?_;rintro e w7 ⟨rfl,bI⟩;have nY:=Lib.hid (AW bI HF.out.cs rfl (Nat.le_refl _));have z0:=nY.out.x0;have z1:=nY.out.x1;have z2:=nY.out.x2;have z3:=nY.out.x3;have K4:=Lib.hid (iJ bI HF.out.rr (Nat.le_refl _));have lp:=Lib.hid (eL HF.out.ey bI HF.out.ey.size rfl rfl rfl rfl);clear bI))
      go_wp2
      refine bodyPost_ret (by simp[results,Tryz.results138,go_sem,t2,t3,t6,t7];try rfl) rfl ?_;exact⟨fun h=>absurd rfl h,fun _ h=>absurd h HZ.out,fun _ _=>by rw[<- Be HF.out.hlq HF.out.vq,<- Be HF.out.hlr HF.out.vr],((((r9.out.setCell (by simp;try omega) _).setCell (by simp;try omega) _).setCell (by simp;try omega) _).setCell (by simp;try omega) _)⟩
 ·have HC:=Lib.hid (IF n1 s1 n2 s2 _ 2 w4 d0 d1 d2 d3 hb)
  have hz1:(gJ n1 s1 n2 s2==0)=false:=beq_eq_false_iff_ne.mpr hb;have hz2:(gJ n1 s1 n2 s2 != 0)=true:=bne_iff_ne.mpr hb;have HN:=Lib.hid hb;clear d0 d1 d2 d3 u0 u1 u2 u3 u4 u5 u6 u7 u8 u9 hsz hkk hb4 hw4 hb h1 h2;go_enter Tryz.func138,Tryz.ntmps138;go_wp2_with fail
  rw[<- HW.out];refine(HC.out).mono ?_;rintro e w' ⟨rfl,hbr⟩;obtain⟨e0,e1,e2,e3,e4,e5,e6,e7,e8,e9⟩:=HK.out _ hbr;have HR:=Lib.hid (HS.out.trans (hbr.mono (by rw[dP.out];omega)));clear hbr;go_wp2
  refine bodyPost_ret (by simp[results,Tryz.results138,go_sem,e0,e1,e2,e3,e4,e5,e6,e7,e8,e9];try rfl) rfl ?_;exact⟨fun _=>rfl,fun h=>absurd h HN.out,fun h=>absurd h HN.out,((((HR.out.setCell (by simp;try omega) _).setCell (by simp;try omega) _).setCell (by simp;try omega) _).setCell (by simp;try omega) _)⟩
def acN (n1:Bool) (s1:ByteArray) (n2:Bool) (s2:ByteArray) (w:World) (e:Ending) (w':World):Prop :=
 (gJ n1 s1 n2 s2≠0->e = .returned (.tuple #[.agg #[.bool false,.string ⟨#[]⟩],.int .i64 (gJ n1 s1 n2 s2)])) /\
 (gJ n1 s1 n2 s2=0->e = .returned (.tuple #[.agg #[.bool false,.string (dW ((Nat.gcd (nv s1).toNat (nv s2).toNat:Nat):Int))],.int .i64 0]))/\Below w.heap.size w w'
structure zj (n G:Nat) (w w1:World) (A:Option Addr) (a:List Int) (c:Nat) (A':Option Addr) (b:List Int) (c':Nat):Prop where
 ra:RL w1 A a
 rb:RL w1 A' b
 la:aG a
 lb:aG b
 tb:Tr b
 na:a.length<=4000
 nb:b.length<=4000
 ca:a.length<=c
 cb:b.length<=c'
 gcd:Nat.gcd (lv a).toNat (lv b).toNat=G
 ey:Below w.heap.size w w1
 e0:w1.cell? ⟨n+2,0,none⟩=some (.bool false)
 e1:w1.cell? ⟨n+2,1,none⟩=some (.string ⟨#[]⟩)
 f0:w1.frozen? ⟨n+2,0,none⟩=false
 f1:w1.frozen? ⟨n+2,1,none⟩=false
 sz:n+2<w1.heap.size
theorem ahx {x y:Int} (hx:0<=x) (hy:0<y):Nat.gcd y.toNat (x%y).toNat=Nat.gcd x.toNat y.toNat:=by
 obtain⟨a,rfl⟩:=Int.eq_ofNat_of_zero_le hx;obtain⟨b,rfl⟩:=Int.eq_ofNat_of_zero_le (Int.le_of_lt hy);rw[show((a:Int)%(b:Int))=((a%b:Nat):Int) from rfl,Int.toNat_natCast,Int.toNat_natCast,Int.toNat_natCast,Nat.gcd_comm b,<- Nat.gcd_rec,Nat.gcd_comm]
theorem zj.dI {n G:Nat} {w w1:World} {A:Option Addr} {a:List Int} {c:Nat} {A':Option Addr} {b:List Int} {c':Nat} (h:zj n G w w1 A a c A' b c') (k:Nat):zj n G w (w1.drewN k) A a c A' b c' :=
 ⟨h.ra.dI _,h.rb.dI _,h.la,h.lb,h.tb,h.na,h.nb,h.ca,h.cb,h.gcd,gI h.ey _,h.e0,h.e1,h.f0,h.f1,h.sz⟩
theorem zj.step {n G:Nat} {w w1 w2:World} {A:Option Addr} {a:List Int} {c:Nat} {A':Option Addr} {b:List Int} {c':Nat} (h:zj n G w w1 A a c A' b c') (hb:Below w1.heap.size w1 w2) (h0:¬ b.length=0) {A2:Option Addr} {r:List Int} {c2:Nat} (hr:RL w2 A2 r) (hl:aG r) (ht:Tr r) (hc:r.length<=c2) (hv:lv r=lv a%lv b):zj n G w w2 A' b c' A2 r c2/\(lv r).toNat<(lv b).toNat:=by
 have hp:0<lv b:=by
  have h1:=(dw h.lb).1;have h2:lv b≠0:=fun e=>h0 (Rz h.tb e h.lb);omega
 have h3:=Int.emod_nonneg (lv a) (Int.ne_of_gt hp);have h4:=Int.emod_lt_of_pos (lv a) hp;have hle:r.length<=b.length:=by
  apply gH ht hl;have:=(dw h.lb).2;omega
 exact⟨⟨h.rb.below hb (Nat.le_refl _),hr,h.lb,hl,ht,h.nb,by have:=h.nb;omega,h.cb,hc,by rw[hv,ahx (dw h.la).1 hp];exact h.gcd,h.ey.trans (hb.mono h.ey.size),(hb.cell h.sz).trans h.e0,(hb.cell h.sz).trans h.e1,(hb.frozen h.sz).trans h.f0,(hb.frozen h.sz).trans h.f1,Nat.lt_of_lt_of_le h.sz hb.size⟩,by omega⟩
theorem al1 (n1:Bool) (s1:ByteArray) (n2:Bool) (s2:ByteArray) (h1:s1.size<=15000) (h2:s2.size<=15000) (w:World) :
  Calls Tryz.prog 137 #[.agg #[.bool n1,.string s1],.agg #[.bool n2,.string s2]] w (acN n1 s1 n2 s2 w):=by
 obtain⟨w4,hw4⟩:∃ w4,w4=(((w.alloc (.cells #[.bool n1,.string s1] 38)).alloc (.cells #[.bool n2,.string s2] 38)).alloc (.cells #[.bool false,.string ⟨#[]⟩] 38)).alloc (.cells #[.bool n1,.string s1,.bool n2,.string s2] 38):=⟨_,rfl⟩
 have hb4:Below w.heap.size w w4:=by rw[hw4];exact((((Below.refl _ _).alloc (Nat.le_refl _) _).alloc (by simp;try omega) _).alloc (by simp;try omega) _).alloc (by simp;try omega) _
 have d0:w4.cell? ⟨w.heap.size+3,0,none⟩=some (.bool n1):=by rw[hw4];simp[go_sem]
 have d1:w4.cell? ⟨w.heap.size+3,1,none⟩=some (.string s1):=by rw[hw4];simp[go_sem]
 have d2:w4.cell? ⟨w.heap.size+3,2,none⟩=some (.bool n2):=by rw[hw4];simp[go_sem]
 have d3:w4.cell? ⟨w.heap.size+3,3,none⟩=some (.string s2):=by rw[hw4];simp[go_sem]
 have u0:w4.cell? ⟨w.heap.size,0,none⟩=some (.bool n1):=by rw[hw4];simp[go_sem]
 have u1:w4.cell? ⟨w.heap.size+1,0,none⟩=some (.bool n2):=by rw[hw4];simp[go_sem]
 have u2:w4.cell? ⟨w.heap.size+2,0,none⟩=some (.bool false):=by rw[hw4];simp[go_sem]
 have u3:w4.cell? ⟨w.heap.size+2,1,none⟩=some (.string ⟨#[]⟩):=by rw[hw4];simp[go_sem]
 have u4:w4.frozen? ⟨w.heap.size+2,0,none⟩=false:=by rw[hw4];simp[go_sem]
 have u5:w4.frozen? ⟨w.heap.size+2,1,none⟩=false:=by rw[hw4];simp[go_sem]
 have hsz:w4.heap.size=w.heap.size+4:=by rw[hw4];simp
 have hkk:∀ (w':World) (h:Below w4.heap.size w4 w'),w'.cell? ⟨w.heap.size,0,none⟩=some (.bool n1)/\w'.cell? ⟨w.heap.size+1,0,none⟩=some (.bool n2)/\w'.cell? ⟨w.heap.size+2,0,none⟩=some (.bool false)/\w'.cell? ⟨w.heap.size+2,1,none⟩=some (.string ⟨#[]⟩)/\w'.frozen? ⟨w.heap.size+2,0,none⟩=false/\w'.frozen? ⟨w.heap.size+2,1,none⟩=false :=
  fun w' h=>⟨(h.cell (by simp[hsz];try omega)).trans u0,(h.cell (by simp[hsz];try omega)).trans u1,(h.cell (by simp[hsz];try omega)).trans u2,(h.cell (by simp[hsz];try omega)).trans u3,(h.frozen (by simp[hsz];try omega)).trans u4,(h.frozen (by simp[hsz];try omega)).trans u5⟩
 have HW:=Lib.hid hw4;have HS:=Lib.hid hb4;have dP:=Lib.hid hsz;have HK:=Lib.hid hkk;unfold acN;by_cases hb:gJ n1 s1 n2 s2=0
 ·obtain⟨o1,o2⟩:=Bd.1 hb
  rw[hb];have HC:=Lib.hid (IZ n1 s1 n2 s2 _ 2 w4 d0 d1 d2 d3 o1 o2);clear d0 d1 d2 d3 u0 u1 u2 u3 u4 u5 hsz hkk hb4 hw4 hb o1 o2 h1 h2;go_enter Tryz.func137,Tryz.ntmps137;go_wp2_with fail
  rw[<- HW.out];refine(HC.out).mono ?_;rintro e w' ⟨g,c,g1,k1,r1,g2,k2,r2,rfl,hg,hc,N1,N2,hbr⟩;have c0:=N1.c0;have c1:=N1.c1;have c2:=N2.c0;have c3:=N2.c1;obtain⟨e0,e1,e2,e3,e4,e5⟩:=HK.out _ hbr;have hg2:g<w'.heap.size:=World.block_lt_of_cell? w' _ c0;have HR:=Lib.hid (HS.out.trans (hbr.mono (by rw[dP.out];omega)));have HL:=Lib.hid (show w.heap.size+2<w'.heap.size by have:=hbr.size;rw[dP.out]at this;omega);have jw:=Lib.hid (show zj w.heap.size (Nat.gcd (nv s1).toNat (nv s2).toNat) w w' (some ⟨g1,0,none⟩) r1 k1 (some ⟨g2,0,none⟩) r2 k2 from ⟨N1.row,N2.row,N1.lim,N2.lim,N2.tr,by rw[N1.len];exact N1.le,by rw[N2.len];exact N2.le,by rw[N1.len];exact Nat.le_refl _,by rw[N2.len];exact Nat.le_refl _,by rw[N1.val,N2.val],HR.out,e2,e3,e4,e5,HL.out⟩);have Ek:=Lib.hid (And.intro N1.len N2.len);clear hg hbr N1 N2;go_wp2
  repeat(go_quiet (fail);try go_wp2)
  rw[<- Ek.out.1,<- Ek.out.2];rw[<- Ek.out.1,<- Ek.out.2]at jw
  clear c0 c1 c2 c3 e0 e1 e2 e3 e4 e5;go_loopg [8,9] (lv r2).toNat (fun gk x y w1=>∃ A a na c A' b nb c',Hid (gk=(lv b).toNat)/\x = .slice A na c/\y = .slice A' nb c'/\Hid (a.length=na/\b.length=nb)/\Hid (zj w.heap.size (Nat.gcd (nv s1).toNat (nv s2).toNat) w w1 A a c A' b c'))
  case atStart=>exact⟨_,_,_,_,_,_,_,_,rfl,rfl,rfl,Lib.hid ⟨rfl,rfl⟩,Lib.hid (zj.dI jw.out _)⟩
  case round =>
   obtain⟨A,a,na,ca,A',b,nb,cb,nW,rfl,rfl,HL,HI⟩:=hrel;have HNA:=Lib.hid (show na<=4000 by have:=HI.out.na;rw[HL.out.1]at this;exact this);have VX:=Lib.hid (show nb<=4000 by have:=HI.out.nb;rw[HL.out.2]at this;exact this);have Cy:=Lib.hid (show na<=ca by have:=HI.out.ca;rw[HL.out.1]at this;exact this);have HCB:=Lib.hid (show nb<=cb by have:=HI.out.cb;rw[HL.out.2]at this;exact this);by_cases hz:nb=0
   ·have ht:decide ((0:Int)<(nb:Int))=false:=decide_eq_false aC
    have ht2:(0<nb)=False:=eq_false aC;have ht3:((0:Int)<(nb:Int))=False:=eq_false aC;have hlz:lv b=0:=by unfold lv;rw[HL.out.2,hz];rfl
    have HG:=Lib.hid (show lv a=((Nat.gcd (nv s1).toNat (nv s2).toNat:Nat):Int) by have h1:=HI.out.gcd;rw[hlz]at h1;have h2:=(dw HI.out.la).1;rw[<- h1];simp;omega);clear hz hlz;go_wp2_with fail
    refine(vQ false A na ca a HL.out.1 HNA.out Cy.out _ HI.out.ra HI.out.la).mono ?_;rintro e w2 ⟨rfl,bI⟩;have q0:=(bI.cell HI.out.sz).trans HI.out.e0;have q1:=(bI.cell HI.out.sz).trans HI.out.e1;have q2:=(bI.frozen HI.out.sz).trans HI.out.f0;have q3:=(bI.frozen HI.out.sz).trans HI.out.f1;have bX:=Lib.hid (HI.out.ey.trans (bI.mono HI.out.ey.size));clear bI;go_wp2
    refine bodyPost_ret (by simp[results,Tryz.results137,go_sem,q0,q1];try rfl) rfl ?_;exact⟨fun h=>absurd rfl h,fun _=>by rw[<- HG.out,show decide (bk false (lv a)<0)=false from decide_eq_false (by have:=(dw HI.out.la).1;simp[bk];omega)],(bX.out.setCell (by simp;try omega) _).setCell (by simp;try omega) _⟩
   ·have ht:decide ((0:Int)<(nb:Int))=true:=decide_eq_true aC
    have ht2:(0<nb)=True:=eq_true aC;have ht3:((0:Int)<(nb:Int))=True:=eq_true aC;have HZ:=Lib.hid (show ¬ b.length=0 by rw[HL.out.2];exact hz);clear hz;go_wp2_with fail
    refine(aaN A A' na nb ca cb a b HL.out.1 HL.out.2 HNA.out VX.out Cy.out HCB.out _ HI.out.ra HI.out.rb HI.out.la HI.out.lb (fun e=>HZ.out (Rz HI.out.tb e HI.out.lb))).mono ?_;rintro e w2 ⟨x,y,q,r,rfl,hq,hr,hlq,ES,hlr,htr,K2,fD,hbr⟩;obtain⟨A1,c1,rfl,hqc,iz⟩:=hq;obtain⟨A2,c2,rfl,hrc,hrl⟩:=hr;have HN:=Lib.hid (HI.out.step hbr HZ.out hrl hlr htr hrc fD);clear hqc iz hrc hrl hlq ES hlr htr K2 fD hbr;go_wp2
    go_roundg (lv r).toNat
    case measure=>rw[nW.out];exact HN.out.2
    case rel=>exact⟨_,b,_,_,_,r,_,_,rfl,rfl,rfl,Lib.hid ⟨HL.out.2,rfl⟩,Lib.hid HN.out.1⟩
 ·have HC:=Lib.hid (IF n1 s1 n2 s2 _ 2 w4 d0 d1 d2 d3 hb)
  have hz1:(gJ n1 s1 n2 s2==0)=false:=beq_eq_false_iff_ne.mpr hb;have hz2:(gJ n1 s1 n2 s2 != 0)=true:=bne_iff_ne.mpr hb;have HN:=Lib.hid hb;clear d0 d1 d2 d3 u0 u1 u2 u3 u4 u5 hsz hkk hb4 hw4 hb h1 h2;go_enter Tryz.func137,Tryz.ntmps137;go_wp2_with fail
  rw[<- HW.out];refine(HC.out).mono ?_;rintro e w' ⟨rfl,hbr⟩;obtain⟨e0,e1,e2,e3,e4,e5⟩:=HK.out _ hbr;have HR:=Lib.hid (HS.out.trans (hbr.mono (by rw[dP.out];omega)));clear hbr;go_wp2
  refine bodyPost_ret (by simp[results,Tryz.results137,go_sem,e0,e1,e2,e3,e4,e5];try rfl) rfl ?_;exact⟨fun _=>rfl,fun h=>absurd h HN.out,(HR.out.setCell (by simp;try omega) _).setCell (by simp;try omega) _⟩
end Go.Proofs.YtcmepkhjggpmeaaGreat
