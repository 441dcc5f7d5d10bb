/-
  Lemmas for WholeTurned and WholeGrows and WholeRises, part 15 of 36: what the program's functions do, and plain facts; without conditions.
-/
import Derived.Test.YtobpioceopfkpaaGreatDoorM14
import Derived.Test.YtobpioceopfkpaaGreatDoorM11
set_option maxRecDepth 100000
set_option maxHeartbeats 4000000
namespace Go.Proofs.YtobpioceopfkpaaGreatDoor
open Go.RowKit
theorem near_third {m:Nat} (h:m ≠ 0):(if m < nearO m then nearO m - m else m - nearO m) * 3≤m+nearO m∧0 < nearO m∧nearO m≤2 * m:=by
 have h1:=lt_bl m
 have h2:=bl_pos h
 have h3:2^(bl m - 1)≤m:=by
  rw [h2,Nat.add_sub_cancel]; exact Nat.log2_self_le h
 have h4:2^bl m=2 * 2^(bl m - 1):=by
  have:bl m=(bl m - 1)+1:=by omega
  rw [this,Nat.pow_succ,Nat.add_sub_cancel]; omega
 have h5:=Nat.two_pow_pos (bl m - 1)
 unfold nearO nearC
 generalize 2^(bl m - 1)=p at *
 by_cases hc:p+(p+p)≤m+m
 ·simp only [hc,decide_true,if_true]
  split <;> omega
 ·simp only [hc,decide_false,Bool.false_eq_true,if_false]
  split <;> omega
theorem AtI.bound {s:Nat} {R:Pr × Pr}:∀ {f n i:Nat} {S T Q:Pr},AtI s R n i f S T Q→R.1.lo≤(s+1) * 2^s∧R.1.hi≤(s+1) * 2^s∧R.2.lo≤2^s∧R.2.hi≤2^s:=by
 intro f
 induction f with
 | zero =>
  intro n i S T Q h
  have h0:T.lo=0:=by
   have hb:=h.hb
   apply Classical.byContradiction; intro h1
   have:=bl_pos h1; omega
  have hR:=h.done h0
  have hi:i≤s+1:=by have:=h.hf; omega
  have hm:i * 2^s≤(s+1) * 2^s:=Nat.mul_le_mul_right _ hi
  rw [hR]
  exact ⟨Nat.le_trans h.hS.1 hm,Nat.le_trans h.hS.2 hm,h.hT.1,h.hT.2⟩
 | succ f ih =>
  intro n i S T Q h
  by_cases h0:T.lo=0
  ·have hR:=h.done h0
   have hi:i≤s+1:=by have:=h.hf; omega
   have hm:i * 2^s≤(s+1) * 2^s:=Nat.mul_le_mul_right _ hi
   rw [hR]
   exact ⟨Nat.le_trans h.hS.1 hm,Nat.le_trans h.hS.2 hm,h.hT.1,h.hT.2⟩
  ·obtain ⟨f',he,h2⟩:=h.step h0
   obtain rfl:f=f':=by omega
   exact ih h2
theorem atanhP_le {num den s:Nat} (h0:0 < den) (h3:num * 3≤den):(atanhP num den s).lo≤(s+3) * 2^s∧(atanhP num den s).hi≤(s+3) * 2^s:=by
 unfold atanhP
 split
 ·exact ⟨Nat.zero_le _,Nat.zero_le _⟩
 ·obtain ⟨h1,h2,h4,h5⟩:=(AtI.start h0 h3 (s:=s)).bound
  have e1:(s+3) * 2^s=(s+1) * 2^s+(2^s+2^s):=by
   rw [show s+3=(s+1)+2 from rfl,Nat.add_mul,Nat.two_mul]
  rw [e1]
  exact ⟨Nat.le_trans h1 (Nat.le_add_right _ _),Nat.add_le_add h2 (Nat.add_le_add h5 h5)⟩
theorem withinN_all {P:Dn→Prop} {lo hi:Nat} {e:Int} {n:Bool} (h1:P (bareN ⟨n,lo,e⟩)) (h2:P (bareN ⟨n,hi,e⟩)):P (withinN lo hi e n).lo∧P (withinN lo hi e n).hi:=by
 unfold withinN; split
 ·exact ⟨h2,h1⟩
 ·exact ⟨h1,h2⟩
theorem Sd_bare {n:Bool} {m:Nat} {e:Int} (hb:bl m≤3500) (he:-4000≤e∧e≤0):Sd (bareN ⟨n,m,e⟩):=by
 by_cases h0:m=0
 ·rw [bareN_zero h0]; exact ⟨Nat.zero_le _,by decide,by decide⟩
 ·rw [bareN_pos h0]
  have k1:=lo_le_bl h0
  have:m / 2^lo m≤m:=Nat.div_le_self _ _
  have k2:=bl_mono this
  have k3:cutN e=e:=by unfold cutN; omega
  refine ⟨?_,?_,?_⟩ <;> simp only [k3] <;> omega
def logX (m s:Nat):In:=withinN ((atanhP (if m < nearO m then nearO m - m else m - nearO m) (m+nearO m) s).lo * 2) ((atanhP (if m < nearO m then nearO m - m else m - nearO m) (m+nearO m) s).hi * 2) (-(s:Int)) (decide (m < nearO m))
def logY (E:Int) (s:Nat):In:=withinN (((atanhP 1 3 s).lo+(atanhP 1 3 s).lo) * E.natAbs) (((atanhP 1 3 s).hi+(atanhP 1 3 s).hi) * E.natAbs) (-(s:Int)) (decide (E < 0))
def logN (m:Nat) (t:Int) (s:Nat):In:=⟨AddD (logX m s).lo (logY (nearE m t) s).lo,AddD (logX m s).hi (logY (nearE m t) s).hi⟩
theorem bl_two_le {x k:Nat} (h:bl x≤k):bl (x * 2)≤k+1:=by
 have:=bl_shl x 1
 rw [Nat.pow_one] at this; omega
theorem Log_r {w:World} {u:Value} {d:Dn} (hu:Ry w u d) (sd:Sd d) (hn:(bareN d).neg=false) (h0:(bareN d).m ≠ 0) (hb:bl (bareN d).m≤60) (s:Nat) (hs:8≤s∧s≤3000) :
  Calls Tryz.prog 129 #[u,.int .i64 (s:Int)] w fun e w'=>∃ r,e=.returned (.tuple #[r,.int .i64 0])∧Iv w' r (logN (bareN d).m (topN (bareN d)) s)∧Below w.heap.size w w':=by
 have CN:=h_ (fun w (h:Ry w u d)=>Near_r h sd hn h0 hb)
 have bt:=topN_le sd.bare
 obtain ⟨a1,k1,c1,rfl⟩:=hu.form
 have HU:=h_ hu
 have HL:Hid (logN (bareN d).m (topN (bareN d)) s=⟨AddD (logX (bareN d).m s).lo (logY (nearE (bareN d).m (topN (bareN d))) s).lo,AddD (logX (bareN d).m s).hi (logY (nearE (bareN d).m (topN (bareN d))) s).hi⟩):=rfl
 generalize topN (bareN d)=t at *
 generalize (bareN d).m=m at *
 obtain ⟨g1,g2,g3⟩:=near_third h0
 have hm:m < 2^60:=Nat.lt_of_lt_of_le (lt_bl m) (Nat.pow_le_pow_right (by decide) hb)
 have hE:-4001≤nearE m t∧nearE m t≤20001:=by unfold nearE; split <;> omega
 have HX:Hid (logX m s=withinN ((atanhP (if m < nearO m then nearO m - m else m - nearO m) (m+nearO m) s).lo * 2) ((atanhP (if m < nearO m then nearO m - m else m - nearO m) (m+nearO m) s).hi * 2) (-(s:Int)) (decide (m < nearO m))):=rfl
 have HY:Hid (logY (nearE m t) s=withinN (((atanhP 1 3 s).lo+(atanhP 1 3 s).lo) * (nearE m t).natAbs) (((atanhP 1 3 s).hi+(atanhP 1 3 s).hi) * (nearE m t).natAbs) (-(s:Int)) (decide (nearE m t < 0))):=rfl
 have CN':=h_ (fun w h=>(show Calls Tryz.prog 152 _ w (fun e w'=>∃ x y,e=.returned (.tuple #[x,y,.bool (decide (m < nearO m)),.int .i64 (nearE m t),.bool true])∧Dg w' x (if m < nearO m then nearO m - m else m - nearO m)∧Dg w' y (m+nearO m)∧Below w.heap.size w w') from CN.out w h))
 clear CN
 generalize logX m s=IX at *
 generalize nearE m t=E at *
 generalize logY E s=IY at *
 generalize (if m < nearO m then nearO m - m else m - nearO m)=num at *
 generalize hden:m+nearO m=den at *
 generalize decide (m < nearO m)=neg at *
 have bA:=atanhP_le (s:=s) (by omega) g1
 have bL:=atanhP_le (num:=1) (den:=3) (s:=s) (by decide) (by decide)
 have bA1:=bl_pow_le bA.1 (by omega)
 have bA2:=bl_pow_le bA.2 (by omega)
 have bL1:=bl_pow_le bL.1 (by omega)
 have bL2:=bl_pow_le bL.2 (by omega)
 have CA:=h_ (fun w u v (h:Dg w u num) (k:Dg w v den)=>Atanh_r (h.rd (Nat.le_trans (bl64 (by omega)) (by decide))) (k.rd (Nat.le_trans (bl64 (by omega)) (by decide))) s (by omega) g1 (by omega) (by omega))
 have CL:=h_ (fun w (t:Tab w)=>Ln2_r t s (by omega) (by omega) (by omega))
 generalize (atanhP num den s).lo=al at *
 generalize (atanhP num den s).hi=ah at *
 generalize (atanhP 1 3 s).lo=ll at *
 generalize (atanhP 1 3 s).hi=lh at *
 have bl1:bl (ll+ll)≤s+22:=bl_add bL1 bL1
 have bl2:bl (lh+lh)≤s+22:=bl_add bL2 bL2
 generalize ll+ll=ll2 at *
 generalize lh+lh=lh2 at *
 have ba1:bl (al * 2)≤s+22:=bl_two_le bA1
 have ba2:bl (ah * 2)≤s+22:=bl_two_le bA2
 obtain ⟨k,hk⟩:∃ k,k=E.natAbs:=⟨_,rfl⟩
 have hk16:bl k≤16:=bl_le (by omega)
 have CT1:=h_ (fun w u v (h:Dg w u al) (k:Dg w v ah)=>ltimes_r (h.rd (by omega)) (k.rd (by omega)) 2 2 rfl (by omega) (by omega) (by omega))
 have CT2:=h_ (fun w u v (h:Dg w u ll2) (l:Dg w v lh2)=>ltimes_r (h.rd (by omega)) (l.rd (by omega)) E k hk (by omega) (by omega) (by omega))
 rw [← hk] at HY
 have bk1:=bl_mul ll2 k
 have bk2:=bl_mul lh2 k
 obtain ⟨e,he⟩:∃ e,e=-(s:Int):=⟨_,rfl⟩
 rw [← he] at HX HY
 have CE1:=h_ (fun w u (h:Pt w u (al * 2) (ah * 2) neg)=>ends_r h (s:Int) e (by omega) (by omega) (by omega) (by omega))
 have CE2:=h_ (fun w u (h:Pt w u (ll2 * k) (lh2 * k) (decide (E < 0)))=>ends_r h (s:Int) e (by omega) (by omega) (by omega) (by omega))
 have SX:=withinN_all (P:=Sd) (n:=neg) (Sd_bare (m:=al * 2) (e:=e) (by omega) (by omega)) (Sd_bare (m:=ah * 2) (e:=e) (by omega) (by omega))
 have SY:=withinN_all (P:=Sd) (n:=decide (E < 0)) (Sd_bare (m:=ll2 * k) (e:=e) (by omega) (by omega)) (Sd_bare (m:=lh2 * k) (e:=e) (by omega) (by omega))
 rw [← HX.out] at CE1 SX
 rw [← HY.out] at CE2 SY
 obtain ⟨xl,xh⟩:=IX
 obtain ⟨yl,yh⟩:=IY
 simp only at SX SY HL
 have CD1:=h_ (fun w u v (h:Cy w u xl) (k:Cy w v yl)=>Add_s h.ry k.ry SX.1 SY.1)
 have CD2:=h_ (fun w u v (h:Cy w u xh) (k:Cy w v yh)=>Add_s h.ry k.ry SX.2 SY.2)
 rw [HL.out]
 generalize AddD xl yl=rl at *
 generalize AddD xh yh=rh at *
 obtain ⟨xn,xm,xe⟩:=xl
 obtain ⟨xn',xm',xe'⟩:=xh
 obtain ⟨yn,ym,ye⟩:=yl
 obtain ⟨yn',ym',ye'⟩:=yh
 obtain ⟨rn,rm,re⟩:=rl
 obtain ⟨rn',rm',re'⟩:=rh
 generalize al * 2=al2 at *
 generalize ah * 2=ah2 at *
 generalize ll2 * k=llk at *
 generalize lh2 * k=lhk at *
 generalize decide (E < 0)=ng at *
 clear hu sd hn h0 hb HL bt g1 g2 g3 hm HX HY hE hden bA bL bA1 bA2 bL1 bL2 bl1 bl2 ba1 ba2 hk hk16 bk1 bk2 he SX SY hs
 go_enter Tryz.func129,Tryz.ntmps129
 have F0:=h_ (Fx.two w 42 #[.bool d.neg,.slice a1 k1 c1,.int .i64 d.e] 92 #[.bool false,.slice none 0 0,.int .i64 0,.bool false,.slice none 0 0,.int .i64 0] rfl rfl)
 have X0:=h_ ((HU.out.alloc (.cells #[.bool d.neg,.slice a1 k1 c1,.int .i64 d.e] 42)).alloc (.cells #[.bool false,.slice none 0 0,.int .i64 0,.bool false,.slice none 0 0,.int .i64 0] 92))
 clear HU
 go_upto_region 1 with (fail)
 generalize World.alloc (World.alloc _ _) _=w0 at F0 X0 ⊢
 have c0_0:=F0.out.c3 0 rfl
 have c1_0:=F0.out.c6 1 rfl
 go_wp2_with fail
 clear c0_0 c1_0
 refine (CN'.out _ X0.out).mono ?_
 rintro q w1 ⟨u,v,rfl,hx,hy,hb⟩
 have F1:=h_ (F0.out.call hb)
 have X1:=h_ (X0.out.below hb)
 clear F0 X0
 have N1:=h_ (hx)
 have D1:=h_ (hy)
 clear hb
 have c0_1:=F1.out.c3 0 rfl
 have c1_1:=F1.out.c6 1 rfl
 clear X1
 obtain ⟨a3,k3,c3,rfl⟩:=N1.out.form
 obtain ⟨a4,k4,c4,rfl⟩:=D1.out.form
 go_wp2_with fail
 clear c0_1 c1_1
 refine (CA.out _ _ _ N1.out D1.out).mono ?_
 rintro q w2 ⟨u,v,rfl,hx,hy,hb⟩
 have F2:=h_ (F1.out.call hb)
 have N2:=h_ (N1.out.below hb)
 have D2:=h_ (D1.out.below hb)
 clear F1 N1 D1
 have A2:=h_ (hx)
 have B2:=h_ (hy)
 clear hb
 have c0_2:=F2.out.c3 0 rfl
 have c1_2:=F2.out.c6 1 rfl
 clear N2 D2
 obtain ⟨a5,k5,c5,rfl⟩:=A2.out.form
 obtain ⟨a6,k6,c6,rfl⟩:=B2.out.form
 go_wp2_with fail
 clear c0_2 c1_2
 refine (CT1.out _ _ _ A2.out B2.out).mono ?_
 rintro q w3 ⟨u,rfl,hu,hb⟩
 have F3:=h_ (F2.out.call hb)
 have A3:=h_ (A2.out.below hb)
 have B3:=h_ (B2.out.below hb)
 clear F2 A2 B2
 have P3:=h_ (hu)
 clear hb
 have c0_3:=F3.out.c3 0 rfl
 have c1_3:=F3.out.c6 1 rfl
 clear A3 B3
 obtain ⟨a7,k7,c7,a8,k8,c8,rfl,h1,h2⟩:=P3.out
 clear h1 h2
 go_upto_region 9 with (fail)
 clear c0_3 c1_3
 have F4:=h_ (F3.out.new 212 #[.slice a7 k7 c7,.slice a8 k8 c8,.bool neg] rfl)
 have P4:=h_ (P3.out.alloc (.cells #[.slice a7 k7 c7,.slice a8 k8 c8,.bool neg] 212))
 clear F3 P3
 obtain ⟨g1,hg1⟩:∃ g,g=(World.heap w3).size:=⟨_,rfl⟩
 rw [← hg1] at F4 ⊢
 clear hg1
 simp only [List.nil_append,List.cons_append] at F4
 generalize World.alloc w3 _=W4 at F4 P4 ⊢
 have c0_4:=F4.out.c3 0 rfl
 have c1_4:=F4.out.c6 1 rfl
 have c2_4:=F4.out.c3 2 rfl
 have Q4:Hid (Pt _ (.agg #[.slice a7 k7 c7,.slice a8 k8 c8,.bool neg]) al2 ah2 neg):=⟨_,_,_,_,_,_,rfl,P4.out.fst.1,P4.out.fst.2⟩
 clear P4
 go_wp2_with fail
 clear c0_4 c1_4 c2_4
 refine (CL.out _ Q4.out.fst.1.tab).mono ?_
 rintro q w5 ⟨u,v,rfl,hx,hy,hb⟩
 have F5:=h_ (F4.out.call hb)
 have Q5:=h_ (Q4.out.below hb)
 clear F4 Q4
 have A5:=h_ (hx)
 have B5:=h_ (hy)
 clear hb
 have c0_5:=F5.out.c3 0 rfl
 have c1_5:=F5.out.c6 1 rfl
 have c2_5:=F5.out.c3 2 rfl
 obtain ⟨b5,e5,d5,rfl⟩:=A5.out.form
 obtain ⟨b6,e6,d6,rfl⟩:=B5.out.form
 go_wp2_with fail
 clear c0_5 c1_5 c2_5
 refine (CE1.out _ _ Q5.out).mono ?_
 rintro q w6 ⟨u,rfl,hu,hb⟩
 have F6:=h_ (F5.out.call hb)
 have Q6:=h_ (Q5.out.below hb)
 have A6:=h_ (A5.out.below hb)
 have B6:=h_ (B5.out.below hb)
 clear F5 Q5 A5 B5
 have I6:=h_ (hu)
 clear hb
 have c0_6:=F6.out.c3 0 rfl
 have c1_6:=F6.out.c6 1 rfl
 have c2_6:=F6.out.c3 2 rfl
 clear Q6
 obtain ⟨b7,e7,d7,b8,e8,d8,rfl,h1,h2⟩:=I6.out.fm
 clear h1 h2
 go_wp2_with fail
 clear c0_6 c1_6 c2_6
 refine (CT2.out _ _ _ A6.out B6.out).mono ?_
 rintro q w7 ⟨u,rfl,hu,hb⟩
 have F7:=h_ (F6.out.call hb)
 have A7:=h_ (A6.out.below hb)
 have B7:=h_ (B6.out.below hb)
 have I7:=h_ (I6.out.below hb)
 clear F6 A6 B6 I6
 have P7:=h_ (hu)
 clear hb
 have c0_7:=F7.out.c3 0 rfl
 have c1_7:=F7.out.c6 1 rfl
 have c2_7:=F7.out.c3 2 rfl
 clear A7 B7
 obtain ⟨b9,e9,d9,m9,n9,o9,rfl,h1,h2⟩:=P7.out
 clear h1 h2
 go_wp2_with fail
 clear c0_7 c1_7 c2_7
 refine (CE2.out _ _ P7.out).mono ?_
 rintro q w8 ⟨u,rfl,hu,hb⟩
 have F8:=h_ (F7.out.call hb)
 have I8:=h_ (I7.out.below hb)
 have P8:=h_ (P7.out.below hb)
 clear F7 I7 P7
 have J8:=h_ (hu)
 clear hb
 have c0_8:=F8.out.c3 0 rfl
 have c1_8:=F8.out.c6 1 rfl
 have c2_8:=F8.out.c3 2 rfl
 clear P8
 obtain ⟨f7,i7,j7,f8,i8,j8,rfl,h1,h2⟩:=J8.out.fm
 clear h1 h2
 go_upto_region 12 with (fail)
 clear c0_8 c1_8 c2_8
 have F9:=h_ (F8.out.new 92 #[.bool xn,.slice b7 e7 d7,.int .i64 xe,.bool xn',.slice b8 e8 d8,.int .i64 xe'] rfl)
 have I9:=h_ (I8.out.alloc (.cells #[.bool xn,.slice b7 e7 d7,.int .i64 xe,.bool xn',.slice b8 e8 d8,.int .i64 xe'] 92))
 have J9:=h_ (J8.out.alloc (.cells #[.bool xn,.slice b7 e7 d7,.int .i64 xe,.bool xn',.slice b8 e8 d8,.int .i64 xe'] 92))
 clear F8 I8 J8
 obtain ⟨g2,hg2⟩:∃ g,g=(World.heap w8).size:=⟨_,rfl⟩
 rw [← hg2] at F9 ⊢
 have hzg2:(World.heap (World.alloc w8 (.cells #[.bool xn,.slice b7 e7 d7,.int .i64 xe,.bool xn',.slice b8 e8 d8,.int .i64 xe'] 92))).size=g2+1:=by rw [hg2]; simp
 clear hg2
 simp only [List.nil_append,List.cons_append] at F9
 generalize World.alloc w8 _=W9 at hzg2 F9 I9 J9 ⊢
 have F10:=h_ (F9.out.new 92 #[.bool yn,.slice f7 i7 j7,.int .i64 ye,.bool yn',.slice f8 i8 j8,.int .i64 ye'] rfl)
 have I10:=h_ (I9.out.alloc (.cells #[.bool yn,.slice f7 i7 j7,.int .i64 ye,.bool yn',.slice f8 i8 j8,.int .i64 ye'] 92))
 have J10:=h_ (J9.out.alloc (.cells #[.bool yn,.slice f7 i7 j7,.int .i64 ye,.bool yn',.slice f8 i8 j8,.int .i64 ye'] 92))
 clear F9 I9 J9
 rw [hzg2] at F10
 have hzg3:(World.heap (World.alloc W9 (.cells #[.bool yn,.slice f7 i7 j7,.int .i64 ye,.bool yn',.slice f8 i8 j8,.int .i64 ye'] 92))).size=g2+1+1:=by simp [hzg2]
 clear hzg2
 simp only [List.nil_append,List.cons_append] at F10
 generalize World.alloc W9 _=W10 at hzg3 F10 I10 J10 ⊢
 have F11:=h_ (F10.out.new 92 #[.bool false,.slice none 0 0,.int .i64 0,.bool false,.slice none 0 0,.int .i64 0] rfl)
 have I11:=h_ (I10.out.alloc (.cells #[.bool false,.slice none 0 0,.int .i64 0,.bool false,.slice none 0 0,.int .i64 0] 92))
 have J11:=h_ (J10.out.alloc (.cells #[.bool false,.slice none 0 0,.int .i64 0,.bool false,.slice none 0 0,.int .i64 0] 92))
 clear F10 I10 J10
 rw [hzg3] at F11
 clear hzg3
 simp only [List.nil_append,List.cons_append] at F11
 generalize World.alloc W10 _=W11 at F11 I11 J11 ⊢
 have c0_11:=F11.out.c3 0 rfl
 have c1_11:=F11.out.c6 1 rfl
 have c2_11:=F11.out.c3 2 rfl
 have c3_11:=F11.out.c6 3 rfl
 have c4_11:=F11.out.c6 4 rfl
 have c5_11:=F11.out.c6 5 rfl
 obtain ⟨_,_,_,_,_,_,he,h1,h2⟩:=I11.out.fm
 simp at he
 obtain ⟨⟨rfl,rfl,rfl⟩,rfl,rfl,rfl⟩:=he
 have XL11:=h_ h1
 have XH11:=h_ h2
 clear h1 h2
 obtain ⟨_,_,_,_,_,_,he,h1,h2⟩:=J11.out.fm
 simp at he
 obtain ⟨⟨rfl,rfl,rfl⟩,rfl,rfl,rfl⟩:=he
 have YL11:=h_ h1
 have YH11:=h_ h2
 clear h1 h2
 clear I11 J11
 go_wp2_with fail
 clear c0_11 c1_11 c2_11 c3_11 c4_11 c5_11
 refine (CD1.out _ _ _ XL11.out YL11.out).mono ?_
 rintro q w12 ⟨u,rfl,hu,hb⟩
 have F12:=h_ (F11.out.call hb)
 have XL12:=h_ (XL11.out.below hb)
 have XH12:=h_ (XH11.out.below hb)
 have YL12:=h_ (YL11.out.below hb)
 have YH12:=h_ (YH11.out.below hb)
 clear F11 XL11 XH11 YL11 YH11
 have R12:=h_ (hu)
 clear hb
 have c0_12:=F12.out.c3 0 rfl
 have c1_12:=F12.out.c6 1 rfl
 have c2_12:=F12.out.c3 2 rfl
 have c3_12:=F12.out.c6 3 rfl
 have c4_12:=F12.out.c6 4 rfl
 have c5_12:=F12.out.c6 5 rfl
 obtain ⟨x7,y7,z7,rfl⟩:=R12.out.fm
 go_upto_region 13 with (fail)
 clear c0_12 c1_12 c2_12 c3_12 c4_12 c5_12
 obtain ⟨f,p⟩:=F12.out.s6_0 5 rfl (.bool rn) (.slice x7 y7 z7) (.int .i64 re) rfl rfl rfl
 generalize (World.setCell (World.setCell (World.setCell _ _ _) _ _) _ _)=W at f p ⊢
 have F13:=h_ (f)
 have XL13:=h_ (XL12.out.kp p)
 have XH13:=h_ (XH12.out.kp p)
 have YL13:=h_ (YL12.out.kp p)
 have YH13:=h_ (YH12.out.kp p)
 have R13:=h_ (R12.out.kp p)
 clear F12 XL12 XH12 YL12 YH12 R12
 clear f p
 simp only [List.set_cons_zero,List.set_cons_succ] at F13
 have c0_13:=F13.out.c3 0 rfl
 have c1_13:=F13.out.c6 1 rfl
 have c2_13:=F13.out.c3 2 rfl
 have c3_13:=F13.out.c6 3 rfl
 have c4_13:=F13.out.c6 4 rfl
 have c5_13:=F13.out.c6 5 rfl
 go_wp2_with fail
 clear c0_13 c1_13 c2_13 c3_13 c4_13 c5_13
 refine (CD2.out _ _ _ XH13.out YH13.out).mono ?_
 rintro q w14 ⟨u,rfl,hu,hb⟩
 have F14:=h_ (F13.out.call hb)
 have XL14:=h_ (XL13.out.below hb)
 have XH14:=h_ (XH13.out.below hb)
 have YL14:=h_ (YL13.out.below hb)
 have YH14:=h_ (YH13.out.below hb)
 have R14:=h_ (R13.out.below hb)
 clear F13 XL13 XH13 YL13 YH13 R13
 have S14:=h_ (hu)
 clear hb
 have c0_14:=F14.out.c3 0 rfl
 have c1_14:=F14.out.c6 1 rfl
 have c2_14:=F14.out.c3 2 rfl
 have c3_14:=F14.out.c6 3 rfl
 have c4_14:=F14.out.c6 4 rfl
 have c5_14:=F14.out.c6 5 rfl
 obtain ⟨x8,y8,z8,rfl⟩:=S14.out.fm
 go_upto_region 14 with (fail)
 clear c0_14 c1_14 c2_14 c3_14 c4_14 c5_14
 obtain ⟨f,p⟩:=F14.out.s6_3 5 rfl (.bool rn') (.slice x8 y8 z8) (.int .i64 re') rfl rfl rfl
 generalize (World.setCell (World.setCell (World.setCell _ _ _) _ _) _ _)=W at f p ⊢
 have F15:=h_ (f)
 have XL15:=h_ (XL14.out.kp p)
 have XH15:=h_ (XH14.out.kp p)
 have YL15:=h_ (YL14.out.kp p)
 have YH15:=h_ (YH14.out.kp p)
 have R15:=h_ (R14.out.kp p)
 have S15:=h_ (S14.out.kp p)
 clear F14 XL14 XH14 YL14 YH14 R14 S14
 clear f p
 simp only [List.set_cons_zero,List.set_cons_succ] at F15
 have c0_15:=F15.out.c3 0 rfl
 have c1_15:=F15.out.c6 1 rfl
 have c2_15:=F15.out.c3 2 rfl
 have c3_15:=F15.out.c6 3 rfl
 have c4_15:=F15.out.c6 4 rfl
 have c5_15:=F15.out.c6 5 rfl
 go_wp2
 obtain ⟨f0,p0⟩:=F15.out.s6 1 rfl (.bool rn) (.slice x7 y7 z7) (.int .i64 re) (.bool rn') (.slice x8 y8 z8) (.int .i64 re') rfl rfl rfl rfl rfl rfl
 have p:=p0
 have f:=f0
 clear f0 p0
 generalize (World.setCell (World.setCell (World.setCell (World.setCell (World.setCell (World.setCell _ _ _) _ _) _ _) _ _) _ _) _ _)=W at f p ⊢
 have g1:=f.c6 1 rfl
 refine bodyPost_ret (v:=.tuple #[.agg #[.bool rn,.slice x7 y7 z7,.int .i64 re,.bool rn',.slice x8 y8 z8,.int .i64 re'],.int .i64 0]) (by simp [results,Tryz.results129,go_sem,g1]) rfl ?_
 exact ⟨_,rfl,⟨_,_,_,_,_,_,rfl,R15.out.kp p,S15.out.kp p⟩,f.b⟩
structure End1 (B:Nat) (d:Dn):Prop where
 lo:-128≤d.e
 hi:d.e≤30
 bl:bl d.m≤140
 b1:-(B:Int)≤zv 128 d
 b2:zv 128 d≤B
theorem End1.zk {B:Nat} {d:Dn} (h:End1 B d):Zk 128 d:=⟨h.lo,by have:=h.lo; omega,by have:=h.hi; omega⟩
theorem bareN_parts {n:Bool} {m:Nat} {e:Int} (he:-100000≤e∧e≤100000):bl (bareN ⟨n,m,e⟩).m≤bl m∧(m ≠ 0→e≤(bareN ⟨n,m,e⟩).e∧(bareN ⟨n,m,e⟩).e≤e+bl m)∧(m=0→(bareN ⟨n,m,e⟩).e=0):=by
 by_cases h0:m=0
 ·subst h0
  rw [bareN_zero (d:=⟨n,0,e⟩) rfl]
  exact ⟨Nat.zero_le _,fun h=>absurd rfl h,fun _=>rfl⟩
 ·rw [bareN_pos (d:=⟨n,m,e⟩) h0]
  have k1:=lo_le_bl h0
  have:m / 2^lo m≤m:=Nat.div_le_self _ _
  have k2:=bl_mono this
  have k3:cutN e=e:=by unfold cutN; omega
  simp only [k3]
  exact ⟨k2,fun _=>⟨by omega,by omega⟩,fun h=>absurd h h0⟩
theorem End1.bare {B:Nat} {d:Dn} (h:End1 B d):-128≤(bareN d).e∧(bareN d).e≤170∧Go.Proofs.YtobpioceopfkpaaGreatDoor.bl (bareN d).m≤140∧zv 128 (bareN d)=zv 128 d:=by
 obtain ⟨n,m,e⟩:=d
 obtain ⟨h1,h2,h3,h4,h5⟩:=h
 simp only at h1 h2 h3
 obtain ⟨k1,k2,k3⟩:=bareN_parts (n:=n) (m:=m) (e:=e) (by omega)
 refine ⟨?_,?_,by omega,zv_bareN (by decide) h1 ⟨by show -2147483648≤e; omega,by show e≤2147483648; omega⟩⟩
 ·by_cases h0:m=0
  ·rw [k3 h0]; decide
  ·have:=(k2 h0).1; omega
 ·by_cases h0:m=0
  ·rw [k3 h0]; decide
  ·have:=(k2 h0).2; omega
structure Vb (K p:Nat) (d:Dn):Prop where
 lo:-(K:Int)≤d.e
 nz:d.m=0→d.e=0
 b:mz K d≤2^p
theorem Vb.top {K p:Nat} {d:Dn} (h:Vb K p d) (h0:d.m ≠ 0):d.e+K≤p:=by
 have h1:=h.b
 have h2:=h.lo
 unfold mz at h1
 have h3:2^(d.e+(K:Int)).toNat≤2^p:=Nat.le_trans (Nat.le_mul_of_pos_left _ (by omega)) h1
 have h4:=(Nat.pow_le_pow_iff_right (by decide:1 < 2)).1 h3
 omega
theorem Vb.hi {K p:Nat} {d:Dn} (h:Vb K p d):d.e≤max 0 ((p:Int) - K):=by
 by_cases h0:d.m=0
 ·rw [h.nz h0]; omega
 ·have:=h.top h0; omega
theorem Vb.bl {K p:Nat} {d:Dn} (h:Vb K p d):Go.Proofs.YtobpioceopfkpaaGreatDoor.bl d.m≤p+1:=by
 apply bl_le
 have h1:=h.b
 unfold mz at h1
 have h2:d.m≤d.m * 2^(d.e+(K:Int)).toNat:=Nat.le_mul_of_pos_right _ (Nat.two_pow_pos _)
 have h3:2^p < 2^(p+1):=Nat.pow_lt_pow_right (by decide) (by omega)
 omega
theorem Vb.span {K p:Nat} {d:Dn} (h:Vb K p d) (hK:K≤100000) (hp:p≤100000):-100000≤d.e∧d.e≤100000:=by
 have h1:=h.lo; have h2:=h.hi; omega
theorem Vb.zk {K p:Nat} {d:Dn} (h:Vb K p d) (hK:K≤100000) (hp:p≤100000):Zk K d:=by
 have:=h.span hK hp; exact ⟨h.lo,by omega,by omega⟩
theorem Vb.mono {K p q:Nat} {d:Dn} (h:Vb K p d) (hpq:p≤q):Vb K q d:=⟨h.lo,h.nz,Nat.le_trans h.b (Nat.pow_le_pow_right (by decide) hpq)⟩
theorem Vb.of_bare {K p:Nat} {d:Dn} (hK:K≤100000) (h:-(K:Int)≤d.e∧d.e≤1000000) (hb:mz K d≤2^p):Vb K p (bareN d):=by
 refine ⟨bareN_low (by omega) h.1 ⟨by omega,by omega⟩,?_,by rw [mz_bareN (by omega) h.1 ⟨by omega,by omega⟩]; exact hb⟩
 intro h0
 rw [bareN_zero (bareN_m0.1 h0)]
theorem Vb.bare {K p:Nat} {d:Dn} (h:Vb K p d) (hK:K≤100000) (hp:p≤100000):Vb K p (bareN d)∧zv K (bareN d)=zv K d:=by
 have h1:=h.span hK hp
 exact ⟨Vb.of_bare hK ⟨h.lo,by omega⟩ h.b,zv_bareN (by omega) h.lo ⟨by omega,by omega⟩⟩
theorem mz_abs (K:Int) (d:Dn):mz K d=(zv K d).natAbs:=by unfold zv; split <;> omega
theorem addD_low {K:Int} {A B:Dn} (hK:0≤K) (ha:-K≤A.e) (hb:-K≤B.e) (hA:-100000≤A.e∧A.e≤100000) (hB:-100000≤B.e∧B.e≤100000) (na:A.m=0→A.e=0) (nb:B.m=0→B.e=0) :
  -K≤(addD A B).e∧((addD A B).m=0→(addD A B).e=0):=by
 unfold addD
 split
 ·exact ⟨hb,nb⟩
 ·split
  ·exact ⟨ha,na⟩
  ·obtain ⟨low,hlow⟩:∃ low,low=min A.e B.e:=⟨_,rfl⟩
   rw [← hlow]
   have key:∀ g r,-K≤(bareN ⟨g,r,low⟩).e∧((bareN ⟨g,r,low⟩).m=0→(bareN ⟨g,r,low⟩).e=0):=by
    intro g r
    refine ⟨bareN_low hK (by show -K≤low; omega) ⟨by show -2147483648≤low; omega,by show low≤2147483648; omega⟩,fun h0=>?_⟩
    rw [bareN_zero (bareN_m0.1 h0)]
   split
   ·exact key _ _
   ·split
    ·exact key _ _
    ·exact key _ _
theorem Vb.add {K p:Nat} {a c:Dn} (ha:Vb K p a) (hc:Vb K p c) (hK:K≤100000) (hp:p≤100000):Vb K (p+1) (AddD a c)∧zv K (AddD a c)=zv K a+zv K c:=by
 obtain ⟨a1,a2⟩:=ha.bare hK hp
 obtain ⟨c1,c2⟩:=hc.bare hK hp
 have a3:=a1.span hK hp
 have c3:=c1.span hK hp
 have hz:zv K (AddD a c)=zv K a+zv K c:=by
  show zv K (addD (bareN a) (bareN c))=_
  rw [zv_add (by omega) ⟨a1.lo,by omega⟩ ⟨c1.lo,by omega⟩ (by omega),a2,c2]
 obtain ⟨l1,l2⟩:=addD_low (K:=(K:Int)) (by omega) a1.lo c1.lo a3 c3 a1.nz c1.nz
 refine ⟨⟨l1,l2,?_⟩,hz⟩
 rw [mz_abs,hz]
 have b1:=ha.b
 have b2:=hc.b
 rw [mz_abs] at b1 b2
 rw [Nat.pow_succ]
 omega
theorem Vb.mul {K p K' p':Nat} {a c:Dn} (ha:Vb K p a) (hc:Vb K' p' c) (hK:K≤20000) (hp:p≤20000) (hK':K'≤20000) (hp':p'≤20000):Vb (K+K') (p+p') (MulD a c)∧zv (K+K':Nat) (MulD a c)=zv K a * zv K' c∧Go.Proofs.YtobpioceopfkpaaGreatDoor.bl (MulD a c).m≤Go.Proofs.YtobpioceopfkpaaGreatDoor.bl a.m+Go.Proofs.YtobpioceopfkpaaGreatDoor.bl c.m:=by
 obtain ⟨a1,a2⟩:=ha.bare (by omega) (by omega)
 obtain ⟨c1,c2⟩:=hc.bare (by omega) (by omega)
 have a3:=a1.span (by omega) (by omega)
 have c3:=c1.span (by omega) (by omega)
 have a4:=a1.hi
 have c4:=c1.hi
 have a5:=a1.lo
 have c5:=c1.lo
 have hz0:=zv_mul (K:=K) (K':=K') (A:=bareN a) (B:=bareN c) a5 c5
 have hle:-((K+K':Nat):Int)≤(bareN a).e+(bareN c).e:=by omega
 have hspan:-2147483648≤(bareN a).e+(bareN c).e∧(bareN a).e+(bareN c).e≤2147483648:=by omega
 have hz1:zv (K+K':Nat) (MulD a c)=zv (K+K':Nat) ⟨(bareN a).neg != (bareN c).neg,(bareN a).m * (bareN c).m,(bareN a).e+(bareN c).e⟩ :=
  zv_bareN (by omega) hle hspan
 have hcast:((K+K':Nat):Int)=(K:Int)+(K':Int):=by omega
 have hz:zv (K+K':Nat) (MulD a c)=zv K a * zv K' c:=by rw [hz1,hcast,hz0,a2,c2]
 refine ⟨Vb.of_bare (by omega) ⟨hle,by show (bareN a).e+(bareN c).e≤1000000; omega⟩ ?_,hz,?_⟩
 ·rw [mz_abs,hcast,hz0,a2,c2,Int.natAbs_mul,← mz_abs,← mz_abs,Nat.pow_add]
  exact Nat.mul_le_mul ha.b hc.b
 ·have k1:=(bareN_parts (n:=(bareN a).neg != (bareN c).neg) (m:=(bareN a).m * (bareN c).m) (e:=(bareN a).e+(bareN c).e) (by omega)).1
  have k2:=bl_mul (bareN a).m (bareN c).m
  have k3:Go.Proofs.YtobpioceopfkpaaGreatDoor.bl (bareN a).m≤Go.Proofs.YtobpioceopfkpaaGreatDoor.bl a.m:=(bareN_parts (n:=a.neg) (m:=a.m) (e:=a.e) (by have:=ha.span (by omega) (by omega); omega)).1
  have k4:Go.Proofs.YtobpioceopfkpaaGreatDoor.bl (bareN c).m≤Go.Proofs.YtobpioceopfkpaaGreatDoor.bl c.m:=(bareN_parts (n:=c.neg) (m:=c.m) (e:=c.e) (by have:=hc.span (by omega) (by omega); omega)).1
  exact Nat.le_trans k1 (by omega)
theorem within_vb {n:Bool} {lo hi s p:Nat} (h1:lo≤2^p) (h2:hi≤2^p) (hs:s≤10000) (hp:p≤20000) :
  Vb s p (withinN lo hi (-(s:Int)) n).lo∧Vb s p (withinN lo hi (-(s:Int)) n).hi∧zv s (withinN lo hi (-(s:Int)) n).lo≤zv s (withinN lo hi (-(s:Int)) n).hi:=by
 have key:∀ m:Nat,m≤2^p→Vb s p (bareN ⟨n,m,-(s:Int)⟩):=by
  intro m hm
  refine Vb.of_bare (by omega) ⟨by show -(s:Int)≤-(s:Int); omega,by show -(s:Int)≤1000000; omega⟩ ?_
  unfold mz
  simp only
  rw [show (-(s:Int)+(s:Int)).toNat=0 by omega,Nat.pow_zero,Nat.mul_one]
  exact hm
 have e1:=key lo h1
 have e2:=key hi h2
 obtain ⟨p1,p2⟩:=withinN_all (P:=Vb s p) e1 e2
 refine ⟨p1,p2,?_⟩
 unfold withinN
 have hc:=CmpD_zk (K:=s) (by omega) (e1.zk (by omega) (by omega)) (e2.zk (by omega) (by omega))
 split
 ·rename_i h
  rw [hc,cmpI_pos_iff] at h
  exact Int.le_of_lt h
 ·rename_i h
  rw [hc,cmpI_pos_iff] at h
  exact Int.not_lt.1 h
theorem pow12 {s:Nat} (hs:s≤3000):(s+3) * 2^s≤2^(s+12):=by
 rw [Nat.pow_add,Nat.mul_comm]
 exact Nat.mul_le_mul_left _ (by omega)
theorem p24 (s:Nat):(2^(s+12)+2^(s+12)) * 2048=2^(s+24):=by
 rw [← Nat.mul_two,Nat.mul_assoc,show s+24=s+12+12 from rfl,Nat.pow_add 2 (s+12) 12]
theorem logX_vb {m s:Nat} (h0:m ≠ 0) (hs:s≤3000):Vb s (s+13) (logX m s).lo∧Vb s (s+13) (logX m s).hi∧zv s (logX m s).lo≤zv s (logX m s).hi:=by
 obtain ⟨g1,g2,g3⟩:=near_third h0
 have h:=atanhP_le (num:=if m < nearO m then nearO m - m else m - nearO m) (den:=m+nearO m) (s:=s) (by omega) g1
 have h2:=pow12 hs
 have h3:2^(s+12) * 2=2^(s+13):=(Nat.pow_succ (n:=2) (m:=s+12)).symm
 unfold logX
 generalize (if m < nearO m then nearO m - m else m - nearO m)=num at *
 generalize decide (m < nearO m)=neg
 generalize (atanhP num (m+nearO m) s).lo=a at *
 generalize (atanhP num (m+nearO m) s).hi=b at *
 have k1:a * 2≤2^(s+13):=Nat.le_trans (Nat.mul_le_mul_right 2 (Nat.le_trans h.1 h2)) (Nat.le_of_eq h3)
 have k2:b * 2≤2^(s+13):=Nat.le_trans (Nat.mul_le_mul_right 2 (Nat.le_trans h.2 h2)) (Nat.le_of_eq h3)
 exact within_vb k1 k2 (by omega) (by omega)
theorem logY_vb {E:Int} {s:Nat} (hE:E.natAbs≤2048) (hs:s≤3000):Vb s (s+24) (logY E s).lo∧Vb s (s+24) (logY E s).hi∧zv s (logY E s).lo≤zv s (logY E s).hi:=by
 have h:=atanhP_le (num:=1) (den:=3) (s:=s) (by decide) (by decide)
 have h2:=pow12 hs
 have h3:=p24 s
 unfold logY
 generalize (atanhP 1 3 s).lo=a at *
 generalize (atanhP 1 3 s).hi=b at *
 have k1:(a+a) * E.natAbs≤2^(s+24):=Nat.le_trans (Nat.mul_le_mul (Nat.add_le_add (Nat.le_trans h.1 h2) (Nat.le_trans h.1 h2)) hE) (Nat.le_of_eq h3)
 have k2:(b+b) * E.natAbs≤2^(s+24):=Nat.le_trans (Nat.mul_le_mul (Nat.add_le_add (Nat.le_trans h.2 h2) (Nat.le_trans h.2 h2)) hE) (Nat.le_of_eq h3)
 exact within_vb k1 k2 (by omega) (by omega)
theorem logN_vb {m s:Nat} {t:Int} (h0:m ≠ 0) (hE:(nearE m t).natAbs≤2048) (hs:s≤3000):Vb s (s+25) (logN m t s).lo∧Vb s (s+25) (logN m t s).hi∧zv s (logN m t s).lo≤zv s (logN m t s).hi ∧
  zv s (logN m t s).lo=zv s (logX m s).lo+zv s (logY (nearE m t) s).lo∧zv s (logN m t s).hi=zv s (logX m s).hi+zv s (logY (nearE m t) s).hi:=by
 have hx:=logX_vb h0 hs
 have hy:=logY_vb hE hs
 unfold logN
 generalize logX m s=X at *
 generalize logY (nearE m t) s=Y at *
 obtain ⟨x1,x2,x3⟩:=hx
 obtain ⟨y1,y2,y3⟩:=hy
 obtain ⟨X1,X2⟩:=X
 obtain ⟨Y1,Y2⟩:=Y
 simp only at x1 x2 x3 y1 y2 y3 ⊢
 obtain ⟨s1,s2⟩:=(x1.mono (by omega:s+13≤s+24)).add y1 (by omega) (by omega)
 obtain ⟨t1,t2⟩:=(x2.mono (by omega:s+13≤s+24)).add y2 (by omega) (by omega)
 refine ⟨s1,t1,?_,s2,t2⟩
 rw [s2,t2]
 omega
def awayN (z:Int) (odd half below:Bool):Bool:=if z=0 then half && (below || odd) else (half || below) && (z == 2)
theorem up_r (z:Int) (hz:0≤z∧z≤3) (w:World):Calls Tryz.prog 120 #[.int .i64 z,.bool false] w fun e w'=>e=.returned (.bool (z == 2))∧w=w':=by
 rcases (by omega:z=0 ∨ z=1 ∨ z=2 ∨ z=3) with rfl | rfl | rfl | rfl <;> clear hz <;>
 ·go_enter Tryz.func120,Tryz.ntmps120
  go_wp2
  go_ret
  exact ⟨rfl,rfl⟩
theorem away_r (z:Int) (hz:0≤z∧z≤3) (odd half below:Bool) (w:World):Calls Tryz.prog 122 #[.int .i64 z,.bool false,.bool odd,.bool half,.bool below] w fun e w'=>e=.returned (.bool (awayN z odd half below))∧w=w':=by
 have CU:=h_ (fun z hz w=>up_r z hz w)
 rcases (by omega:z=0 ∨ z=1 ∨ z=2 ∨ z=3) with rfl | rfl | rfl | rfl <;> clear hz <;> cases half <;> cases below <;> cases odd <;>
 ·go_enter Tryz.func122,Tryz.ntmps122
  go_wp2_with (refine (CU.out _ (by decide) _).mono ?_; rintro q w1 ⟨rfl,rfl⟩)
  go_ret
  exact ⟨rfl,rfl⟩
def partsN (m:Nat) (n:Int):Nat × Bool × Bool:=if n≤0 then (m * 2^(-n).toNat,false,false) else (m / 2^n.toNat,m / 2^(n.toNat - 1) % 2 == 1,decide (m % 2^(n.toNat - 1) ≠ 0))
theorem parts_r {w:World} {u:Value} {d:Dn} (hu:Cy w u d) (t n:Int) (hn:n=t - d.e) (hnb:-10000≤n∧n≤10000) (hb:bl d.m≤50000) :
  Calls Tryz.prog 121 #[u,.int .i64 t] w fun e w'=>∃ x,e=.returned (.tuple #[x,.bool (partsN d.m n).2.1,.bool (partsN d.m n).2.2])∧Dg w' x (partsN d.m n).1∧Below w.heap.size w w':=by
 obtain ⟨neg,m,e⟩:=d
 simp only at hn hb
 obtain ⟨a1,k1,c1,rfl⟩:=hu.fm
 have HU:=h_ (hu.dm.rd (by omega))
 have q1:IntKind.i64.wrap (t - e)=n:=by rw [IntWalk.i64_in _ (by omega)]; exact hn.symm
 have HP:partsN m n=if n≤0 then (m * 2^(-n).toNat,false,false) else (m / 2^n.toNat,m / 2^(n.toNat - 1) % 2 == 1,decide (m % 2^(n.toNat - 1) ≠ 0)):=rfl
 simp only
 by_cases h0:n≤0
 ·rw [if_pos h0] at HP
  rw [HP]
  obtain ⟨k,hk⟩:∃ k,k=(-n).toNat:=⟨_,rfl⟩
  have q2:IntKind.i64.wrap (-n)=(k:Int):=by rw [IntWalk.i64_in _ (by omega)]; omega
  have z1:decide (n≤0)=true:=decide_eq_true h0
  have CS:=h_ (fun w (h:Rd w (.slice a1 k1 c1) m)=>shl_s h k (by omega))
  rw [← hk]
  simp only
  clear hu hn hk HP h0 hnb
  go_enter Tryz.func121,Tryz.ntmps121
  have F0:=h_ (Fx.one w 42 #[.bool neg,.slice a1 k1 c1,.int .i64 e] rfl)
  have X0:=h_ (HU.out.alloc (.cells #[.bool neg,.slice a1 k1 c1,.int .i64 e] 42))
  clear HU
  go_upto_region 1 with (fail)
  generalize World.alloc _ _=w0 at F0 X0 ⊢
  have c0_0:=F0.out.c3 0 rfl
  go_wp2_with fail
  clear c0_0
  refine (CS.out _ X0.out).mono ?_
  rintro q w1 ⟨u,rfl,hu,hb⟩
  have F1:=h_ (F0.out.call hb)
  have X1:=h_ (X0.out.below hb)
  clear F0 X0
  have U1:=h_ (hu)
  clear hb
  have c0_1:=F1.out.c3 0 rfl
  obtain ⟨a3,k3,c3,rfl⟩:=U1.out.form
  go_wp2
  refine bodyPost_ret (v:=.tuple #[.slice a3 k3 c3,.bool false,.bool false]) (by simp [results,Tryz.results121,go_sem]) rfl ?_
  exact ⟨_,rfl,U1.out,F1.out.b⟩
 ·rw [if_neg h0] at HP
  rw [HP]
  obtain ⟨k,hk⟩:∃ k,k=n.toNat:=⟨_,rfl⟩
  obtain ⟨k',hk'⟩:∃ k',k'=n.toNat - 1:=⟨_,rfl⟩
  have q2:IntKind.i64.wrap (n - 1)=(k':Int):=by rw [IntWalk.i64_in _ (by omega)]; omega
  have z1:decide (n≤0)=false:=decide_eq_false h0
  have CS:=h_ (fun w (h:Rd w (.slice a1 k1 c1) m)=>shr_r h k (by omega))
  have CT:=h_ (fun w (h:Rd w (.slice a1 k1 c1) m)=>shr_r h k' (by omega))
  have hq:(k:Int)=n:=by omega
  rw [hq] at CS
  rw [← hk',← hk]
  have hbl:bl (m / 2^k')≤6000000:=Nat.le_trans (bl_mono (Nat.div_le_self _ _)) (by omega)
  simp only
  generalize m / 2^k=x at *
  generalize m / 2^k'=y at *
  generalize decide (m % 2^k' ≠ 0)=g at *
  generalize decide (m % 2^k ≠ 0)=g' at *
  have CO:=h_ (fun w u (h:Dg w u y)=>odd_r (h.rd hbl))
  generalize (y % 2 == 1)=o at *
  clear hu hn hk hk' hq HP h0 hnb hb
  go_enter Tryz.func121,Tryz.ntmps121
  have F0:=h_ (Fx.one w 42 #[.bool neg,.slice a1 k1 c1,.int .i64 e] rfl)
  have X0:=h_ (HU.out.alloc (.cells #[.bool neg,.slice a1 k1 c1,.int .i64 e] 42))
  clear HU
  go_upto_region 1 with (fail)
  generalize World.alloc _ _=w0 at F0 X0 ⊢
  have c0_0:=F0.out.c3 0 rfl
  go_wp2_with fail
  clear c0_0
  refine (CS.out _ X0.out).mono ?_
  rintro q w1 ⟨u,rfl,hu,hb⟩
  have F1:=h_ (F0.out.call hb)
  have X1:=h_ (X0.out.below hb)
  clear F0 X0
  have U1:=h_ (hu)
  clear hb
  have c0_1:=F1.out.c3 0 rfl
  obtain ⟨a3,k3,c3,rfl⟩:=U1.out.form
  go_wp2_with fail
  clear c0_1
  refine (CT.out _ X1.out).mono ?_
  rintro q w2 ⟨u,rfl,hu,hb⟩
  have F2:=h_ (F1.out.call hb)
  have X2:=h_ (X1.out.below hb)
  have U2:=h_ (U1.out.below hb)
  clear F1 X1 U1
  have V2:=h_ (hu)
  clear hb
  have c0_2:=F2.out.c3 0 rfl
  obtain ⟨a4,k4,c4,rfl⟩:=V2.out.form
  go_wp2_with fail
  refine (CO.out _ _ V2.out).mono ?_
  rintro q w3 ⟨rfl,rfl⟩
  go_wp2
  refine bodyPost_ret (v:=.tuple #[.slice a3 k3 c3,.bool o,.bool g]) (by simp [results,Tryz.results121,go_sem]) rfl ?_
  exact ⟨_,rfl,U2.out,F2.out.b⟩
theorem rsigned_r (b:Nat) (w:World):Calls Tryz.prog 88 #[.int .u64 (b:Int),.bool false] w fun e w'=>e=.returned (.int .u64 (b:Int))∧w=w':=by
 go_enter Tryz.func88,Tryz.ntmps88
 go_wp2
 go_ret
 exact ⟨rfl,rfl⟩
end Go.Proofs.YtobpioceopfkpaaGreatDoor
