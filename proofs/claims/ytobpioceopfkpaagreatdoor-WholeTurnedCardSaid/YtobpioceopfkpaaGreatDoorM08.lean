/-
  Lemmas for WholeTurned and WholeGrows and WholeRises, part 8 of 36: what the program's functions do, and plain facts; without conditions.
-/
import Derived.Test.YtobpioceopfkpaaGreatDoorM07
import Derived.Deep.RegionHeld3
import Derived.Test.YtobpioceopfkpaaGreatDoorM02
import Derived.Test.YtobpioceopfkpaaGreatDoorM05
import Derived.Deep.DeepCutAuto
import Derived.Deep.CutBlock
set_option maxRecDepth 100000
set_option maxHeartbeats 4000000
namespace Go.Proofs.YtobpioceopfkpaaGreatDoor
open Go.RowKit
theorem bl_shl2 (n k:Nat):bl (n * 2^k)≤bl n+k:=by
 apply bl_le
 rw [Nat.pow_add]
 exact Nat.mul_lt_mul_of_pos_right (lt_bl n) (Nat.two_pow_pos _)
theorem cmpN_neg2 {m n:Nat}:(cmpN m n < 0) ↔ m < n:=by unfold cmpN; split; omega; split <;> omega
def addD (A B:Dn):Dn :=
 if A.m=0 then B else if B.m=0 then A else
  if A.neg=B.neg then bareN ⟨A.neg,widN A.m (A.e - min A.e B.e)+widN B.m (B.e - min A.e B.e),min A.e B.e⟩
  else if widN A.m (A.e - min A.e B.e) < widN B.m (B.e - min A.e B.e) then bareN ⟨B.neg,widN B.m (B.e - min A.e B.e) - widN A.m (A.e - min A.e B.e),min A.e B.e⟩
  else bareN ⟨A.neg,widN A.m (A.e - min A.e B.e) - widN B.m (B.e - min A.e B.e),min A.e B.e⟩
def AddD (a b:Dn):Dn:=addD (bareN a) (bareN b)
theorem topN_le {d:Dn} (h:bl d.m≤4000∧-4000≤d.e∧d.e≤8000):-4000≤topN d∧topN d≤20000:=by
 unfold topN
 by_cases h0:d.m=0
 ·rw [if_pos h0]; omega
 ·rw [if_neg h0,bareN_pos h0]
  have k1:=lo_le_bl h0
  have k3:cutN d.e=d.e:=by unfold cutN; omega
  have:d.m / 2^lo d.m≤d.m:=Nat.div_le_self _ _
  have k2:=bl_mono this
  rw [k3]
  have k4:0 < bl (d.m / 2^lo d.m):=by
   have h5:(bareN d).m ≠ 0:=fun h=>h0 (bareN_m0.1 h)
   rw [bareN_pos h0] at h5
   have:=bl_pos h5
   simp only at this; omega
  simp only; omega
theorem widN_bl {m:Nat} {n:Int} (h:n≤12000):bl (widN m n)≤bl m+12000:=by
 unfold widN
 split
 ·omega
 ·exact Nat.le_trans (bl_shl2 _ _) (by omega)
theorem bl_add {m n k:Nat} (h:bl m≤k) (h':bl n≤k):bl (m+n)≤k+1:=by
 apply bl_le
 have h1:=Nat.lt_of_lt_of_le (lt_bl m) (Nat.pow_le_pow_right (by decide) h)
 have h2:=Nat.lt_of_lt_of_le (lt_bl n) (Nat.pow_le_pow_right (by decide) h')
 rw [Nat.pow_succ]; omega
theorem Add_s {w:World} {u v:Value} {a b:Dn} (ha:Ry w u a) (hb:Ry w v b) (sa:Sd a) (sb:Sd b):Calls Tryz.prog 157 #[u,v] w (RetCE (AddD a b) 0 w):=by
 have CA:=h_ (fun w (h:Ry w u a)=>Bare_s h sa)
 have CB:=h_ (fun w (h:Ry w v b)=>Bare_s h sb)
 obtain ⟨a1,k1,c1,rfl⟩:=ha.form
 obtain ⟨a2,k2,c2,rfl⟩:=hb.form
 have ba:=sa.bare
 have bb:=sb.bare
 have HM:AddD a b=addD (bareN a) (bareN b):=rfl
 rw [HM]
 clear HM
 generalize bareN a=A at *
 generalize bareN b=B at *
 have ta:=topN_le ba
 have tb:=topN_le bb
 have CT1:=h_ (fun w u (h:Cy w u A)=>Top_d h.ry)
 have CT2:=h_ (fun w u (h:Cy w u B)=>Top_d h.ry)
 generalize topN A=x at *
 generalize topN B=y at *
 obtain ⟨an,am,ae⟩:=A
 obtain ⟨bn,bm,be⟩:=B
 simp only at ba bb CT1 CT2
 have W1:=h_ (fun w u (h:Dg w u am) n hn=>wid_r h (by omega) n hn)
 have W2:=h_ (fun w u (h:Dg w u bm) n hn=>wid_r h (by omega) n hn)
 obtain ⟨S,hS⟩:∃ S,S=addD ⟨an,am,ae⟩ ⟨bn,bm,be⟩:=⟨_,rfl⟩
 have HS:Hid (S=if am=0 then ⟨bn,bm,be⟩ else if bm=0 then ⟨an,am,ae⟩ else
  if an=bn then bareN ⟨an,widN am (ae - min ae be)+widN bm (be - min ae be),min ae be⟩
  else if widN am (ae - min ae be) < widN bm (be - min ae be) then bareN ⟨bn,widN bm (be - min ae be) - widN am (ae - min ae be),min ae be⟩
  else bareN ⟨an,widN am (ae - min ae be) - widN bm (be - min ae be),min ae be⟩):=hS
 rw [← hS]
 clear hS
 have hl1:min ae be≤ae:=Int.min_le_left _ _
 have hl2:min ae be≤be:=Int.min_le_right _ _
 have hl3:-4000≤min ae be:=by omega
 have bp:=widN_bl (m:=am) (n:=ae - min ae be) (by omega)
 have bq:=widN_bl (m:=bm) (n:=be - min ae be) (by omega)
 have W1:=h_ (fun w u h=>W1.out w u h (ae - min ae be) (by omega))
 have W2:=h_ (fun w u h=>W2.out w u h (be - min ae be) (by omega))
 generalize hlow:min ae be=low at *
 generalize widN am (ae - low)=pp at *
 generalize widN bm (be - low)=qq at *
 have q1:IntKind.i64.wrap (ae - low)=ae - low:=IntWalk.i64_in _ (by omega)
 have q2:IntKind.i64.wrap (be - low)=be - low:=IntWalk.i64_in _ (by omega)
 have bp2:bl pp≤16000:=by omega
 have bq2:bl qq≤16000:=by omega
 have K1:=h_ (fun w u (h:Rd w u (pp+qq))=>Make_s (neg:=an) (e:=low) h (Nat.le_trans (bl_add bp2 bq2) (by decide)) (by omega))
 have K2:=h_ (fun w u (h:Dg w u (pp - qq))=>Make_s (neg:=an) (e:=low) (h.rd (Nat.le_trans (bl_mono (Nat.sub_le pp qq)) (by omega))) (Nat.le_trans (bl_mono (Nat.sub_le pp qq)) (by omega)) (by omega))
 have K3:=h_ (fun w u (h:Dg w u (qq - pp))=>Make_s (neg:=bn) (e:=low) (h.rd (Nat.le_trans (bl_mono (Nat.sub_le qq pp)) (by omega))) (Nat.le_trans (bl_mono (Nat.sub_le qq pp)) (by omega)) (by omega))
 have BS:Hid (bl (pp+qq)≤6000000):=Nat.le_trans (bl_add bp2 bq2) (by decide)
 have CP:=h_ (fun w u v (h:Rd w u pp) (k:Rd w v qq)=>cmp_r h k)
 have CN:=h_ (cmpN_neg2 (m:=pp) (n:=qq))
 have CD1:=h_ (fun w u v (h:Rd w u pp) (k:Rd w v qq)=>sub_r h k)
 have CD2:=h_ (fun w u v (h:Rd w u qq) (k:Rd w v pp)=>sub_r h k)
 have CAD:=h_ (fun w u v (h:Rd w u pp) (k:Rd w v qq)=>add_r h k)
 generalize cmpN pp qq=c at *
 have HP:=h_ (And.intro bp2 bq2)
 clear bp bq bp2 bq2
 have hd:decide (65535 < max x y - low)=false:=decide_eq_false (by omega)
 have hd2:IntKind.i64.wrap (max x y - low)=max x y - low:=IntWalk.i64_in _ (by omega)
 go_enter Tryz.func157,Tryz.ntmps157
 have F0:=h_ (Fx.three w 42 #[.bool a.neg,.slice a1 k1 c1,.int .i64 a.e] 42 #[.bool b.neg,.slice a2 k2 c2,.int .i64 b.e] 42 #[.bool false,.slice none 0 0,.int .i64 0] rfl rfl rfl)
 have X0:=h_ (((ha.alloc (.cells #[.bool a.neg,.slice a1 k1 c1,.int .i64 a.e] 42)).alloc (.cells #[.bool b.neg,.slice a2 k2 c2,.int .i64 b.e] 42)).alloc (.cells #[.bool false,.slice none 0 0,.int .i64 0] 42))
 have Y0:=h_ (((hb.alloc (.cells #[.bool a.neg,.slice a1 k1 c1,.int .i64 a.e] 42)).alloc (.cells #[.bool b.neg,.slice a2 k2 c2,.int .i64 b.e] 42)).alloc (.cells #[.bool false,.slice none 0 0,.int .i64 0] 42))
 clear ha hb
 go_wp2_with fail
 generalize World.alloc (World.alloc (World.alloc _ _) _) _=w0 at F0 X0 Y0 ⊢
 have c0_0:=F0.out.c3 0 rfl
 have c1_0:=F0.out.c3 1 rfl
 have c2_0:=F0.out.c3 2 rfl
 clear c0_0 c1_0 c2_0
 refine (CA.out _ X0.out).mono ?_
 rintro q w1 ⟨u,rfl,hu,hb⟩
 have F1:=h_ (F0.out.call hb)
 have X1:=h_ (X0.out.below hb)
 have Y1:=h_ (Y0.out.below hb)
 clear F0 X0 Y0
 have U1:=h_ (hu)
 clear hb
 have c0_1:=F1.out.c3 0 rfl
 have c1_1:=F1.out.c3 1 rfl
 have c2_1:=F1.out.c3 2 rfl
 clear X1
 obtain ⟨a3,k3,c3,rfl⟩:=U1.out.fm
 go_wp2_with fail
 clear c0_1 c1_1 c2_1
 obtain ⟨f,p⟩:=F1.out.s3 0 rfl (.bool an) (.slice a3 k3 c3) (.int .i64 ae) rfl rfl rfl
 generalize (World.setCell (World.setCell (World.setCell _ _ _) _ _) _ _)=W at f p ⊢
 have F2:=h_ (f)
 have Y2:=h_ (Y1.out.kp p)
 have U2:=h_ (U1.out.kp p)
 clear F1 Y1 U1
 clear f p
 have c0_2:=F2.out.c3 0 rfl
 have c1_2:=F2.out.c3 1 rfl
 have c2_2:=F2.out.c3 2 rfl
 clear c0_2 c1_2 c2_2
 refine (CB.out _ Y2.out).mono ?_
 rintro q w3 ⟨u,rfl,hu,hb⟩
 have F3:=h_ (F2.out.call hb)
 have Y3:=h_ (Y2.out.below hb)
 have U3:=h_ (U2.out.below hb)
 clear F2 Y2 U2
 have V3:=h_ (hu)
 clear hb
 have c0_3:=F3.out.c3 0 rfl
 have c1_3:=F3.out.c3 1 rfl
 have c2_3:=F3.out.c3 2 rfl
 clear Y3
 obtain ⟨a4,k4,c4,rfl⟩:=V3.out.fm
 have hk:=U3.out.dm.len0
 have hk2:=V3.out.dm.len0
 go_upto_region 7 with (fail)
 clear c0_3 c1_3 c2_3
 obtain ⟨f,p⟩:=F3.out.s3 1 rfl (.bool bn) (.slice a4 k4 c4) (.int .i64 be) rfl rfl rfl
 generalize (World.setCell (World.setCell (World.setCell _ _ _) _ _) _ _)=W at f p ⊢
 have F4:=h_ (f)
 have U4:=h_ (U3.out.kp p)
 have V4:=h_ (V3.out.kp p)
 clear F3 U3 V3
 clear f p
 have c0_4:=F4.out.c3 0 rfl
 have c1_4:=F4.out.c3 1 rfl
 have c2_4:=F4.out.c3 2 rfl
 by_cases h0:am=0
 ·have HE:Hid (S=⟨bn,bm,be⟩):=HS.out.trans (if_pos h0)
  obtain rfl:k3=0:=hk.1 h0
  clear hk hk2 h0
  go_wp2
  obtain ⟨f0,p0⟩:=F4.out.s3 2 rfl (.bool bn) (.slice a4 k4 c4) (.int .i64 be) rfl rfl rfl
  have p:=p0
  have f:=f0
  clear f0 p0
  generalize (World.setCell (World.setCell (World.setCell _ _ _) _ _) _ _)=W at f p ⊢
  have g2:=f.c3 2 rfl
  refine bodyPost_ret (v:=.tuple #[.agg #[.bool bn,.slice a4 k4 c4,.int .i64 be],.int .i64 0]) (by simp [results,Tryz.results157,go_sem,g2]) rfl ?_
  rw [HE.out]
  exact ⟨_,rfl,V4.out.kp p,f.b⟩
 ·have z1:((k3:Int) == 0)=false:=by rw [beq_eq_false_iff_ne]; intro h; exact h0 (hk.2 (by omega))
  by_cases h1:bm=0
  ·have HE:Hid (S=⟨an,am,ae⟩):=HS.out.trans ((if_neg h0).trans (if_pos h1))
   obtain rfl:k4=0:=hk2.1 h1
   clear hk hk2 h0 h1
   go_wp2
   obtain ⟨f0,p0⟩:=F4.out.s3 2 rfl (.bool an) (.slice a3 k3 c3) (.int .i64 ae) rfl rfl rfl
   have p:=p0
   have f:=f0
   clear f0 p0
   generalize (World.setCell (World.setCell (World.setCell _ _ _) _ _) _ _)=W at f p ⊢
   have g2:=f.c3 2 rfl
   refine bodyPost_ret (v:=.tuple #[.agg #[.bool an,.slice a3 k3 c3,.int .i64 ae],.int .i64 0]) (by simp [results,Tryz.results157,go_sem,g2]) rfl ?_
   rw [HE.out]
   exact ⟨_,rfl,U4.out.kp p,f.b⟩
  ·have z2:((k4:Int) == 0)=false:=by rw [beq_eq_false_iff_ne]; intro h; exact h1 (hk2.2 (by omega))
   have HS:=h_ (HS.out.trans ((if_neg h0).trans (if_neg h1)))
   clear hk hk2 h0 h1
   go_wp2_with fail
   clear c0_4 c1_4 c2_4
   refine (CT1.out _ _ U4.out).mono ?_
   rintro q w5 ⟨rfl,hb⟩
   have F5:=h_ (F4.out.call hb)
   have U5:=h_ (U4.out.below hb)
   have V5:=h_ (V4.out.below hb)
   clear F4 U4 V4
   clear hb
   have c0_5:=F5.out.c3 0 rfl
   have c1_5:=F5.out.c3 1 rfl
   have c2_5:=F5.out.c3 2 rfl
   go_wp2_with fail
   clear c0_5 c1_5 c2_5
   refine (CT2.out _ _ V5.out).mono ?_
   rintro q w6 ⟨rfl,hb⟩
   have F6:=h_ (F5.out.call hb)
   have U6:=h_ (U5.out.below hb)
   have V6:=h_ (V5.out.below hb)
   clear F5 U5 V5
   clear hb
   have c0_6:=F6.out.c3 0 rfl
   have c1_6:=F6.out.c3 1 rfl
   have c2_6:=F6.out.c3 2 rfl
   go_wp2_with fail
   clear hd hd2 hlow
   clear c0_6 c1_6 c2_6
   have FC:=h_ (And.intro (F6.out.c3 0 rfl).1 ((F6.out.c3 1 rfl).1))
   go_region_held3 (fun w'=>(w'.cell? ⟨w.heap.size,0,none⟩=some (.bool an)∧w'.cell? ⟨w.heap.size,1,none⟩=some (.slice a3 k3 c3)∧w'.cell? ⟨w.heap.size,2,none⟩=some (.int .i64 ae))∧(w'.cell? ⟨w.heap.size+1,0,none⟩=some (.bool bn)∧w'.cell? ⟨w.heap.size+1,1,none⟩=some (.slice a4 k4 c4)∧w'.cell? ⟨w.heap.size+1,2,none⟩=some (.int .i64 be))) (first | exact FC.out) (first | (go_at_call 74; (with_reducible refine (W2.out _ _ V7.out.dm).mono ?_); rintro q ww8 ⟨u2,rfl,hu,hb⟩; have F8:=h_ (F7.out.call hb); have U8:=h_ (U7.out.below hb); have V8:=h_ (V7.out.below hb); have P8:=h_ (P7.out.below hb); have Q8:=h_ (hu); obtain ⟨a6,k6,c6,rfl⟩:=Q8.out.form; have FC:=h_ (And.intro (F8.out.c3 0 rfl).1 ((F8.out.c3 1 rfl).1)); have c0_8:=F8.out.c3 0 rfl; have c1_8:=F8.out.c3 1 rfl; have c2_8:=F8.out.c3 2 rfl; clear hb) | (go_at_call 74; (with_reducible refine (W1.out _ _ (U6.out.drew).dm).mono ?_); rintro q ww7 ⟨u1,rfl,hu,hb⟩; have F7:=h_ ((F6.out.drew).call hb); have U7:=h_ ((U6.out.drew).below hb); have V7:=h_ ((V6.out.drew).below hb); have P7:=h_ (hu); obtain ⟨a5,k5,c5,rfl⟩:=P7.out.form; have FC:=h_ (And.intro (F7.out.c3 0 rfl).1 ((F7.out.c3 1 rfl).1)); have c0_7:=F7.out.c3 0 rfl; have c1_7:=F7.out.c3 1 rfl; have c2_7:=F7.out.c3 2 rfl; clear hb))
   clear q1 q2 z1 z2
   clear U8 V8
   by_cases h2:an=bn
   ·subst h2
    have HE:=h_ (HS.out.trans (if_pos rfl))
    generalize hr:bareN ⟨an,pp+qq,low⟩=r at *
    obtain ⟨rn,rm,re⟩:=r
    have HRR:=h_ hr
    clear hr HS
    go_upto_region 18 with (fail)
    clear c0_8 c1_8 c2_8
    have FC:=h_ ((F8.out.c3 0 rfl).1)
    go_region_held3 (fun w'=>(w'.cell? ⟨w.heap.size,0,none⟩=some (.bool an)∧w'.cell? ⟨w.heap.size,1,none⟩=some (.slice a3 k3 c3)∧w'.cell? ⟨w.heap.size,2,none⟩=some (.int .i64 ae))) (first | exact FC.out | exact ((F10.out.s3 2 rfl (.bool rn) (.slice a8 k8 c8) (.int .i64 re) rfl rfl rfl).1.c3 0 rfl).1) (first | (go_at_call 30; (with_reducible refine (K1.out _ _ (R9.out.rd BS.out)).mono ?_); rintro q ww10 ⟨u4,rfl,hu,hb⟩; have F10:=h_ (F9.out.call hb); have P10:=h_ (P9.out.below hb); have Q10:=h_ (Q9.out.below hb); have R10:=h_ (R9.out.below hb); have Z10:=h_ (hu); obtain ⟨a8,k8,c8,rfl⟩:=Z10.out.fm; have FC:=h_ ((F10.out.c3 0 rfl).1); have c0_10:=F10.out.c3 0 rfl; have c1_10:=F10.out.c3 1 rfl; have c2_10:=F10.out.c3 2 rfl; clear hb) | (go_at_call 123; (with_reducible refine (CAD.out _ _ _ (P8.out.drew) (Q8.out.drew)).mono ?_); rintro q ww9 ⟨u3,rfl,hu,hb⟩; have F9:=h_ ((F8.out.drew).call hb); have P9:=h_ ((P8.out.drew).below hb); have Q9:=h_ ((Q8.out.drew).below hb); have R9:=h_ (hu); obtain ⟨a7,k7,c7,rfl⟩:=R9.out.form; have FC:=h_ ((F9.out.c3 0 rfl).1); have c0_9:=F9.out.c3 0 rfl; have c1_9:=F9.out.c3 1 rfl; have c2_9:=F9.out.c3 2 rfl; clear hb))
    go_wp2
    obtain ⟨f0,p0⟩:=F10.out.s3 2 rfl (.bool rn) (.slice a8 k8 c8) (.int .i64 re) rfl rfl rfl
    have p:=p0
    have f:=f0
    clear f0 p0
    generalize (World.setCell (World.setCell (World.setCell _ _ _) _ _) _ _)=W at f p ⊢
    have g2:=f.c3 2 rfl
    refine bodyPost_ret (v:=.tuple #[.agg #[.bool rn,.slice a8 k8 c8,.int .i64 re],.int .i64 0]) (by simp [results,Tryz.results157,go_sem,g2]) rfl ?_
    rw [HE.out]
    exact ⟨_,rfl,Z10.out.kp p,f.b⟩
   ·have HS:=h_ (HS.out.trans (if_neg h2))
    have z3:(an == bn)=false:=beq_eq_false_iff_ne.2 h2
    clear h2
    go_wp2_with fail
    clear c0_8 c1_8 c2_8
    refine (CP.out _ _ _ P8.out Q8.out).mono ?_
    rintro q w9 ⟨rfl,hb⟩
    have F9:=h_ (F8.out.call hb)
    have P9:=h_ (P8.out.below hb)
    have Q9:=h_ (Q8.out.below hb)
    clear F8 P8 Q8
    clear hb
    have c0_9:=F9.out.c3 0 rfl
    have c1_9:=F9.out.c3 1 rfl
    have c2_9:=F9.out.c3 2 rfl
    by_cases h3:c < 0
    ·have HM:=h_ (CN.out.1 h3)
     have HE:=h_ (HS.out.trans (if_pos HM.out))
     have z4:decide (c < 0)=true:=decide_eq_true h3
     generalize hr:bareN ⟨bn,qq - pp,low⟩=r at *
     obtain ⟨rn,rm,re⟩:=r
     have HRR:=h_ hr
     clear hr HS h3
     go_upto_region 21 with (fail)
     clear c0_9 c1_9 c2_9
     obtain ⟨f,p⟩:=F9.out.s3_0 0 rfl (.bool bn) rfl
     generalize (World.setCell _ _ _)=W at f p ⊢
     have F10:=h_ (f)
     have P10:=h_ (P9.out.kp p)
     have Q10:=h_ (Q9.out.kp p)
     clear F9 P9 Q9
     clear f p
     have c0_10:=F10.out.c3 0 rfl
     have c1_10:=F10.out.c3 1 rfl
     have c2_10:=F10.out.c3 2 rfl
     go_wp2_with fail
     clear c0_10 c1_10 c2_10
     refine (CD2.out _ _ _ Q10.out P10.out).mono ?_
     rintro q w11 ⟨u,rfl,hu,hb⟩
     have F11:=h_ (F10.out.call hb)
     have P11:=h_ (P10.out.below hb)
     have Q11:=h_ (Q10.out.below hb)
     clear F10 P10 Q10
     have R11:=h_ (hu)
     clear hb
     have c0_11:=F11.out.c3 0 rfl
     have c1_11:=F11.out.c3 1 rfl
     have c2_11:=F11.out.c3 2 rfl
     obtain ⟨a7,k7,c7,rfl⟩:=R11.out.form
     go_wp2_with fail
     clear c0_11 c1_11 c2_11
     refine (K3.out _ _ R11.out).mono ?_
     rintro q w12 ⟨u,rfl,hu,hb⟩
     have F12:=h_ (F11.out.call hb)
     have P12:=h_ (P11.out.below hb)
     have Q12:=h_ (Q11.out.below hb)
     have R12:=h_ (R11.out.below hb)
     clear F11 P11 Q11 R11
     have Z12:=h_ (hu)
     clear hb
     have c0_12:=F12.out.c3 0 rfl
     have c1_12:=F12.out.c3 1 rfl
     have c2_12:=F12.out.c3 2 rfl
     obtain ⟨a8,k8,c8,rfl⟩:=Z12.out.fm
     go_wp2
     obtain ⟨f0,p0⟩:=F12.out.s3 2 rfl (.bool rn) (.slice a8 k8 c8) (.int .i64 re) rfl rfl rfl
     have p:=p0
     have f:=f0
     clear f0 p0
     generalize (World.setCell (World.setCell (World.setCell _ _ _) _ _) _ _)=W at f p ⊢
     have g2:=f.c3 2 rfl
     refine bodyPost_ret (v:=.tuple #[.agg #[.bool rn,.slice a8 k8 c8,.int .i64 re],.int .i64 0]) (by simp [results,Tryz.results157,go_sem,g2]) rfl ?_
     rw [HE.out]
     exact ⟨_,rfl,Z12.out.kp p,f.b⟩
    ·have HM:=h_ (fun h=>h3 (CN.out.2 h))
     have HE:=h_ (HS.out.trans (if_neg HM.out))
     have z4:decide (c < 0)=false:=decide_eq_false h3
     generalize hr:bareN ⟨an,pp - qq,low⟩=r at *
     obtain ⟨rn,rm,re⟩:=r
     have HRR:=h_ hr
     clear hr HS h3
     go_wp2_with fail
     clear c0_9 c1_9 c2_9
     refine (CD1.out _ _ _ P9.out Q9.out).mono ?_
     rintro q w10 ⟨u,rfl,hu,hb⟩
     have F10:=h_ (F9.out.call hb)
     have P10:=h_ (P9.out.below hb)
     have Q10:=h_ (Q9.out.below hb)
     clear F9 P9 Q9
     have R10:=h_ (hu)
     clear hb
     have c0_10:=F10.out.c3 0 rfl
     have c1_10:=F10.out.c3 1 rfl
     have c2_10:=F10.out.c3 2 rfl
     obtain ⟨a7,k7,c7,rfl⟩:=R10.out.form
     go_wp2_with fail
     clear c0_10 c1_10 c2_10
     refine (K2.out _ _ R10.out).mono ?_
     rintro q w11 ⟨u,rfl,hu,hb⟩
     have F11:=h_ (F10.out.call hb)
     have P11:=h_ (P10.out.below hb)
     have Q11:=h_ (Q10.out.below hb)
     have R11:=h_ (R10.out.below hb)
     clear F10 P10 Q10 R10
     have Z11:=h_ (hu)
     clear hb
     have c0_11:=F11.out.c3 0 rfl
     have c1_11:=F11.out.c3 1 rfl
     have c2_11:=F11.out.c3 2 rfl
     obtain ⟨a8,k8,c8,rfl⟩:=Z11.out.fm
     go_wp2
     obtain ⟨f0,p0⟩:=F11.out.s3 2 rfl (.bool rn) (.slice a8 k8 c8) (.int .i64 re) rfl rfl rfl
     have p:=p0
     have f:=f0
     clear f0 p0
     generalize (World.setCell (World.setCell (World.setCell _ _ _) _ _) _ _)=W at f p ⊢
     have g2:=f.c3 2 rfl
     refine bodyPost_ret (v:=.tuple #[.agg #[.bool rn,.slice a8 k8 c8,.int .i64 re],.int .i64 0]) (by simp [results,Tryz.results157,go_sem,g2]) rfl ?_
     rw [HE.out]
     exact ⟨_,rfl,Z11.out.kp p,f.b⟩
def MinusD (d:Dn):Dn:=if (bareN d).m=0 then ⟨false,0,0⟩ else ⟨!(bareN d).neg,(bareN d).m,(bareN d).e⟩
theorem Cy.mk {w:World} {n:Bool} {a:Option Addr} {k c:Nat} {m:Nat} {e:Int} (h:Dg w (.slice a k c) m) (hb:bl m≤255000) (he:-4611686018427387904≤e∧e≤4611686018427387904):Cy w (.agg #[.bool n,.slice a k c,.int .i64 e]) ⟨n,m,e⟩:=⟨_,rfl,h,hb,he⟩
theorem Minus_s {w:World} {u:Value} {d:Dn} (hu:Ry w u d) (sd:Sd d):Calls Tryz.prog 39 #[u] w (RetC (MinusD d) w):=by
 have CA:=h_ (fun w (h:Ry w u d)=>bare_d h)
 obtain ⟨a1,k1,c1,rfl⟩:=hu.form
 have bd:=sd.bare
 have HM:MinusD d=if (bareN d).m=0 then ⟨false,0,0⟩ else ⟨!(bareN d).neg,(bareN d).m,(bareN d).e⟩:=rfl
 generalize MinusD d=M at *
 generalize bareN d=D at *
 obtain ⟨n,m,e⟩:=D
 simp only at bd HM
 have HM':=h_ HM
 clear HM
 have BD:=h_ bd
 have CB:=h_ (fun w u (h:Cy w u ⟨!n,m,e⟩)=>(show Calls Tryz.prog 31 #[u] w (RetCE (bareN ⟨!n,m,e⟩) 0 w) from by
  have h1:=Bare_d h.ry
  rw [BareN_sm (bareN_span (d:=⟨!n,m,e⟩) ⟨by show bl m≤255000; omega,by show -500000≤e∧e≤500000; omega⟩)] at h1
  exact h1))
 generalize bareN ⟨!n,m,e⟩=R at *
 obtain ⟨rn,rm,re⟩:=R
 clear bd
 go_enter Tryz.func39,Tryz.ntmps39
 have F0:=h_ (Fx.two w 42 #[.bool d.neg,.slice a1 k1 c1,.int .i64 d.e] 42 #[.bool false,.slice none 0 0,.int .i64 0] rfl rfl)
 have X0:=h_ ((hu.alloc (.cells #[.bool d.neg,.slice a1 k1 c1,.int .i64 d.e] 42)).alloc (.cells #[.bool false,.slice none 0 0,.int .i64 0] 42))
 clear hu
 go_wp2_with fail
 generalize World.alloc (World.alloc _ _) _=w0 at F0 X0 ⊢
 have c0_0:=F0.out.c3 0 rfl
 have c1_0:=F0.out.c3 1 rfl
 clear c0_0 c1_0
 refine (CA.out _ X0.out).mono ?_
 rintro q w1 ⟨u,rfl,hu,hb⟩
 have F1:=h_ (F0.out.call hb)
 have X1:=h_ (X0.out.below hb)
 clear F0 X0
 have U1:=h_ (hu)
 clear hb
 have c0_1:=F1.out.c3 0 rfl
 have c1_1:=F1.out.c3 1 rfl
 clear X1
 obtain ⟨a3,k3,c3,rfl⟩:=U1.out.fm
 have hk:=U1.out.dm.len0
 go_upto_region 2 with (fail)
 clear c0_1 c1_1
 have F2:=h_ (F1.out.new 42 #[.bool n,.slice a3 k3 c3,.int .i64 e] rfl)
 have U2:=h_ (U1.out.alloc (.cells #[.bool n,.slice a3 k3 c3,.int .i64 e] 42))
 clear F1 U1
 obtain ⟨g1,hg1⟩:∃ g,g=(World.heap w1).size:=⟨_,rfl⟩
 rw [← hg1] at F2 ⊢
 clear hg1
 simp only [List.nil_append,List.cons_append] at F2
 generalize World.alloc w1 _=W2 at F2 U2 ⊢
 have c0_2:=F2.out.c3 0 rfl
 have c1_2:=F2.out.c3 1 rfl
 have c2_2:=F2.out.c3 2 rfl
 by_cases h0:m=0
 ·have HE:Hid (M=⟨false,0,0⟩):=HM'.out.trans (if_pos h0)
  obtain rfl:k3=0:=hk.1 h0
  clear hk h0
  go_wp2
  obtain ⟨f0,p0⟩:=F2.out.s3 1 rfl (.bool false) (.slice none 0 0) (.int .i64 0) rfl rfl rfl
  have p:=p0
  have f:=f0
  clear f0 p0
  generalize (World.setCell (World.setCell (World.setCell _ _ _) _ _) _ _)=W at f p ⊢
  have g1:=f.c3 1 rfl
  refine bodyPost_ret (v:=.agg #[.bool false,.slice none 0 0,.int .i64 0]) (by simp [results,Tryz.results39,go_sem,g1]) rfl ?_
  rw [HE.out]
  exact ⟨_,rfl,Cy.nil (U2.out.kp p).tab,f.b⟩
 ·have HE:Hid (M=⟨!n,m,e⟩):=HM'.out.trans (if_neg h0)
  have z1:((k3:Int) == 0)=false:=by rw [beq_eq_false_iff_ne]; intro h; exact h0 (hk.2 (by omega))
  clear hk h0
  go_upto_region 5 with (fail)
  clear c0_2 c1_2 c2_2
  obtain ⟨f,p⟩:=F2.out.s3_0 2 rfl (.bool (!n)) rfl
  generalize (World.setCell _ _ _)=W at f p ⊢
  have F3:=h_ (f)
  have U3:=h_ (U2.out.kp p)
  clear F2 U2
  clear f p
  simp only [List.set_cons_zero,List.set_cons_succ] at F3
  have c0_3:=F3.out.c3 0 rfl
  have c1_3:=F3.out.c3 1 rfl
  have c2_3:=F3.out.c3 2 rfl
  have Y3:Hid (Cy _ (.agg #[.bool (!n),.slice a3 k3 c3,.int .i64 e]) ⟨!n,m,e⟩):=Cy.mk U3.out.dm (by have:=BD.out; omega) (by have:=BD.out; omega)
  clear U3
  go_wp2_with fail
  clear c0_3 c1_3 c2_3
  refine (CB.out _ _ Y3.out).mono ?_
  rintro q w4 ⟨u,rfl,hu,hb⟩
  have F4:=h_ (F3.out.call hb)
  have Y4:=h_ (Y3.out.below hb)
  clear F3 Y3
  have R4:=h_ (hu)
  clear hb
  have c0_4:=F4.out.c3 0 rfl
  have c1_4:=F4.out.c3 1 rfl
  have c2_4:=F4.out.c3 2 rfl
  obtain ⟨a4,k4,c4,rfl⟩:=R4.out.fm
  go_upto_region 8 with (fail)
  clear c0_4 c1_4 c2_4
  have F5:=h_ (F4.out.new 42 #[.bool rn,.slice a4 k4 c4,.int .i64 re] rfl)
  have Y5:=h_ (Y4.out.alloc (.cells #[.bool rn,.slice a4 k4 c4,.int .i64 re] 42))
  have R5:=h_ (R4.out.alloc (.cells #[.bool rn,.slice a4 k4 c4,.int .i64 re] 42))
  clear F4 Y4 R4
  obtain ⟨g2,hg2⟩:∃ g,g=(World.heap w4).size:=⟨_,rfl⟩
  rw [← hg2] at F5 ⊢
  clear hg2
  simp only [List.nil_append,List.cons_append] at F5
  generalize World.alloc w4 _=W5 at F5 Y5 R5 ⊢
  have c0_5:=F5.out.c3 0 rfl
  have c1_5:=F5.out.c3 1 rfl
  have c2_5:=F5.out.c3 2 rfl
  have c3_5:=F5.out.c3 3 rfl
  go_wp2
  obtain ⟨f0,p0⟩:=F5.out.s3 1 rfl (.bool (!n)) (.slice a3 k3 c3) (.int .i64 e) rfl rfl rfl
  have p:=p0
  have f:=f0
  clear f0 p0
  generalize (World.setCell (World.setCell (World.setCell _ _ _) _ _) _ _)=W at f p ⊢
  have g1:=f.c3 1 rfl
  refine bodyPost_ret (v:=.agg #[.bool (!n),.slice a3 k3 c3,.int .i64 e]) (by simp [results,Tryz.results39,go_sem,g1]) rfl ?_
  rw [HE.out]
  exact ⟨_,rfl,Y5.out.kp p,f.b⟩
end Go.Proofs.YtobpioceopfkpaaGreatDoor
namespace Go.Proofs.YtobpioceopfkpaaGreatDoor
structure Gs (U u y1 y0 q r:Nat):Prop where
 eq:q * y1+r=U
 hi:(U * 4294967296+u) / (y1 * 4294967296+y0)≤q
theorem guess_small {U u y1 y0:Nat} (hu:u < 4294967296) (hU:U < y1 * 4294967296+y0):(U * 4294967296+u) / (y1 * 4294967296+y0) < 4294967296:=by
 refine Nat.div_lt_of_lt_mul ?_
 have:(U+1) * 4294967296≤(y1 * 4294967296+y0) * 4294967296:=Nat.mul_le_mul_right _ hU
 omega
theorem guess_start {U u y1 y0:Nat} (hu:u < 4294967296) (h1:2147483648≤y1) (hU:U < y1 * 4294967296+y0):Gs U u y1 y0 (U / y1) (U - U / y1 * y1)∧U - U / y1 * y1 < y1∧U / y1 * y1≤U:=by
 have hd:=Nat.div_add_mod U y1
 have hm:U % y1 < y1:=Nat.mod_lt _ (by omega)
 rw [Nat.mul_comm] at hd
 refine ⟨⟨by omega,?_⟩,by omega,by omega⟩
 apply Nat.le_of_lt_succ
 rw [Nat.div_lt_iff_lt_mul (by omega)]
 have h3:U+1≤(U / y1+1) * y1:=by rw [Nat.add_mul]; omega
 have h4:(U+1) * 4294967296≤(U / y1+1) * y1 * 4294967296:=Nat.mul_le_mul_right _ h3
 have h5:(U / y1+1) * (y1 * 4294967296+y0)=(U / y1+1) * y1 * 4294967296+(U / y1+1) * y0:=by rw [Nat.mul_add,Nat.mul_assoc]
 rw [Nat.succ_eq_add_one,h5]
 omega
theorem guess_down {U u y1 y0 q r:Nat} (h:Gs U u y1 y0 q r) (hu:u < 4294967296) (hU:U < y1 * 4294967296+y0) (hc:4294967296≤q ∨ 4294967296 * r+u < q * y0):0 < q∧Gs U u y1 y0 (q - 1) (r+y1):=by
 have hs:=guess_small hu hU
 have hlt:(U * 4294967296+u) / (y1 * 4294967296+y0) < q:=by
  rcases hc with hc | hc
  ·omega
  ·rw [Nat.div_lt_iff_lt_mul (by omega),Nat.mul_add,← Nat.mul_assoc]
   have h2:U * 4294967296=q * y1 * 4294967296+r * 4294967296:=by rw [← h.eq,Nat.add_mul]
   omega
 have hq:0 < q:=Nat.lt_of_le_of_lt (Nat.zero_le _) hlt
 refine ⟨hq,?_,Nat.le_sub_one_of_lt hlt⟩
 obtain ⟨k,rfl⟩:∃ k,q=k+1:=⟨q - 1,by omega⟩
 have:=h.eq
 rw [Nat.add_mul] at this
 rw [Nat.add_sub_cancel]
 omega
theorem guess_end {U u y1 y0 q r:Nat} (h:Gs U u y1 y0 q r) (hy:0 < y1) (hc:q * y0≤4294967296 * r+u):q=(U * 4294967296+u) / (y1 * 4294967296+y0):=by
 apply Nat.le_antisymm _ h.hi
 rw [Nat.le_div_iff_mul_le (by omega),Nat.mul_add,← Nat.mul_assoc]
 have h2:U * 4294967296=q * y1 * 4294967296+r * 4294967296:=by rw [← h.eq,Nat.add_mul]
 omega
theorem guess_break {U u y1 y0 q r:Nat} (h:Gs U u y1 y0 q r) (hy0:y0 < 4294967296) (hU:U < y1 * 4294967296+y0) (hr:4294967296≤r):q * y0≤4294967296 * r+u:=by
 have hq:q≤4294967296:=by
  apply Nat.le_of_not_lt; intro hq
  have h1:(4294967296+1) * y1≤q * y1:=Nat.mul_le_mul_right _ hq
  have:=h.eq
  rw [Nat.add_mul] at h1
  omega
 have h2:q * y0≤4294967296 * (4294967296 - 1):=Nat.mul_le_mul hq (by omega)
 have h3:4294967296 * 4294967296≤4294967296 * r:=Nat.mul_le_mul_left _ hr
 omega
theorem lin_two {a b r1 r0 U v1 v0:Nat} (e1:a+r1=U * 4294967296+v1) (e2:b+r0=r1 * 4294967296+v0):U * 18446744073709551616+(v1 * 4294967296+v0)=a * 4294967296+b+r0:=by omega
theorem div_abs {N P y Y q1 q0 r0 S B:Nat} (hY:Y=y * P) (hy:0 < y) (hp:0 < P) (hN:N * P=S) (hS:S=Y * q1 * B+Y * q0+r0) (l2:r0 < Y):N / y=q1 * B+q0∧N % y=r0 / P:=by
 have h3:Y * q1 * B+Y * q0=y * (q1 * B+q0) * P:=by
  rw [hY,Nat.mul_assoc (y * P),← Nat.mul_add,Nat.mul_right_comm]
 rw [hS,h3] at hN
 have hd:P ∣ r0:=by
  have h1:P ∣ y * (q1 * B+q0) * P+r0:=by rw [← hN]; exact Nat.dvd_mul_left _ _
  exact (Nat.dvd_add_iff_right (Nat.dvd_mul_left _ _)).2 h1
 obtain ⟨t,ht⟩:=hd
 rw [ht,Nat.mul_comm P t,← Nat.add_mul] at hN
 have h4:=Nat.eq_of_mul_eq_mul_right hp hN
 have h5:t < y:=by
  rw [hY,ht,Nat.mul_comm P t] at l2
  exact Nat.lt_of_mul_lt_mul_right l2
 rw [h4,ht,Nat.mul_div_cancel_left _ hp]
 constructor
 ·rw [Nat.mul_add_div hy,Nat.div_eq_of_lt h5,Nat.add_zero]
 ·rw [Nat.mul_add_mod,Nat.mod_eq_of_lt h5]
theorem div_two {N y P Y U v1 v0:Nat} (hY:Y=y * P) (hy:0 < y) (hp:0 < P) (hN:N * P=U * 18446744073709551616+(v1 * 4294967296+v0)) :
  N / y=(U * 4294967296+v1) / Y * 4294967296+((U * 4294967296+v1) % Y * 4294967296+v0) / Y∧N % y=((U * 4294967296+v1) % Y * 4294967296+v0) % Y / P:=by
 have hYp:0 < Y:=by rw [hY]; exact Nat.mul_pos hy hp
 exact div_abs hY hy hp hN (lin_two (Nat.div_add_mod (U * 4294967296+v1) Y) (Nat.div_add_mod ((U * 4294967296+v1) % Y * 4294967296+v0) Y)) (Nat.mod_lt _ hYp)
end Go.Proofs.YtobpioceopfkpaaGreatDoor
namespace Go.Proofs.YtobpioceopfkpaaGreatDoor
open Go.RowKit
theorem norm {hi lo y s r:Nat} (hlt:hi < y) (hy:y < 18446744073709551616) (hl:lo < 18446744073709551616) (hs:s=64 - bl y) (hr:r=64 - s) :
  9223372036854775808≤y * 2^s∧y * 2^s < 18446744073709551616∧hi * 2^s+lo / 2^r < y * 2^s∧(hi * 18446744073709551616+lo) * 2^s=(hi * 2^s+lo / 2^r) * 18446744073709551616+lo * 2^s % 18446744073709551616∧s≤63:=by
 have hb:=bl64 hy
 have hy0:y ≠ 0:=by omega
 have hbl:=bl_pos hy0
 have h1:=lt_bl y
 have h2:2^(bl y - 1)≤y:=by
  rw [hbl,Nat.add_sub_cancel]; exact Nat.log2_self_le hy0
 have hR:(18446744073709551616:Nat)=2^r * 2^s:=by rw [← Nat.pow_add,hr]; rw [show 64 - s+s=64 by omega]
 have hrb:r=bl y:=by omega
 have e1:2^r=2 * 2^(bl y - 1):=by rw [hrb,← Nat.pow_succ',show (bl y - 1).succ=bl y by omega]
 have hp:0 < 2^s:=Nat.two_pow_pos s
 have g1:y * 2^s < 2^r * 2^s:=Nat.mul_lt_mul_of_pos_right (by rw [hrb]; exact h1) hp
 have g2:2^(bl y - 1) * 2^s≤y * 2^s:=Nat.mul_le_mul_right _ h2
 have g3:lo / 2^r < 2^s:=Nat.div_lt_of_lt_mul (by rw [← hR]; exact hl)
 have g4:(hi+1) * 2^s≤y * 2^s:=Nat.mul_le_mul_right _ hlt
 have g5:lo * 2^s % 18446744073709551616=(lo % 2^r) * 2^s:=by rw [hR,Nat.mul_mod_mul_right]
 have g6:=Nat.div_add_mod lo (2^r)
 refine ⟨?_,by omega,?_,?_,by omega⟩
 ·rw [e1,Nat.mul_assoc] at hR; omega
 ·rw [Nat.add_mul] at g4; omega
 ·rw [g5,Nat.add_mul,Nat.add_mul]
  have g7:lo * 2^s=lo / 2^r * 18446744073709551616+(lo % 2^r) * 2^s:=by
   conv=>lhs; rw [← g6]
   rw [Nat.add_mul]
   congr 1
   rw [Nat.mul_comm (2^r),Nat.mul_assoc,← hR]
  rw [g7,Nat.mul_right_comm]
  omega
theorem wrap_nat {x:Int} {n:Nat} (h:x=n) (hn:n < 18446744073709551616):IntKind.u64.wrap x=n:=by
 rw [IntKind.wrap_u64]; omega
theorem wrap_mod {x:Int} {n:Nat} (h:x=n):IntKind.u64.wrap x=(n % 18446744073709551616:Nat):=by
 rw [IntKind.wrap_u64,h]; omega
theorem wrap_rem {a b c:Int} {n:Nat} (h:a+b - c=n) (hn:n < 18446744073709551616):IntKind.u64.wrap (IntKind.u64.wrap (IntKind.u64.wrap a+b) - IntKind.u64.wrap c)=n:=by
 simp only [IntKind.wrap_u64]; omega
theorem wrap_rest {a c:Int} {n:Nat} (h:a - c=n) (hn:n < 18446744073709551616):IntKind.u64.wrap (a - IntKind.u64.wrap c)=n:=by
 simp only [IntKind.wrap_u64]; omega
end Go.Proofs.YtobpioceopfkpaaGreatDoor
