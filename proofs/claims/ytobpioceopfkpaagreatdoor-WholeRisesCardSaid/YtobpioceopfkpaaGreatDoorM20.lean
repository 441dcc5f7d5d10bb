/-
  Lemmas for WholeTurned and WholeGrows and WholeRises, part 20 of 36: what the program's functions do, and plain facts; without conditions.
-/
import Derived.Test.YtobpioceopfkpaaGreatDoorM11
import Derived.Deep.RegionHeld3
import Derived.BigQuiet
import Derived.Test.YtobpioceopfkpaaGreatDoorM17
import Derived.Test.YtobpioceopfkpaaGreatDoorM19
set_option maxRecDepth 100000
set_option maxHeartbeats 4000000
namespace Go.Proofs.YtobpioceopfkpaaGreatDoor
open Go.RowKit
def nearD:Dn:=⟨false,1,-60⟩
theorem near_lit {w:World} (t:Tab w):Ry (w.alloc (.cells #[.int .u64 1] 22)) (.agg #[.bool false,.slice (some ⟨w.heap.size,0,none⟩) 1 1,.int .i64 (-60)]) nearD :=
 ⟨_,rfl,raw_rd (raw_one t (n:=1) (by decide)),by decide,by decide,by decide⟩
theorem Of_more {w:World} {u:Value} {i:In} (hu:Iv w u i) (s1:Sd i.lo) (s2:Sd i.hi) (h0:CmpD i.lo i.hi≤0) (h1:CmpD i.lo (ofN 710) < 0) (h2:0 < CmpD i.hi (ofN (-746))) (h3:CmpD i.hi nearD < 0) :
  Calls Tryz.prog 91 #[u,.int .i64 (1)] w fun e w'=>e=.returned (.int .i64 3)∧Below w.heap.size w w':=by
 obtain ⟨lo,hi⟩:=i
 simp only at s1 s2 h0 h1 h2 h3
 have CR:=h_ (fun w u (h:Iv w u ⟨lo,hi⟩)=>(show Calls Tryz.prog 132 #[u] w (fun e w'=>e=.returned (.bool true)∧Below w.heap.size w w') from by have h1:=Right_r h s1 s2; rw [decide_eq_true h0] at h1; exact h1))
 have CO1:=h_ (fun w (t:Tab w)=>Of_d t 710 (by decide))
 have CO2:=h_ (fun w (t:Tab w)=>Of_d t (-746) (by decide))
 have CC1:=h_ (fun w u v (h:Cy w u lo) (k:Cy w v (ofN 710))=>Cmp_d h.ry k.ry)
 have CC2:=h_ (fun w u v (h:Cy w u hi) (k:Cy w v (ofN (-746)))=>Cmp_d h.ry k.ry)
 have CC3:=h_ (fun w u v (h:Cy w u hi) (k:Ry w v nearD)=>Cmp_d h.ry k)
 have CM:=h_ (fun w u (h:Ry w u nearD)=>Minus_s h ⟨by decide,by decide,by decide⟩)
 have CC4:=h_ (fun w u v (h:Cy w u lo) (k:Cy w v (MinusD nearD))=>Cmp_d h.ry k.ry)
 generalize CmpD lo (ofN 710)=x1 at *
 generalize CmpD hi (ofN (-746))=x2 at *
 generalize CmpD hi nearD=x3 at *
 generalize CmpD lo (MinusD nearD)=x4 at *
 generalize ofN 710=o1 at *
 generalize ofN (-746)=o2 at *
 generalize MinusD nearD=o3 at *
 obtain ⟨n,m,e⟩:=lo
 obtain ⟨n',m',e'⟩:=hi
 obtain ⟨o1n,o1m,o1e⟩:=o1
 obtain ⟨o2n,o2m,o2e⟩:=o2
 obtain ⟨o3n,o3m,o3e⟩:=o3
 obtain ⟨a1,k1,c1,a2,k2,c2,rfl,hx,hy⟩:=hu.fm
 have z1:decide (0≤x1)=false:=decide_eq_false (by omega)
 have y1:¬ (0≤x1):=by omega
 have z2:decide (x2≤0)=false:=decide_eq_false (by omega)
 have y2:¬ (x2≤0):=by omega
 have z3:decide (x3 < 0)=true:=decide_eq_true h3
 have y3:¬ (0≤x3):=by omega
 have F0:=h_ (show Fx w (((w.alloc (.cells #[.bool n,.slice a1 k1 c1,.int .i64 e,.bool n',.slice a2 k2 c2,.int .i64 e'] 92)).alloc (.cells #[.int .u64 1] 22)).alloc (.cells #[.bool false,.slice (some ⟨w.heap.size+1,0,none⟩) 1 1,.int .i64 (-60)] 42)) [(w.heap.size,92,#[.bool n,.slice a1 k1 c1,.int .i64 e,.bool n',.slice a2 k2 c2,.int .i64 e']),(w.heap.size+1+1,42,#[.bool false,.slice (some ⟨w.heap.size+1,0,none⟩) 1 1,.int .i64 (-60)])] from by
  have:=((Fx.one w 92 #[.bool n,.slice a1 k1 c1,.int .i64 e,.bool n',.slice a2 k2 c2,.int .i64 e'] rfl).alloc (.cells #[.int .u64 1] 22)).new 42 #[.bool false,.slice (some ⟨w.heap.size+1,0,none⟩) 1 1,.int .i64 (-60)] rfl
  simpa using this)
 have X0:=h_ (((hx.alloc (.cells #[.bool n,.slice a1 k1 c1,.int .i64 e,.bool n',.slice a2 k2 c2,.int .i64 e'] 92)).alloc (.cells #[.int .u64 1] 22)).alloc (.cells #[.bool false,.slice (some ⟨w.heap.size+1,0,none⟩) 1 1,.int .i64 (-60)] 42))
 have Y0:=h_ (((hy.alloc (.cells #[.bool n,.slice a1 k1 c1,.int .i64 e,.bool n',.slice a2 k2 c2,.int .i64 e'] 92)).alloc (.cells #[.int .u64 1] 22)).alloc (.cells #[.bool false,.slice (some ⟨w.heap.size+1,0,none⟩) 1 1,.int .i64 (-60)] 42))
 have U0:=h_ (((hu.alloc (.cells #[.bool n,.slice a1 k1 c1,.int .i64 e,.bool n',.slice a2 k2 c2,.int .i64 e'] 92)).alloc (.cells #[.int .u64 1] 22)).alloc (.cells #[.bool false,.slice (some ⟨w.heap.size+1,0,none⟩) 1 1,.int .i64 (-60)] 42))
 have P0:=h_ (show Ry (((w.alloc (.cells #[.bool n,.slice a1 k1 c1,.int .i64 e,.bool n',.slice a2 k2 c2,.int .i64 e'] 92)).alloc (.cells #[.int .u64 1] 22)).alloc (.cells #[.bool false,.slice (some ⟨w.heap.size+1,0,none⟩) 1 1,.int .i64 (-60)] 42)) (.agg #[.bool false,.slice (some ⟨w.heap.size+1,0,none⟩) 1 1,.int .i64 (-60)]) nearD from by
  have:=(near_lit (hx.alloc (.cells #[.bool n,.slice a1 k1 c1,.int .i64 e,.bool n',.slice a2 k2 c2,.int .i64 e'] 92)).tab).alloc (.cells #[.bool false,.slice (some ⟨w.heap.size+1,0,none⟩) 1 1,.int .i64 (-60)] 42)
  simpa using this)
 clear hu hx hy s1 s2 h0 h1 h2 h3
 go_enter Tryz.func91,Tryz.ntmps91
 go_upto_region 2 with (fail)
 generalize World.alloc (World.alloc (World.alloc _ _) _) _=w0 at F0 X0 Y0 U0 P0 ⊢
 have c0_0:=F0.out.c6 0 rfl
 have c1_0:=F0.out.c3 1 rfl
 go_wp2_with fail
 clear c0_0 c1_0
 refine (CR.out _ _ U0.out).mono ?_
 rintro q w1 ⟨rfl,hb⟩
 have F1:=h_ (F0.out.call hb)
 have X1:=h_ (X0.out.below hb)
 have Y1:=h_ (Y0.out.below hb)
 have U1:=h_ (U0.out.below hb)
 have P1:=h_ (P0.out.below hb)
 clear F0 X0 Y0 U0 P0
 clear hb
 have c0_1:=F1.out.c6 0 rfl
 have c1_1:=F1.out.c3 1 rfl
 clear U1
 go_upto_region 4 with (fail)
 clear c0_1 c1_1
 have FCD:=h_ (((F1.out.drew).c6 0 rfl).1)
 go_region_held3 (fun w'=>(w'.cell? ⟨w.heap.size,0,none⟩=some (.bool n)∧w'.cell? ⟨w.heap.size,1,none⟩=some (.slice a1 k1 c1)∧w'.cell? ⟨w.heap.size,2,none⟩=some (.int .i64 e)∧w'.cell? ⟨w.heap.size,3,none⟩=some (.bool n')∧w'.cell? ⟨w.heap.size,4,none⟩=some (.slice a2 k2 c2)∧w'.cell? ⟨w.heap.size,5,none⟩=some (.int .i64 e'))) (first | with_reducible exact FCD.out | with_reducible exact FC.out) (first | (go_at_call 17; (with_reducible refine (CC1.out _ _ _ X2.out A2.out).mono ?_); rintro q ww3 ⟨rfl,hb⟩; have F3:=h_ (F2.out.call hb); have X3:=h_ (X2.out.below hb); have Y3:=h_ (Y2.out.below hb); have P3:=h_ (P2.out.below hb); have A3:=h_ (A2.out.below hb); have FC:=h_ ((F3.out.c6 0 rfl).1); have c0_3:=F3.out.c6 0 rfl; have c1_3:=F3.out.c3 1 rfl; clear hb) | (go_at_call 18; (with_reducible refine (CO1.out _ (X1.out.drew).tab).mono ?_); rintro q ww2 ⟨u1,rfl,hu,hb⟩; have F2:=h_ ((F1.out.drew).call hb); have X2:=h_ ((X1.out.drew).below hb); have Y2:=h_ ((Y1.out.drew).below hb); have P2:=h_ ((P1.out.drew).below hb); have A2:=h_ (hu); obtain ⟨b1,f1,d1,rfl⟩:=A2.out.fm; have FC:=h_ ((F2.out.c6 0 rfl).1); have c0_2:=F2.out.c6 0 rfl; have c1_2:=F2.out.c3 1 rfl; clear hb))
 clear A3
 go_upto_region 6 with (fail)
 clear c0_3 c1_3
 have FCD:=h_ (((F3.out.drew).c6 0 rfl).1)
 go_region_held3 (fun w'=>(w'.cell? ⟨w.heap.size,0,none⟩=some (.bool n)∧w'.cell? ⟨w.heap.size,1,none⟩=some (.slice a1 k1 c1)∧w'.cell? ⟨w.heap.size,2,none⟩=some (.int .i64 e)∧w'.cell? ⟨w.heap.size,3,none⟩=some (.bool n')∧w'.cell? ⟨w.heap.size,4,none⟩=some (.slice a2 k2 c2)∧w'.cell? ⟨w.heap.size,5,none⟩=some (.int .i64 e'))) (first | with_reducible exact FCD.out | with_reducible exact FC.out) (first | (go_at_call 17; (with_reducible refine (CC2.out _ _ _ Y4.out A4.out).mono ?_); rintro q ww5 ⟨rfl,hb⟩; have F5:=h_ (F4.out.call hb); have X5:=h_ (X4.out.below hb); have Y5:=h_ (Y4.out.below hb); have P5:=h_ (P4.out.below hb); have A5:=h_ (A4.out.below hb); have FC:=h_ ((F5.out.c6 0 rfl).1); have c0_5:=F5.out.c6 0 rfl; have c1_5:=F5.out.c3 1 rfl; clear hb) | (go_at_call 18; (with_reducible refine (CO2.out _ (X3.out.drew).tab).mono ?_); rintro q ww4 ⟨u2,rfl,hu,hb⟩; have F4:=h_ ((F3.out.drew).call hb); have X4:=h_ ((X3.out.drew).below hb); have Y4:=h_ ((Y3.out.drew).below hb); have P4:=h_ ((P3.out.drew).below hb); have A4:=h_ (hu); obtain ⟨b2,f2,d2,rfl⟩:=A4.out.fm; have FC:=h_ ((F4.out.c6 0 rfl).1); have c0_4:=F4.out.c6 0 rfl; have c1_4:=F4.out.c3 1 rfl; clear hb))
 clear A5
 have c0_5:=F5.out.c6 0 rfl
 have c1_5:=F5.out.c3 1 rfl
 go_wp2_with fail
 clear c0_5 c1_5
 refine (CC3.out _ _ _ Y5.out P5.out).mono ?_
 rintro q w6 ⟨rfl,hb⟩
 have F6:=h_ (F5.out.call hb)
 have X6:=h_ (X5.out.below hb)
 have Y6:=h_ (Y5.out.below hb)
 have P6:=h_ (P5.out.below hb)
 clear F5 X5 Y5 P5
 clear hb
 have c0_6:=F6.out.c6 0 rfl
 have c1_6:=F6.out.c3 1 rfl
 go_wp2
 go_ret
 exact ⟨rfl,F6.out.b⟩
theorem Of_less {w:World} {u:Value} {i:In} (hu:Iv w u i) (s1:Sd i.lo) (s2:Sd i.hi) (h0:CmpD i.lo i.hi≤0) (h1:CmpD i.lo (ofN 710) < 0) (h2:0 < CmpD i.hi (ofN (-746))) (h3:0 < CmpD i.lo (MinusD nearD)) :
  Calls Tryz.prog 91 #[u,.int .i64 (-1)] w fun e w'=>e=.returned (.int .i64 4)∧Below w.heap.size w w':=by
 obtain ⟨lo,hi⟩:=i
 simp only at s1 s2 h0 h1 h2 h3
 have CR:=h_ (fun w u (h:Iv w u ⟨lo,hi⟩)=>(show Calls Tryz.prog 132 #[u] w (fun e w'=>e=.returned (.bool true)∧Below w.heap.size w w') from by have h1:=Right_r h s1 s2; rw [decide_eq_true h0] at h1; exact h1))
 have CO1:=h_ (fun w (t:Tab w)=>Of_d t 710 (by decide))
 have CO2:=h_ (fun w (t:Tab w)=>Of_d t (-746) (by decide))
 have CC1:=h_ (fun w u v (h:Cy w u lo) (k:Cy w v (ofN 710))=>Cmp_d h.ry k.ry)
 have CC2:=h_ (fun w u v (h:Cy w u hi) (k:Cy w v (ofN (-746)))=>Cmp_d h.ry k.ry)
 have CC3:=h_ (fun w u v (h:Cy w u hi) (k:Ry w v nearD)=>Cmp_d h.ry k)
 have CM:=h_ (fun w u (h:Ry w u nearD)=>Minus_s h ⟨by decide,by decide,by decide⟩)
 have CC4:=h_ (fun w u v (h:Cy w u lo) (k:Cy w v (MinusD nearD))=>Cmp_d h.ry k.ry)
 generalize CmpD lo (ofN 710)=x1 at *
 generalize CmpD hi (ofN (-746))=x2 at *
 generalize CmpD hi nearD=x3 at *
 generalize CmpD lo (MinusD nearD)=x4 at *
 generalize ofN 710=o1 at *
 generalize ofN (-746)=o2 at *
 generalize MinusD nearD=o3 at *
 obtain ⟨n,m,e⟩:=lo
 obtain ⟨n',m',e'⟩:=hi
 obtain ⟨o1n,o1m,o1e⟩:=o1
 obtain ⟨o2n,o2m,o2e⟩:=o2
 obtain ⟨o3n,o3m,o3e⟩:=o3
 obtain ⟨a1,k1,c1,a2,k2,c2,rfl,hx,hy⟩:=hu.fm
 have z1:decide (0≤x1)=false:=decide_eq_false (by omega)
 have y1:¬ (0≤x1):=by omega
 have z2:decide (x2≤0)=false:=decide_eq_false (by omega)
 have y2:¬ (x2≤0):=by omega
 have z3:decide (0 < x4)=true:=decide_eq_true h3
 have y3:¬ (x4≤0):=by omega
 have F0:=h_ (show Fx w (((w.alloc (.cells #[.bool n,.slice a1 k1 c1,.int .i64 e,.bool n',.slice a2 k2 c2,.int .i64 e'] 92)).alloc (.cells #[.int .u64 1] 22)).alloc (.cells #[.bool false,.slice (some ⟨w.heap.size+1,0,none⟩) 1 1,.int .i64 (-60)] 42)) [(w.heap.size,92,#[.bool n,.slice a1 k1 c1,.int .i64 e,.bool n',.slice a2 k2 c2,.int .i64 e']),(w.heap.size+1+1,42,#[.bool false,.slice (some ⟨w.heap.size+1,0,none⟩) 1 1,.int .i64 (-60)])] from by
  have:=((Fx.one w 92 #[.bool n,.slice a1 k1 c1,.int .i64 e,.bool n',.slice a2 k2 c2,.int .i64 e'] rfl).alloc (.cells #[.int .u64 1] 22)).new 42 #[.bool false,.slice (some ⟨w.heap.size+1,0,none⟩) 1 1,.int .i64 (-60)] rfl
  simpa using this)
 have X0:=h_ (((hx.alloc (.cells #[.bool n,.slice a1 k1 c1,.int .i64 e,.bool n',.slice a2 k2 c2,.int .i64 e'] 92)).alloc (.cells #[.int .u64 1] 22)).alloc (.cells #[.bool false,.slice (some ⟨w.heap.size+1,0,none⟩) 1 1,.int .i64 (-60)] 42))
 have Y0:=h_ (((hy.alloc (.cells #[.bool n,.slice a1 k1 c1,.int .i64 e,.bool n',.slice a2 k2 c2,.int .i64 e'] 92)).alloc (.cells #[.int .u64 1] 22)).alloc (.cells #[.bool false,.slice (some ⟨w.heap.size+1,0,none⟩) 1 1,.int .i64 (-60)] 42))
 have U0:=h_ (((hu.alloc (.cells #[.bool n,.slice a1 k1 c1,.int .i64 e,.bool n',.slice a2 k2 c2,.int .i64 e'] 92)).alloc (.cells #[.int .u64 1] 22)).alloc (.cells #[.bool false,.slice (some ⟨w.heap.size+1,0,none⟩) 1 1,.int .i64 (-60)] 42))
 have P0:=h_ (show Ry (((w.alloc (.cells #[.bool n,.slice a1 k1 c1,.int .i64 e,.bool n',.slice a2 k2 c2,.int .i64 e'] 92)).alloc (.cells #[.int .u64 1] 22)).alloc (.cells #[.bool false,.slice (some ⟨w.heap.size+1,0,none⟩) 1 1,.int .i64 (-60)] 42)) (.agg #[.bool false,.slice (some ⟨w.heap.size+1,0,none⟩) 1 1,.int .i64 (-60)]) nearD from by
  have:=(near_lit (hx.alloc (.cells #[.bool n,.slice a1 k1 c1,.int .i64 e,.bool n',.slice a2 k2 c2,.int .i64 e'] 92)).tab).alloc (.cells #[.bool false,.slice (some ⟨w.heap.size+1,0,none⟩) 1 1,.int .i64 (-60)] 42)
  simpa using this)
 clear hu hx hy s1 s2 h0 h1 h2 h3
 go_enter Tryz.func91,Tryz.ntmps91
 go_upto_region 2 with (fail)
 generalize World.alloc (World.alloc (World.alloc _ _) _) _=w0 at F0 X0 Y0 U0 P0 ⊢
 have c0_0:=F0.out.c6 0 rfl
 have c1_0:=F0.out.c3 1 rfl
 go_wp2_with fail
 clear c0_0 c1_0
 refine (CR.out _ _ U0.out).mono ?_
 rintro q w1 ⟨rfl,hb⟩
 have F1:=h_ (F0.out.call hb)
 have X1:=h_ (X0.out.below hb)
 have Y1:=h_ (Y0.out.below hb)
 have U1:=h_ (U0.out.below hb)
 have P1:=h_ (P0.out.below hb)
 clear F0 X0 Y0 U0 P0
 clear hb
 have c0_1:=F1.out.c6 0 rfl
 have c1_1:=F1.out.c3 1 rfl
 clear U1
 go_upto_region 4 with (fail)
 clear c0_1 c1_1
 have FCD:=h_ (((F1.out.drew).c6 0 rfl).1)
 go_region_held3 (fun w'=>(w'.cell? ⟨w.heap.size,0,none⟩=some (.bool n)∧w'.cell? ⟨w.heap.size,1,none⟩=some (.slice a1 k1 c1)∧w'.cell? ⟨w.heap.size,2,none⟩=some (.int .i64 e)∧w'.cell? ⟨w.heap.size,3,none⟩=some (.bool n')∧w'.cell? ⟨w.heap.size,4,none⟩=some (.slice a2 k2 c2)∧w'.cell? ⟨w.heap.size,5,none⟩=some (.int .i64 e'))) (first | with_reducible exact FCD.out | with_reducible exact FC.out) (first | (go_at_call 17; (with_reducible refine (CC1.out _ _ _ X2.out A2.out).mono ?_); rintro q ww3 ⟨rfl,hb⟩; have F3:=h_ (F2.out.call hb); have X3:=h_ (X2.out.below hb); have Y3:=h_ (Y2.out.below hb); have P3:=h_ (P2.out.below hb); have A3:=h_ (A2.out.below hb); have FC:=h_ ((F3.out.c6 0 rfl).1); have c0_3:=F3.out.c6 0 rfl; have c1_3:=F3.out.c3 1 rfl; clear hb) | (go_at_call 18; (with_reducible refine (CO1.out _ (X1.out.drew).tab).mono ?_); rintro q ww2 ⟨u1,rfl,hu,hb⟩; have F2:=h_ ((F1.out.drew).call hb); have X2:=h_ ((X1.out.drew).below hb); have Y2:=h_ ((Y1.out.drew).below hb); have P2:=h_ ((P1.out.drew).below hb); have A2:=h_ (hu); obtain ⟨b1,f1,d1,rfl⟩:=A2.out.fm; have FC:=h_ ((F2.out.c6 0 rfl).1); have c0_2:=F2.out.c6 0 rfl; have c1_2:=F2.out.c3 1 rfl; clear hb))
 clear A3
 go_upto_region 6 with (fail)
 clear c0_3 c1_3
 have FCD:=h_ (((F3.out.drew).c6 0 rfl).1)
 go_region_held3 (fun w'=>(w'.cell? ⟨w.heap.size,0,none⟩=some (.bool n)∧w'.cell? ⟨w.heap.size,1,none⟩=some (.slice a1 k1 c1)∧w'.cell? ⟨w.heap.size,2,none⟩=some (.int .i64 e)∧w'.cell? ⟨w.heap.size,3,none⟩=some (.bool n')∧w'.cell? ⟨w.heap.size,4,none⟩=some (.slice a2 k2 c2)∧w'.cell? ⟨w.heap.size,5,none⟩=some (.int .i64 e'))) (first | with_reducible exact FCD.out | with_reducible exact FC.out) (first | (go_at_call 17; (with_reducible refine (CC2.out _ _ _ Y4.out A4.out).mono ?_); rintro q ww5 ⟨rfl,hb⟩; have F5:=h_ (F4.out.call hb); have X5:=h_ (X4.out.below hb); have Y5:=h_ (Y4.out.below hb); have P5:=h_ (P4.out.below hb); have A5:=h_ (A4.out.below hb); have FC:=h_ ((F5.out.c6 0 rfl).1); have c0_5:=F5.out.c6 0 rfl; have c1_5:=F5.out.c3 1 rfl; clear hb) | (go_at_call 18; (with_reducible refine (CO2.out _ (X3.out.drew).tab).mono ?_); rintro q ww4 ⟨u2,rfl,hu,hb⟩; have F4:=h_ ((F3.out.drew).call hb); have X4:=h_ ((X3.out.drew).below hb); have Y4:=h_ ((Y3.out.drew).below hb); have P4:=h_ ((P3.out.drew).below hb); have A4:=h_ (hu); obtain ⟨b2,f2,d2,rfl⟩:=A4.out.fm; have FC:=h_ ((F4.out.c6 0 rfl).1); have c0_4:=F4.out.c6 0 rfl; have c1_4:=F4.out.c3 1 rfl; clear hb))
 clear A5
 have c0_5:=F5.out.c6 0 rfl
 have c1_5:=F5.out.c3 1 rfl
 go_upto_region 10 with (fail)
 clear c0_5 c1_5
 have FCD:=h_ (And.intro ((F5.out.drew).c6 0 rfl).1 (((F5.out.drew).c3 1 rfl).1))
 go_region_held3 (fun w'=>(w'.cell? ⟨w.heap.size,0,none⟩=some (.bool n)∧w'.cell? ⟨w.heap.size,1,none⟩=some (.slice a1 k1 c1)∧w'.cell? ⟨w.heap.size,2,none⟩=some (.int .i64 e)∧w'.cell? ⟨w.heap.size,3,none⟩=some (.bool n')∧w'.cell? ⟨w.heap.size,4,none⟩=some (.slice a2 k2 c2)∧w'.cell? ⟨w.heap.size,5,none⟩=some (.int .i64 e'))∧(w'.cell? ⟨w.heap.size+1+1,0,none⟩=some (.bool false)∧w'.cell? ⟨w.heap.size+1+1,1,none⟩=some (.slice (some ⟨w.heap.size+1,0,none⟩) 1 1)∧w'.cell? ⟨w.heap.size+1+1,2,none⟩=some (.int .i64 (-60)))) (first | with_reducible exact FCD.out | with_reducible exact FC.out) (first | (go_at_call 17; (with_reducible refine (CC4.out _ _ _ X6.out A6.out).mono ?_); rintro q ww7 ⟨rfl,hb⟩; have F7:=h_ (F6.out.call hb); have X7:=h_ (X6.out.below hb); have Y7:=h_ (Y6.out.below hb); have P7:=h_ (P6.out.below hb); have A7:=h_ (A6.out.below hb); have FC:=h_ (And.intro (F7.out.c6 0 rfl).1 ((F7.out.c3 1 rfl).1)); have c0_7:=F7.out.c6 0 rfl; have c1_7:=F7.out.c3 1 rfl; clear hb) | (go_at_call 39; (with_reducible refine (CM.out _ _ (P5.out.drew)).mono ?_); rintro q ww6 ⟨u3,rfl,hu,hb⟩; have F6:=h_ ((F5.out.drew).call hb); have X6:=h_ ((X5.out.drew).below hb); have Y6:=h_ ((Y5.out.drew).below hb); have P6:=h_ ((P5.out.drew).below hb); have A6:=h_ (hu); obtain ⟨b3,f3,d3,rfl⟩:=A6.out.fm; have FC:=h_ (And.intro (F6.out.c6 0 rfl).1 ((F6.out.c3 1 rfl).1)); have c0_6:=F6.out.c6 0 rfl; have c1_6:=F6.out.c3 1 rfl; clear hb))
 go_wp2
 go_ret
 exact ⟨rfl,F7.out.b⟩
theorem Of_open {w:World} {u:Value} {i:In} (hu:Iv w u i) (s1:Sd i.lo) (s2:Sd i.hi) (h0:CmpD i.lo i.hi≤0) (h1:CmpD i.lo (ofN 710) < 0) (h2:0 < CmpD i.hi (ofN (-746))) (h3:0≤CmpD i.hi nearD) :
  Calls Tryz.prog 91 #[u,.int .i64 (1)] w fun e w'=>e=.returned (.int .i64 0)∧Below w.heap.size w w':=by
 obtain ⟨lo,hi⟩:=i
 simp only at s1 s2 h0 h1 h2 h3
 have CR:=h_ (fun w u (h:Iv w u ⟨lo,hi⟩)=>(show Calls Tryz.prog 132 #[u] w (fun e w'=>e=.returned (.bool true)∧Below w.heap.size w w') from by have h1:=Right_r h s1 s2; rw [decide_eq_true h0] at h1; exact h1))
 have CO1:=h_ (fun w (t:Tab w)=>Of_d t 710 (by decide))
 have CO2:=h_ (fun w (t:Tab w)=>Of_d t (-746) (by decide))
 have CC1:=h_ (fun w u v (h:Cy w u lo) (k:Cy w v (ofN 710))=>Cmp_d h.ry k.ry)
 have CC2:=h_ (fun w u v (h:Cy w u hi) (k:Cy w v (ofN (-746)))=>Cmp_d h.ry k.ry)
 have CC3:=h_ (fun w u v (h:Cy w u hi) (k:Ry w v nearD)=>Cmp_d h.ry k)
 have CM:=h_ (fun w u (h:Ry w u nearD)=>Minus_s h ⟨by decide,by decide,by decide⟩)
 have CC4:=h_ (fun w u v (h:Cy w u lo) (k:Cy w v (MinusD nearD))=>Cmp_d h.ry k.ry)
 generalize CmpD lo (ofN 710)=x1 at *
 generalize CmpD hi (ofN (-746))=x2 at *
 generalize CmpD hi nearD=x3 at *
 generalize CmpD lo (MinusD nearD)=x4 at *
 generalize ofN 710=o1 at *
 generalize ofN (-746)=o2 at *
 generalize MinusD nearD=o3 at *
 obtain ⟨n,m,e⟩:=lo
 obtain ⟨n',m',e'⟩:=hi
 obtain ⟨o1n,o1m,o1e⟩:=o1
 obtain ⟨o2n,o2m,o2e⟩:=o2
 obtain ⟨o3n,o3m,o3e⟩:=o3
 obtain ⟨a1,k1,c1,a2,k2,c2,rfl,hx,hy⟩:=hu.fm
 have z1:decide (0≤x1)=false:=decide_eq_false (by omega)
 have y1:¬ (0≤x1):=by omega
 have z2:decide (x2≤0)=false:=decide_eq_false (by omega)
 have y2:¬ (x2≤0):=by omega
 have z3:decide (x3 < 0)=false:=decide_eq_false (by omega)
 have F0:=h_ (show Fx w (((w.alloc (.cells #[.bool n,.slice a1 k1 c1,.int .i64 e,.bool n',.slice a2 k2 c2,.int .i64 e'] 92)).alloc (.cells #[.int .u64 1] 22)).alloc (.cells #[.bool false,.slice (some ⟨w.heap.size+1,0,none⟩) 1 1,.int .i64 (-60)] 42)) [(w.heap.size,92,#[.bool n,.slice a1 k1 c1,.int .i64 e,.bool n',.slice a2 k2 c2,.int .i64 e']),(w.heap.size+1+1,42,#[.bool false,.slice (some ⟨w.heap.size+1,0,none⟩) 1 1,.int .i64 (-60)])] from by
  have:=((Fx.one w 92 #[.bool n,.slice a1 k1 c1,.int .i64 e,.bool n',.slice a2 k2 c2,.int .i64 e'] rfl).alloc (.cells #[.int .u64 1] 22)).new 42 #[.bool false,.slice (some ⟨w.heap.size+1,0,none⟩) 1 1,.int .i64 (-60)] rfl
  simpa using this)
 have X0:=h_ (((hx.alloc (.cells #[.bool n,.slice a1 k1 c1,.int .i64 e,.bool n',.slice a2 k2 c2,.int .i64 e'] 92)).alloc (.cells #[.int .u64 1] 22)).alloc (.cells #[.bool false,.slice (some ⟨w.heap.size+1,0,none⟩) 1 1,.int .i64 (-60)] 42))
 have Y0:=h_ (((hy.alloc (.cells #[.bool n,.slice a1 k1 c1,.int .i64 e,.bool n',.slice a2 k2 c2,.int .i64 e'] 92)).alloc (.cells #[.int .u64 1] 22)).alloc (.cells #[.bool false,.slice (some ⟨w.heap.size+1,0,none⟩) 1 1,.int .i64 (-60)] 42))
 have U0:=h_ (((hu.alloc (.cells #[.bool n,.slice a1 k1 c1,.int .i64 e,.bool n',.slice a2 k2 c2,.int .i64 e'] 92)).alloc (.cells #[.int .u64 1] 22)).alloc (.cells #[.bool false,.slice (some ⟨w.heap.size+1,0,none⟩) 1 1,.int .i64 (-60)] 42))
 have P0:=h_ (show Ry (((w.alloc (.cells #[.bool n,.slice a1 k1 c1,.int .i64 e,.bool n',.slice a2 k2 c2,.int .i64 e'] 92)).alloc (.cells #[.int .u64 1] 22)).alloc (.cells #[.bool false,.slice (some ⟨w.heap.size+1,0,none⟩) 1 1,.int .i64 (-60)] 42)) (.agg #[.bool false,.slice (some ⟨w.heap.size+1,0,none⟩) 1 1,.int .i64 (-60)]) nearD from by
  have:=(near_lit (hx.alloc (.cells #[.bool n,.slice a1 k1 c1,.int .i64 e,.bool n',.slice a2 k2 c2,.int .i64 e'] 92)).tab).alloc (.cells #[.bool false,.slice (some ⟨w.heap.size+1,0,none⟩) 1 1,.int .i64 (-60)] 42)
  simpa using this)
 clear hu hx hy s1 s2 h0 h1 h2
 go_enter Tryz.func91,Tryz.ntmps91
 go_upto_region 2 with (fail)
 generalize World.alloc (World.alloc (World.alloc _ _) _) _=w0 at F0 X0 Y0 U0 P0 ⊢
 have c0_0:=F0.out.c6 0 rfl
 have c1_0:=F0.out.c3 1 rfl
 go_wp2_with fail
 clear c0_0 c1_0
 refine (CR.out _ _ U0.out).mono ?_
 rintro q w1 ⟨rfl,hb⟩
 have F1:=h_ (F0.out.call hb)
 have X1:=h_ (X0.out.below hb)
 have Y1:=h_ (Y0.out.below hb)
 have U1:=h_ (U0.out.below hb)
 have P1:=h_ (P0.out.below hb)
 clear F0 X0 Y0 U0 P0
 clear hb
 have c0_1:=F1.out.c6 0 rfl
 have c1_1:=F1.out.c3 1 rfl
 clear U1
 go_upto_region 4 with (fail)
 clear c0_1 c1_1
 have FCD:=h_ (((F1.out.drew).c6 0 rfl).1)
 go_region_held3 (fun w'=>(w'.cell? ⟨w.heap.size,0,none⟩=some (.bool n)∧w'.cell? ⟨w.heap.size,1,none⟩=some (.slice a1 k1 c1)∧w'.cell? ⟨w.heap.size,2,none⟩=some (.int .i64 e)∧w'.cell? ⟨w.heap.size,3,none⟩=some (.bool n')∧w'.cell? ⟨w.heap.size,4,none⟩=some (.slice a2 k2 c2)∧w'.cell? ⟨w.heap.size,5,none⟩=some (.int .i64 e'))) (first | with_reducible exact FCD.out | with_reducible exact FC.out) (first | (go_at_call 17; (with_reducible refine (CC1.out _ _ _ X2.out A2.out).mono ?_); rintro q ww3 ⟨rfl,hb⟩; have F3:=h_ (F2.out.call hb); have X3:=h_ (X2.out.below hb); have Y3:=h_ (Y2.out.below hb); have P3:=h_ (P2.out.below hb); have A3:=h_ (A2.out.below hb); have FC:=h_ ((F3.out.c6 0 rfl).1); have c0_3:=F3.out.c6 0 rfl; have c1_3:=F3.out.c3 1 rfl; clear hb) | (go_at_call 18; (with_reducible refine (CO1.out _ (X1.out.drew).tab).mono ?_); rintro q ww2 ⟨u1,rfl,hu,hb⟩; have F2:=h_ ((F1.out.drew).call hb); have X2:=h_ ((X1.out.drew).below hb); have Y2:=h_ ((Y1.out.drew).below hb); have P2:=h_ ((P1.out.drew).below hb); have A2:=h_ (hu); obtain ⟨b1,f1,d1,rfl⟩:=A2.out.fm; have FC:=h_ ((F2.out.c6 0 rfl).1); have c0_2:=F2.out.c6 0 rfl; have c1_2:=F2.out.c3 1 rfl; clear hb))
 clear A3
 go_upto_region 6 with (fail)
 clear c0_3 c1_3
 have FCD:=h_ (((F3.out.drew).c6 0 rfl).1)
 go_region_held3 (fun w'=>(w'.cell? ⟨w.heap.size,0,none⟩=some (.bool n)∧w'.cell? ⟨w.heap.size,1,none⟩=some (.slice a1 k1 c1)∧w'.cell? ⟨w.heap.size,2,none⟩=some (.int .i64 e)∧w'.cell? ⟨w.heap.size,3,none⟩=some (.bool n')∧w'.cell? ⟨w.heap.size,4,none⟩=some (.slice a2 k2 c2)∧w'.cell? ⟨w.heap.size,5,none⟩=some (.int .i64 e'))) (first | with_reducible exact FCD.out | with_reducible exact FC.out) (first | (go_at_call 17; (with_reducible refine (CC2.out _ _ _ Y4.out A4.out).mono ?_); rintro q ww5 ⟨rfl,hb⟩; have F5:=h_ (F4.out.call hb); have X5:=h_ (X4.out.below hb); have Y5:=h_ (Y4.out.below hb); have P5:=h_ (P4.out.below hb); have A5:=h_ (A4.out.below hb); have FC:=h_ ((F5.out.c6 0 rfl).1); have c0_5:=F5.out.c6 0 rfl; have c1_5:=F5.out.c3 1 rfl; clear hb) | (go_at_call 18; (with_reducible refine (CO2.out _ (X3.out.drew).tab).mono ?_); rintro q ww4 ⟨u2,rfl,hu,hb⟩; have F4:=h_ ((F3.out.drew).call hb); have X4:=h_ ((X3.out.drew).below hb); have Y4:=h_ ((Y3.out.drew).below hb); have P4:=h_ ((P3.out.drew).below hb); have A4:=h_ (hu); obtain ⟨b2,f2,d2,rfl⟩:=A4.out.fm; have FC:=h_ ((F4.out.c6 0 rfl).1); have c0_4:=F4.out.c6 0 rfl; have c1_4:=F4.out.c3 1 rfl; clear hb))
 clear A5
 have c0_5:=F5.out.c6 0 rfl
 have c1_5:=F5.out.c3 1 rfl
 go_wp2_with fail
 clear c0_5 c1_5
 refine (CC3.out _ _ _ Y5.out P5.out).mono ?_
 rintro q w6 ⟨rfl,hb⟩
 have F6:=h_ (F5.out.call hb)
 have X6:=h_ (X5.out.below hb)
 have Y6:=h_ (Y5.out.below hb)
 have P6:=h_ (P5.out.below hb)
 clear F5 X5 Y5 P5
 clear hb
 have c0_6:=F6.out.c6 0 rfl
 have c1_6:=F6.out.c3 1 rfl
 go_upto_region 10 with (fail)
 go_quiet (fail)
 go_wp2
 go_ret
 exact ⟨rfl,(F6.out.drewN _).b⟩
def lessDn:Dn:=⟨false,18014398509481983,-54⟩
def oneDn:Dn:=⟨false,1,0⟩
theorem To_one0 {w:World} {u:Value} (hu:Ry w u oneDn):Calls Tryz.prog 40 #[u,.bool true,.int .i64 0] w fun e w'=>e=.returned (.tuple #[.int .u64 4607182418800017408,.int .u8 1,.int .i64 0])∧Below w.heap.size w w' :=
 To_r hu ⟨by decide,by decide,by decide⟩ (by decide) (by decide) true 0 (by decide) (0) (by decide) (by decide) (-52) (by decide) (by decide) 4503599627370496 true (by decide) (by decide) (0) (by decide) (by decide) (by decide) (by decide) 52 (by decide) 4503599627370496 (by decide) (by decide) (by decide) 4607182418800017408 (by kernel_rfl)
theorem To_less0 {w:World} {u:Value} (hu:Ry w u lessDn):Calls Tryz.prog 40 #[u,.bool true,.int .i64 0] w fun e w'=>e=.returned (.tuple #[.int .u64 4607182418800017408,.int .u8 1,.int .i64 0])∧Below w.heap.size w w' :=
 To_r hu ⟨by decide,by decide,by decide⟩ (by decide) (by decide) true 0 (by decide) (-1) (by decide) (by decide) (1) (by decide) (by decide) 9007199254740992 true (by decide) (by decide) (0) (by decide) (by decide) (by decide) (by decide) 52 (by decide) 4503599627370496 (by decide) (by decide) (by decide) 4607182418800017408 (by kernel_rfl)
theorem To_one1 {w:World} {u:Value} (hu:Ry w u oneDn):Calls Tryz.prog 40 #[u,.bool true,.int .i64 1] w fun e w'=>e=.returned (.tuple #[.int .u64 4607182418800017408,.int .u8 1,.int .i64 0])∧Below w.heap.size w w' :=
 To_r hu ⟨by decide,by decide,by decide⟩ (by decide) (by decide) true 1 (by decide) (0) (by decide) (by decide) (-52) (by decide) (by decide) 4503599627370496 true (by decide) (by decide) (0) (by decide) (by decide) (by decide) (by decide) 52 (by decide) 4503599627370496 (by decide) (by decide) (by decide) 4607182418800017408 (by kernel_rfl)
theorem To_less1 {w:World} {u:Value} (hu:Ry w u lessDn):Calls Tryz.prog 40 #[u,.bool true,.int .i64 1] w fun e w'=>e=.returned (.tuple #[.int .u64 4607182418800017407,.int .u8 1,.int .i64 0])∧Below w.heap.size w w' :=
 To_r hu ⟨by decide,by decide,by decide⟩ (by decide) (by decide) true 1 (by decide) (-1) (by decide) (by decide) (1) (by decide) (by decide) 9007199254740991 true (by decide) (by decide) (-1) (by decide) (by decide) (by decide) (by decide) 0 (by decide) 9007199254740991 (by decide) (by decide) (by decide) 4607182418800017407 (by kernel_rfl)
theorem To_one2 {w:World} {u:Value} (hu:Ry w u oneDn):Calls Tryz.prog 40 #[u,.bool true,.int .i64 2] w fun e w'=>e=.returned (.tuple #[.int .u64 4607182418800017409,.int .u8 1,.int .i64 0])∧Below w.heap.size w w' :=
 To_r hu ⟨by decide,by decide,by decide⟩ (by decide) (by decide) true 2 (by decide) (0) (by decide) (by decide) (-52) (by decide) (by decide) 4503599627370497 true (by decide) (by decide) (0) (by decide) (by decide) (by decide) (by decide) 0 (by decide) 4503599627370497 (by decide) (by decide) (by decide) 4607182418800017409 (by kernel_rfl)
theorem To_less2 {w:World} {u:Value} (hu:Ry w u lessDn):Calls Tryz.prog 40 #[u,.bool true,.int .i64 2] w fun e w'=>e=.returned (.tuple #[.int .u64 4607182418800017408,.int .u8 1,.int .i64 0])∧Below w.heap.size w w' :=
 To_r hu ⟨by decide,by decide,by decide⟩ (by decide) (by decide) true 2 (by decide) (-1) (by decide) (by decide) (1) (by decide) (by decide) 9007199254740992 true (by decide) (by decide) (0) (by decide) (by decide) (by decide) (by decide) 52 (by decide) 4503599627370496 (by decide) (by decide) (by decide) 4607182418800017408 (by kernel_rfl)
theorem To_one3 {w:World} {u:Value} (hu:Ry w u oneDn):Calls Tryz.prog 40 #[u,.bool true,.int .i64 3] w fun e w'=>e=.returned (.tuple #[.int .u64 4607182418800017408,.int .u8 1,.int .i64 0])∧Below w.heap.size w w' :=
 To_r hu ⟨by decide,by decide,by decide⟩ (by decide) (by decide) true 3 (by decide) (0) (by decide) (by decide) (-52) (by decide) (by decide) 4503599627370496 true (by decide) (by decide) (0) (by decide) (by decide) (by decide) (by decide) 52 (by decide) 4503599627370496 (by decide) (by decide) (by decide) 4607182418800017408 (by kernel_rfl)
theorem To_less3 {w:World} {u:Value} (hu:Ry w u lessDn):Calls Tryz.prog 40 #[u,.bool true,.int .i64 3] w fun e w'=>e=.returned (.tuple #[.int .u64 4607182418800017407,.int .u8 1,.int .i64 0])∧Below w.heap.size w w' :=
 To_r hu ⟨by decide,by decide,by decide⟩ (by decide) (by decide) true 3 (by decide) (-1) (by decide) (by decide) (1) (by decide) (by decide) 9007199254740991 true (by decide) (by decide) (-1) (by decide) (by decide) (by decide) (by decide) 0 (by decide) 9007199254740991 (by decide) (by decide) (by decide) 4607182418800017407 (by kernel_rfl)
def moreB (z:Int):Int:=if z=2 then 4607182418800017409 else 4607182418800017408
def lessB (z:Int):Int:=if z=1 ∨ z=3 then 4607182418800017407 else 4607182418800017408
theorem Result_more {w:World} (t:Tab w) (z:Int) (hz:0≤z∧z≤3):Calls Tryz.prog 92 #[.int .i64 3,.bool false,.int .i64 z] w fun e w'=>e=.returned (.tuple #[.int .u64 (moreB z),.int .u8 1,.bool true])∧Below w.heap.size w w':=by
 have HT:=h_ t
 have HF:=h_ (show Fx w ((w.alloc (.cells #[.int .u64 1] 22)).alloc (.cells #[.bool false,.slice (some ⟨w.heap.size,0,none⟩) 1 1,.int .i64 0] 42)) [(w.heap.size+1,42,#[.bool false,.slice (some ⟨w.heap.size,0,none⟩) 1 1,.int .i64 0])] from by
  have:=((Fx.nil w).alloc (.cells #[.int .u64 1] 22)).new 42 #[.bool false,.slice (some ⟨w.heap.size,0,none⟩) 1 1,.int .i64 0] rfl
  simpa using this)
 have HX:=h_ (show Ry ((w.alloc (.cells #[.int .u64 1] 22)).alloc (.cells #[.bool false,.slice (some ⟨w.heap.size,0,none⟩) 1 1,.int .i64 0] 42)) (.agg #[.bool false,.slice (some ⟨w.heap.size,0,none⟩) 1 1,.int .i64 0]) oneDn from
  Ry.alloc (w:=w.alloc (.cells #[.int .u64 1] 22)) (d:=oneDn) ⟨_,rfl,raw_rd (raw_one t (n:=1) (by decide)),by decide,by decide,by decide⟩ _)
 clear t
 rcases (by omega:z=0 ∨ z=1 ∨ z=2 ∨ z=3) with rfl | rfl | rfl | rfl <;> clear hz
 ·obtain ⟨b,hb⟩:∃ b,b=moreB 0:=⟨_,rfl⟩
  rw [← hb]
  obtain rfl:b=4607182418800017408:=hb
  go_enter Tryz.func92,Tryz.ntmps92
  go_upto_region 15 with (fail)
  generalize World.alloc (World.alloc _ _) _=w0 at HF HX ⊢
  have c0:=HF.out.c3 0 rfl
  go_wp2_with fail
  clear c0
  refine (To_one0 HX.out).mono ?_
  rintro q w1 ⟨rfl,hb⟩
  have F1:=h_ (HF.out.call hb)
  clear hb
  go_wp2
  refine bodyPost_ret (v:=.tuple #[.int .u64 4607182418800017408,.int .u8 1,.bool true]) (by simp [results,Tryz.results92,go_sem]) rfl ?_
  exact ⟨rfl,F1.out.b⟩
 ·obtain ⟨b,hb⟩:∃ b,b=moreB 1:=⟨_,rfl⟩
  rw [← hb]
  obtain rfl:b=4607182418800017408:=hb
  go_enter Tryz.func92,Tryz.ntmps92
  go_upto_region 15 with (fail)
  generalize World.alloc (World.alloc _ _) _=w0 at HF HX ⊢
  have c0:=HF.out.c3 0 rfl
  go_wp2_with fail
  clear c0
  refine (To_one1 HX.out).mono ?_
  rintro q w1 ⟨rfl,hb⟩
  have F1:=h_ (HF.out.call hb)
  clear hb
  go_wp2
  refine bodyPost_ret (v:=.tuple #[.int .u64 4607182418800017408,.int .u8 1,.bool true]) (by simp [results,Tryz.results92,go_sem]) rfl ?_
  exact ⟨rfl,F1.out.b⟩
 ·obtain ⟨b,hb⟩:∃ b,b=moreB 2:=⟨_,rfl⟩
  rw [← hb]
  obtain rfl:b=4607182418800017409:=hb
  go_enter Tryz.func92,Tryz.ntmps92
  go_upto_region 15 with (fail)
  generalize World.alloc (World.alloc _ _) _=w0 at HF HX ⊢
  have c0:=HF.out.c3 0 rfl
  go_wp2_with fail
  clear c0
  refine (To_one2 HX.out).mono ?_
  rintro q w1 ⟨rfl,hb⟩
  have F1:=h_ (HF.out.call hb)
  clear hb
  go_wp2
  refine bodyPost_ret (v:=.tuple #[.int .u64 4607182418800017409,.int .u8 1,.bool true]) (by simp [results,Tryz.results92,go_sem]) rfl ?_
  exact ⟨rfl,F1.out.b⟩
 ·obtain ⟨b,hb⟩:∃ b,b=moreB 3:=⟨_,rfl⟩
  rw [← hb]
  obtain rfl:b=4607182418800017408:=hb
  go_enter Tryz.func92,Tryz.ntmps92
  go_upto_region 15 with (fail)
  generalize World.alloc (World.alloc _ _) _=w0 at HF HX ⊢
  have c0:=HF.out.c3 0 rfl
  go_wp2_with fail
  clear c0
  refine (To_one3 HX.out).mono ?_
  rintro q w1 ⟨rfl,hb⟩
  have F1:=h_ (HF.out.call hb)
  clear hb
  go_wp2
  refine bodyPost_ret (v:=.tuple #[.int .u64 4607182418800017408,.int .u8 1,.bool true]) (by simp [results,Tryz.results92,go_sem]) rfl ?_
  exact ⟨rfl,F1.out.b⟩
theorem Result_less {w:World} (t:Tab w) (z:Int) (hz:0≤z∧z≤3):Calls Tryz.prog 92 #[.int .i64 4,.bool false,.int .i64 z] w fun e w'=>e=.returned (.tuple #[.int .u64 (lessB z),.int .u8 1,.bool true])∧Below w.heap.size w w':=by
 have HT:=h_ t
 have HF:=h_ (show Fx w ((w.alloc (.cells #[.int .u64 1] 22)).alloc (.cells #[.bool false,.slice (some ⟨w.heap.size,0,none⟩) 1 1,.int .i64 0] 42)) [(w.heap.size+1,42,#[.bool false,.slice (some ⟨w.heap.size,0,none⟩) 1 1,.int .i64 0])] from by
  have:=((Fx.nil w).alloc (.cells #[.int .u64 1] 22)).new 42 #[.bool false,.slice (some ⟨w.heap.size,0,none⟩) 1 1,.int .i64 0] rfl
  simpa using this)
 have HX:=h_ (show Ry ((w.alloc (.cells #[.int .u64 1] 22)).alloc (.cells #[.bool false,.slice (some ⟨w.heap.size,0,none⟩) 1 1,.int .i64 0] 42)) (.agg #[.bool false,.slice (some ⟨w.heap.size,0,none⟩) 1 1,.int .i64 0]) oneDn from
  Ry.alloc (w:=w.alloc (.cells #[.int .u64 1] 22)) (d:=oneDn) ⟨_,rfl,raw_rd (raw_one t (n:=1) (by decide)),by decide,by decide,by decide⟩ _)
 clear t
 rcases (by omega:z=0 ∨ z=1 ∨ z=2 ∨ z=3) with rfl | rfl | rfl | rfl <;> clear hz
 ·obtain ⟨b,hb⟩:∃ b,b=lessB 0:=⟨_,rfl⟩
  rw [← hb]
  obtain rfl:b=4607182418800017408:=hb
  go_enter Tryz.func92,Tryz.ntmps92
  go_upto_region 14 with (fail)
  have HTT:=h_ HX.out.tab
  generalize World.alloc (World.alloc _ _) _=w0 at HF HX HTT ⊢
  have c0:=HF.out.c3 0 rfl
  have HF2:=h_ (HF.out.alloc (.cells #[.int .u64 18014398509481983] 22))
  have HY:=h_ (show Ry (w0.alloc (.cells #[.int .u64 18014398509481983] 22)) (.agg #[.bool false,.slice (some ⟨w0.heap.size,0,none⟩) 1 1,.int .i64 (-54)]) lessDn from ⟨_,rfl,raw_rd (raw_one HTT.out (n:=18014398509481983) (by decide)),by decide,by decide,by decide⟩)
  have c1:=HF2.out.c3 0 rfl
  go_upto_region 15 with (fail)
  clear c0 c1
  obtain ⟨f,p⟩:=HF2.out.s3 0 rfl (.bool false) (.slice (some ⟨w0.heap.size,0,none⟩) 1 1) (.int .i64 (-54)) rfl rfl rfl
  generalize World.setCell (World.setCell (World.setCell _ _ _) _ _) _ _=W at f p ⊢
  have F3:=h_ f
  have Y3:=h_ (HY.out.kp p)
  clear f p
  have c0:=F3.out.c3 0 rfl
  go_wp2_with fail
  clear c0
  refine (To_less0 Y3.out).mono ?_
  rintro q w1 ⟨rfl,hb⟩
  have F1:=h_ (F3.out.call hb)
  clear hb
  go_wp2
  refine bodyPost_ret (v:=.tuple #[.int .u64 4607182418800017408,.int .u8 1,.bool true]) (by simp [results,Tryz.results92,go_sem]) rfl ?_
  exact ⟨rfl,F1.out.b⟩
 ·obtain ⟨b,hb⟩:∃ b,b=lessB 1:=⟨_,rfl⟩
  rw [← hb]
  obtain rfl:b=4607182418800017407:=hb
  go_enter Tryz.func92,Tryz.ntmps92
  go_upto_region 14 with (fail)
  have HTT:=h_ HX.out.tab
  generalize World.alloc (World.alloc _ _) _=w0 at HF HX HTT ⊢
  have c0:=HF.out.c3 0 rfl
  have HF2:=h_ (HF.out.alloc (.cells #[.int .u64 18014398509481983] 22))
  have HY:=h_ (show Ry (w0.alloc (.cells #[.int .u64 18014398509481983] 22)) (.agg #[.bool false,.slice (some ⟨w0.heap.size,0,none⟩) 1 1,.int .i64 (-54)]) lessDn from ⟨_,rfl,raw_rd (raw_one HTT.out (n:=18014398509481983) (by decide)),by decide,by decide,by decide⟩)
  have c1:=HF2.out.c3 0 rfl
  go_upto_region 15 with (fail)
  clear c0 c1
  obtain ⟨f,p⟩:=HF2.out.s3 0 rfl (.bool false) (.slice (some ⟨w0.heap.size,0,none⟩) 1 1) (.int .i64 (-54)) rfl rfl rfl
  generalize World.setCell (World.setCell (World.setCell _ _ _) _ _) _ _=W at f p ⊢
  have F3:=h_ f
  have Y3:=h_ (HY.out.kp p)
  clear f p
  have c0:=F3.out.c3 0 rfl
  go_wp2_with fail
  clear c0
  refine (To_less1 Y3.out).mono ?_
  rintro q w1 ⟨rfl,hb⟩
  have F1:=h_ (F3.out.call hb)
  clear hb
  go_wp2
  refine bodyPost_ret (v:=.tuple #[.int .u64 4607182418800017407,.int .u8 1,.bool true]) (by simp [results,Tryz.results92,go_sem]) rfl ?_
  exact ⟨rfl,F1.out.b⟩
 ·obtain ⟨b,hb⟩:∃ b,b=lessB 2:=⟨_,rfl⟩
  rw [← hb]
  obtain rfl:b=4607182418800017408:=hb
  go_enter Tryz.func92,Tryz.ntmps92
  go_upto_region 14 with (fail)
  have HTT:=h_ HX.out.tab
  generalize World.alloc (World.alloc _ _) _=w0 at HF HX HTT ⊢
  have c0:=HF.out.c3 0 rfl
  have HF2:=h_ (HF.out.alloc (.cells #[.int .u64 18014398509481983] 22))
  have HY:=h_ (show Ry (w0.alloc (.cells #[.int .u64 18014398509481983] 22)) (.agg #[.bool false,.slice (some ⟨w0.heap.size,0,none⟩) 1 1,.int .i64 (-54)]) lessDn from ⟨_,rfl,raw_rd (raw_one HTT.out (n:=18014398509481983) (by decide)),by decide,by decide,by decide⟩)
  have c1:=HF2.out.c3 0 rfl
  go_upto_region 15 with (fail)
  clear c0 c1
  obtain ⟨f,p⟩:=HF2.out.s3 0 rfl (.bool false) (.slice (some ⟨w0.heap.size,0,none⟩) 1 1) (.int .i64 (-54)) rfl rfl rfl
  generalize World.setCell (World.setCell (World.setCell _ _ _) _ _) _ _=W at f p ⊢
  have F3:=h_ f
  have Y3:=h_ (HY.out.kp p)
  clear f p
  have c0:=F3.out.c3 0 rfl
  go_wp2_with fail
  clear c0
  refine (To_less2 Y3.out).mono ?_
  rintro q w1 ⟨rfl,hb⟩
  have F1:=h_ (F3.out.call hb)
  clear hb
  go_wp2
  refine bodyPost_ret (v:=.tuple #[.int .u64 4607182418800017408,.int .u8 1,.bool true]) (by simp [results,Tryz.results92,go_sem]) rfl ?_
  exact ⟨rfl,F1.out.b⟩
 ·obtain ⟨b,hb⟩:∃ b,b=lessB 3:=⟨_,rfl⟩
  rw [← hb]
  obtain rfl:b=4607182418800017407:=hb
  go_enter Tryz.func92,Tryz.ntmps92
  go_upto_region 14 with (fail)
  have HTT:=h_ HX.out.tab
  generalize World.alloc (World.alloc _ _) _=w0 at HF HX HTT ⊢
  have c0:=HF.out.c3 0 rfl
  have HF2:=h_ (HF.out.alloc (.cells #[.int .u64 18014398509481983] 22))
  have HY:=h_ (show Ry (w0.alloc (.cells #[.int .u64 18014398509481983] 22)) (.agg #[.bool false,.slice (some ⟨w0.heap.size,0,none⟩) 1 1,.int .i64 (-54)]) lessDn from ⟨_,rfl,raw_rd (raw_one HTT.out (n:=18014398509481983) (by decide)),by decide,by decide,by decide⟩)
  have c1:=HF2.out.c3 0 rfl
  go_upto_region 15 with (fail)
  clear c0 c1
  obtain ⟨f,p⟩:=HF2.out.s3 0 rfl (.bool false) (.slice (some ⟨w0.heap.size,0,none⟩) 1 1) (.int .i64 (-54)) rfl rfl rfl
  generalize World.setCell (World.setCell (World.setCell _ _ _) _ _) _ _=W at f p ⊢
  have F3:=h_ f
  have Y3:=h_ (HY.out.kp p)
  clear f p
  have c0:=F3.out.c3 0 rfl
  go_wp2_with fail
  clear c0
  refine (To_less3 Y3.out).mono ?_
  rintro q w1 ⟨rfl,hb⟩
  have F1:=h_ (F3.out.call hb)
  clear hb
  go_wp2
  refine bodyPost_ret (v:=.tuple #[.int .u64 4607182418800017407,.int .u8 1,.bool true]) (by simp [results,Tryz.results92,go_sem]) rfl ?_
  exact ⟨rfl,F1.out.b⟩
def pw (n:Nat):Nat:=2^n
theorem pw_add (a b:Nat):pw a * pw b=pw (a+b):=(Nat.pow_add 2 a b).symm
theorem pw_le {a b:Nat} (h:a≤b):pw a≤pw b:=Nat.pow_le_pow_right (by decide) h
theorem pw_lt {a b:Nat} (h:a < b):pw a < pw b:=Nat.pow_lt_pow_right (by decide) h
theorem mz_pw (K:Int) (n:Bool) (m:Nat) (e:Int) (k:Nat) (hk:(e+K).toNat=k):mz K ⟨n,m,e⟩=m * pw k:=by subst hk; rfl
theorem lo_odd (k:Nat):lo (2 * k+1)=0:=lo_eq (m:=k) (by rw [Nat.pow_zero,Nat.one_mul])
theorem bareN_full {n:Bool} {m:Nat} {e:Int} (h0:m ≠ 0) (he:-100000≤e∧e≤100000) :
  ∃ k j:Nat,m=(2 * j+1) * 2^k∧bareN ⟨n,m,e⟩=⟨n,2 * j+1,e+(k:Int)⟩∧bl m=bl (2 * j+1)+k:=by
 obtain ⟨j,hj⟩:=lo_spec h0
 refine ⟨lo m,j,by rw [Nat.mul_comm]; exact hj,?_,?_⟩
 ·rw [bareN_pos (d:=⟨n,m,e⟩) h0]
  simp only
  rw [cutN_in (e:=e) ⟨by omega,by omega⟩]
  have:m / 2^lo m=2 * j+1:=by
   conv=>lhs; lhs; rw [hj]
   exact Nat.mul_div_cancel_left _ (Nat.two_pow_pos _)
  rw [this]
 ·conv=>lhs; rw [hj,Nat.mul_comm]
  exact bl_mul_pow (by omega) _
theorem bareN_odd {n:Bool} {j:Nat} {e:Int} (he:-200000≤e∧e≤200000):bareN ⟨n,2 * j+1,e⟩=⟨n,2 * j+1,e⟩:=by
 rw [bareN_pos (d:=⟨n,2 * j+1,e⟩) (by simp)]
 simp only
 rw [cutN_in (e:=e) ⟨by omega,by omega⟩,lo_odd,Nat.pow_zero,Nat.div_one]
 simp
theorem bareN_idem {n:Bool} {m:Nat} {e:Int} (he:-100000≤e∧e≤100000) (hb:bl m≤100000):bareN (bareN ⟨n,m,e⟩)=bareN ⟨n,m,e⟩:=by
 by_cases h0:m=0
 ·rw [bareN_zero (d:=⟨n,m,e⟩) h0]; rfl
 ·obtain ⟨k,j,-,h,hl⟩:=bareN_full (n:=n) h0 he
  rw [h,bareN_odd (by omega)]
theorem topN_bare {n:Bool} {m:Nat} {e:Int} (h0:m ≠ 0) (he:-100000≤e∧e≤100000) (hb:bl m≤100000) :
  topN (bareN ⟨n,m,e⟩)=(bl m:Int) - 1+e∧(bareN ⟨n,m,e⟩).neg=n:=by
 obtain ⟨k,j,-,h,hl⟩:=bareN_full (n:=n) h0 he
 unfold topN
 rw [h,bareN_odd (by omega),if_neg (by simp)]
 simp only
 exact ⟨by omega,trivial⟩
end Go.Proofs.YtobpioceopfkpaaGreatDoor
