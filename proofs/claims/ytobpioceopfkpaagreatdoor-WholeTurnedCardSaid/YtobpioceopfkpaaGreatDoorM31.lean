/-
  Lemmas for WholeTurned and WholeGrows and WholeRises, part 31 of 36: what the program's functions do, and plain facts; without conditions.
-/
import Derived.Test.YtobpioceopfkpaaGreatDoorM20
import Derived.Test.YtobpioceopfkpaaGreatDoorM17
import Derived.Test.YtobpioceopfkpaaGreatDoorM18
import Derived.Test.YtobpioceopfkpaaGreatDoorM19
import Derived.LoopN
import Derived.Test.YtobpioceopfkpaaGreatDoorM15
set_option maxRecDepth 100000
set_option maxHeartbeats 4000000
namespace Go.Proofs.YtobpioceopfkpaaGreatDoor
open Go.RowKit
theorem Of_over {w:World} {u:Value} {i:In} (hu:Iv w u i) (s1:Sd i.lo) (s2:Sd i.hi) (h0:CmpD i.lo i.hi≤0) (h1:0≤CmpD i.lo (ofN 710)) {sg:Int} (hs:sg ≠ 0) :
  Calls Tryz.prog 91 #[u,.int .i64 (sg)] w fun e w'=>e=.returned (.int .i64 1)∧Below w.heap.size w w':=by
 obtain ⟨lo,hi⟩:=i
 simp only at s1 s2 h0 h1
 have CR:=h_ (fun w u (h:Iv w u ⟨lo,hi⟩)=>(show Calls Tryz.prog 132 #[u] w (fun e w'=>e=.returned (.bool true)∧Below w.heap.size w w') from by have h1:=Right_r h s1 s2; rw [decide_eq_true h0] at h1; exact h1))
 have CO1:=h_ (fun w (t:Tab w)=>Of_d t 710 (by decide))
 have CO2:=h_ (fun w (t:Tab w)=>Of_d t (-746) (by decide))
 have CC1:=h_ (fun w u v (h:Cy w u lo) (k:Cy w v (ofN 710))=>Cmp_d h.ry k.ry)
 have CC2:=h_ (fun w u v (h:Cy w u hi) (k:Cy w v (ofN (-746)))=>Cmp_d h.ry k.ry)
 have CC3:=h_ (fun w u v (h:Cy w u hi) (k:Ry w v nearD)=>Cmp_d h.ry k)
 have CM:=h_ (fun w u (h:Ry w u nearD)=>Minus_s h ⟨by decide,by decide,by decide⟩)
 have CC4:=h_ (fun w u v (h:Cy w u lo) (k:Cy w v (MinusD nearD))=>Cmp_d h.ry k.ry)
 generalize CmpD lo (ofN 710)=x1 at *
 generalize CmpD hi (ofN (-746))=x2 at *
 generalize CmpD hi nearD=x3 at *
 generalize CmpD lo (MinusD nearD)=x4 at *
 generalize ofN 710=o1 at *
 generalize ofN (-746)=o2 at *
 generalize MinusD nearD=o3 at *
 obtain ⟨n,m,e⟩:=lo
 obtain ⟨n',m',e'⟩:=hi
 obtain ⟨o1n,o1m,o1e⟩:=o1
 obtain ⟨o2n,o2m,o2e⟩:=o2
 obtain ⟨o3n,o3m,o3e⟩:=o3
 obtain ⟨a1,k1,c1,a2,k2,c2,rfl,hx,hy⟩:=hu.fm
 have z1:decide (0≤x1)=true:=decide_eq_true h1
 have z0:(sg == 0)=false:=by rw [beq_eq_false_iff_ne]; exact hs
 have F0:=h_ (show Fx w (((w.alloc (.cells #[.bool n,.slice a1 k1 c1,.int .i64 e,.bool n',.slice a2 k2 c2,.int .i64 e'] 92)).alloc (.cells #[.int .u64 1] 22)).alloc (.cells #[.bool false,.slice (some ⟨w.heap.size+1,0,none⟩) 1 1,.int .i64 (-60)] 42)) [(w.heap.size,92,#[.bool n,.slice a1 k1 c1,.int .i64 e,.bool n',.slice a2 k2 c2,.int .i64 e']),(w.heap.size+1+1,42,#[.bool false,.slice (some ⟨w.heap.size+1,0,none⟩) 1 1,.int .i64 (-60)])] from by
  have:=((Fx.one w 92 #[.bool n,.slice a1 k1 c1,.int .i64 e,.bool n',.slice a2 k2 c2,.int .i64 e'] rfl).alloc (.cells #[.int .u64 1] 22)).new 42 #[.bool false,.slice (some ⟨w.heap.size+1,0,none⟩) 1 1,.int .i64 (-60)] rfl
  simpa using this)
 have X0:=h_ (((hx.alloc (.cells #[.bool n,.slice a1 k1 c1,.int .i64 e,.bool n',.slice a2 k2 c2,.int .i64 e'] 92)).alloc (.cells #[.int .u64 1] 22)).alloc (.cells #[.bool false,.slice (some ⟨w.heap.size+1,0,none⟩) 1 1,.int .i64 (-60)] 42))
 have Y0:=h_ (((hy.alloc (.cells #[.bool n,.slice a1 k1 c1,.int .i64 e,.bool n',.slice a2 k2 c2,.int .i64 e'] 92)).alloc (.cells #[.int .u64 1] 22)).alloc (.cells #[.bool false,.slice (some ⟨w.heap.size+1,0,none⟩) 1 1,.int .i64 (-60)] 42))
 have U0:=h_ (((hu.alloc (.cells #[.bool n,.slice a1 k1 c1,.int .i64 e,.bool n',.slice a2 k2 c2,.int .i64 e'] 92)).alloc (.cells #[.int .u64 1] 22)).alloc (.cells #[.bool false,.slice (some ⟨w.heap.size+1,0,none⟩) 1 1,.int .i64 (-60)] 42))
 have P0:=h_ (show Ry (((w.alloc (.cells #[.bool n,.slice a1 k1 c1,.int .i64 e,.bool n',.slice a2 k2 c2,.int .i64 e'] 92)).alloc (.cells #[.int .u64 1] 22)).alloc (.cells #[.bool false,.slice (some ⟨w.heap.size+1,0,none⟩) 1 1,.int .i64 (-60)] 42)) (.agg #[.bool false,.slice (some ⟨w.heap.size+1,0,none⟩) 1 1,.int .i64 (-60)]) nearD from by
  have:=(near_lit (hx.alloc (.cells #[.bool n,.slice a1 k1 c1,.int .i64 e,.bool n',.slice a2 k2 c2,.int .i64 e'] 92)).tab).alloc (.cells #[.bool false,.slice (some ⟨w.heap.size+1,0,none⟩) 1 1,.int .i64 (-60)] 42)
  simpa using this)
 clear hu hx hy s1 s2 h0 h1 hs
 go_enter Tryz.func91,Tryz.ntmps91
 go_upto_region 2 with (fail)
 generalize World.alloc (World.alloc (World.alloc _ _) _) _=w0 at F0 X0 Y0 U0 P0 ⊢
 have c0_0:=F0.out.c6 0 rfl
 have c1_0:=F0.out.c3 1 rfl
 go_wp2_with fail
 clear c0_0 c1_0
 refine (CR.out _ _ U0.out).mono ?_
 rintro q w1 ⟨rfl,hb⟩
 have F1:=h_ (F0.out.call hb)
 have X1:=h_ (X0.out.below hb)
 have Y1:=h_ (Y0.out.below hb)
 have U1:=h_ (U0.out.below hb)
 have P1:=h_ (P0.out.below hb)
 clear F0 X0 Y0 U0 P0
 clear hb
 have c0_1:=F1.out.c6 0 rfl
 have c1_1:=F1.out.c3 1 rfl
 clear U1
 go_upto_region 4 with (fail)
 clear c0_1 c1_1
 have FCD:=h_ (((F1.out.drew).c6 0 rfl).1)
 go_region_held3 (fun w'=>(w'.cell? ⟨w.heap.size,0,none⟩=some (.bool n)∧w'.cell? ⟨w.heap.size,1,none⟩=some (.slice a1 k1 c1)∧w'.cell? ⟨w.heap.size,2,none⟩=some (.int .i64 e)∧w'.cell? ⟨w.heap.size,3,none⟩=some (.bool n')∧w'.cell? ⟨w.heap.size,4,none⟩=some (.slice a2 k2 c2)∧w'.cell? ⟨w.heap.size,5,none⟩=some (.int .i64 e'))) (first | with_reducible exact FCD.out | with_reducible exact FC.out) (first | (go_at_call 17; (with_reducible refine (CC1.out _ _ _ X2.out A2.out).mono ?_); rintro q ww3 ⟨rfl,hb⟩; have F3:=h_ (F2.out.call hb); have X3:=h_ (X2.out.below hb); have Y3:=h_ (Y2.out.below hb); have P3:=h_ (P2.out.below hb); have A3:=h_ (A2.out.below hb); have FC:=h_ ((F3.out.c6 0 rfl).1); have c0_3:=F3.out.c6 0 rfl; have c1_3:=F3.out.c3 1 rfl; clear hb) | (go_at_call 18; (with_reducible refine (CO1.out _ (X1.out.drew).tab).mono ?_); rintro q ww2 ⟨u1,rfl,hu,hb⟩; have F2:=h_ ((F1.out.drew).call hb); have X2:=h_ ((X1.out.drew).below hb); have Y2:=h_ ((Y1.out.drew).below hb); have P2:=h_ ((P1.out.drew).below hb); have A2:=h_ (hu); obtain ⟨b1,f1,d1,rfl⟩:=A2.out.fm; have FC:=h_ ((F2.out.c6 0 rfl).1); have c0_2:=F2.out.c6 0 rfl; have c1_2:=F2.out.c3 1 rfl; clear hb))
 clear A3
 go_wp2
 go_ret
 exact ⟨rfl,F3.out.b⟩
theorem Of_under {w:World} {u:Value} {i:In} (hu:Iv w u i) (s1:Sd i.lo) (s2:Sd i.hi) (h0:CmpD i.lo i.hi≤0) (h1:CmpD i.lo (ofN 710) < 0) (h2:CmpD i.hi (ofN (-746))≤0) {sg:Int} (hs:sg ≠ 0) :
  Calls Tryz.prog 91 #[u,.int .i64 (sg)] w fun e w'=>e=.returned (.int .i64 2)∧Below w.heap.size w w':=by
 obtain ⟨lo,hi⟩:=i
 simp only at s1 s2 h0 h1 h2
 have CR:=h_ (fun w u (h:Iv w u ⟨lo,hi⟩)=>(show Calls Tryz.prog 132 #[u] w (fun e w'=>e=.returned (.bool true)∧Below w.heap.size w w') from by have h1:=Right_r h s1 s2; rw [decide_eq_true h0] at h1; exact h1))
 have CO1:=h_ (fun w (t:Tab w)=>Of_d t 710 (by decide))
 have CO2:=h_ (fun w (t:Tab w)=>Of_d t (-746) (by decide))
 have CC1:=h_ (fun w u v (h:Cy w u lo) (k:Cy w v (ofN 710))=>Cmp_d h.ry k.ry)
 have CC2:=h_ (fun w u v (h:Cy w u hi) (k:Cy w v (ofN (-746)))=>Cmp_d h.ry k.ry)
 have CC3:=h_ (fun w u v (h:Cy w u hi) (k:Ry w v nearD)=>Cmp_d h.ry k)
 have CM:=h_ (fun w u (h:Ry w u nearD)=>Minus_s h ⟨by decide,by decide,by decide⟩)
 have CC4:=h_ (fun w u v (h:Cy w u lo) (k:Cy w v (MinusD nearD))=>Cmp_d h.ry k.ry)
 generalize CmpD lo (ofN 710)=x1 at *
 generalize CmpD hi (ofN (-746))=x2 at *
 generalize CmpD hi nearD=x3 at *
 generalize CmpD lo (MinusD nearD)=x4 at *
 generalize ofN 710=o1 at *
 generalize ofN (-746)=o2 at *
 generalize MinusD nearD=o3 at *
 obtain ⟨n,m,e⟩:=lo
 obtain ⟨n',m',e'⟩:=hi
 obtain ⟨o1n,o1m,o1e⟩:=o1
 obtain ⟨o2n,o2m,o2e⟩:=o2
 obtain ⟨o3n,o3m,o3e⟩:=o3
 obtain ⟨a1,k1,c1,a2,k2,c2,rfl,hx,hy⟩:=hu.fm
 have z1:decide (0≤x1)=false:=decide_eq_false (by omega)
 have y1:¬ (0≤x1):=by omega
 have z2:decide (x2≤0)=true:=decide_eq_true h2
 have z0:(sg == 0)=false:=by rw [beq_eq_false_iff_ne]; exact hs
 have F0:=h_ (show Fx w (((w.alloc (.cells #[.bool n,.slice a1 k1 c1,.int .i64 e,.bool n',.slice a2 k2 c2,.int .i64 e'] 92)).alloc (.cells #[.int .u64 1] 22)).alloc (.cells #[.bool false,.slice (some ⟨w.heap.size+1,0,none⟩) 1 1,.int .i64 (-60)] 42)) [(w.heap.size,92,#[.bool n,.slice a1 k1 c1,.int .i64 e,.bool n',.slice a2 k2 c2,.int .i64 e']),(w.heap.size+1+1,42,#[.bool false,.slice (some ⟨w.heap.size+1,0,none⟩) 1 1,.int .i64 (-60)])] from by
  have:=((Fx.one w 92 #[.bool n,.slice a1 k1 c1,.int .i64 e,.bool n',.slice a2 k2 c2,.int .i64 e'] rfl).alloc (.cells #[.int .u64 1] 22)).new 42 #[.bool false,.slice (some ⟨w.heap.size+1,0,none⟩) 1 1,.int .i64 (-60)] rfl
  simpa using this)
 have X0:=h_ (((hx.alloc (.cells #[.bool n,.slice a1 k1 c1,.int .i64 e,.bool n',.slice a2 k2 c2,.int .i64 e'] 92)).alloc (.cells #[.int .u64 1] 22)).alloc (.cells #[.bool false,.slice (some ⟨w.heap.size+1,0,none⟩) 1 1,.int .i64 (-60)] 42))
 have Y0:=h_ (((hy.alloc (.cells #[.bool n,.slice a1 k1 c1,.int .i64 e,.bool n',.slice a2 k2 c2,.int .i64 e'] 92)).alloc (.cells #[.int .u64 1] 22)).alloc (.cells #[.bool false,.slice (some ⟨w.heap.size+1,0,none⟩) 1 1,.int .i64 (-60)] 42))
 have U0:=h_ (((hu.alloc (.cells #[.bool n,.slice a1 k1 c1,.int .i64 e,.bool n',.slice a2 k2 c2,.int .i64 e'] 92)).alloc (.cells #[.int .u64 1] 22)).alloc (.cells #[.bool false,.slice (some ⟨w.heap.size+1,0,none⟩) 1 1,.int .i64 (-60)] 42))
 have P0:=h_ (show Ry (((w.alloc (.cells #[.bool n,.slice a1 k1 c1,.int .i64 e,.bool n',.slice a2 k2 c2,.int .i64 e'] 92)).alloc (.cells #[.int .u64 1] 22)).alloc (.cells #[.bool false,.slice (some ⟨w.heap.size+1,0,none⟩) 1 1,.int .i64 (-60)] 42)) (.agg #[.bool false,.slice (some ⟨w.heap.size+1,0,none⟩) 1 1,.int .i64 (-60)]) nearD from by
  have:=(near_lit (hx.alloc (.cells #[.bool n,.slice a1 k1 c1,.int .i64 e,.bool n',.slice a2 k2 c2,.int .i64 e'] 92)).tab).alloc (.cells #[.bool false,.slice (some ⟨w.heap.size+1,0,none⟩) 1 1,.int .i64 (-60)] 42)
  simpa using this)
 clear hu hx hy s1 s2 h0 h1 h2 hs
 go_enter Tryz.func91,Tryz.ntmps91
 go_upto_region 2 with (fail)
 generalize World.alloc (World.alloc (World.alloc _ _) _) _=w0 at F0 X0 Y0 U0 P0 ⊢
 have c0_0:=F0.out.c6 0 rfl
 have c1_0:=F0.out.c3 1 rfl
 go_wp2_with fail
 clear c0_0 c1_0
 refine (CR.out _ _ U0.out).mono ?_
 rintro q w1 ⟨rfl,hb⟩
 have F1:=h_ (F0.out.call hb)
 have X1:=h_ (X0.out.below hb)
 have Y1:=h_ (Y0.out.below hb)
 have U1:=h_ (U0.out.below hb)
 have P1:=h_ (P0.out.below hb)
 clear F0 X0 Y0 U0 P0
 clear hb
 have c0_1:=F1.out.c6 0 rfl
 have c1_1:=F1.out.c3 1 rfl
 clear U1
 go_upto_region 4 with (fail)
 clear c0_1 c1_1
 have FCD:=h_ (((F1.out.drew).c6 0 rfl).1)
 go_region_held3 (fun w'=>(w'.cell? ⟨w.heap.size,0,none⟩=some (.bool n)∧w'.cell? ⟨w.heap.size,1,none⟩=some (.slice a1 k1 c1)∧w'.cell? ⟨w.heap.size,2,none⟩=some (.int .i64 e)∧w'.cell? ⟨w.heap.size,3,none⟩=some (.bool n')∧w'.cell? ⟨w.heap.size,4,none⟩=some (.slice a2 k2 c2)∧w'.cell? ⟨w.heap.size,5,none⟩=some (.int .i64 e'))) (first | with_reducible exact FCD.out | with_reducible exact FC.out) (first | (go_at_call 17; (with_reducible refine (CC1.out _ _ _ X2.out A2.out).mono ?_); rintro q ww3 ⟨rfl,hb⟩; have F3:=h_ (F2.out.call hb); have X3:=h_ (X2.out.below hb); have Y3:=h_ (Y2.out.below hb); have P3:=h_ (P2.out.below hb); have A3:=h_ (A2.out.below hb); have FC:=h_ ((F3.out.c6 0 rfl).1); have c0_3:=F3.out.c6 0 rfl; have c1_3:=F3.out.c3 1 rfl; clear hb) | (go_at_call 18; (with_reducible refine (CO1.out _ (X1.out.drew).tab).mono ?_); rintro q ww2 ⟨u1,rfl,hu,hb⟩; have F2:=h_ ((F1.out.drew).call hb); have X2:=h_ ((X1.out.drew).below hb); have Y2:=h_ ((Y1.out.drew).below hb); have P2:=h_ ((P1.out.drew).below hb); have A2:=h_ (hu); obtain ⟨b1,f1,d1,rfl⟩:=A2.out.fm; have FC:=h_ ((F2.out.c6 0 rfl).1); have c0_2:=F2.out.c6 0 rfl; have c1_2:=F2.out.c3 1 rfl; clear hb))
 clear A3
 go_upto_region 6 with (fail)
 clear c0_3 c1_3
 have FCD:=h_ (((F3.out.drew).c6 0 rfl).1)
 go_region_held3 (fun w'=>(w'.cell? ⟨w.heap.size,0,none⟩=some (.bool n)∧w'.cell? ⟨w.heap.size,1,none⟩=some (.slice a1 k1 c1)∧w'.cell? ⟨w.heap.size,2,none⟩=some (.int .i64 e)∧w'.cell? ⟨w.heap.size,3,none⟩=some (.bool n')∧w'.cell? ⟨w.heap.size,4,none⟩=some (.slice a2 k2 c2)∧w'.cell? ⟨w.heap.size,5,none⟩=some (.int .i64 e'))) (first | with_reducible exact FCD.out | with_reducible exact FC.out) (first | (go_at_call 17; (with_reducible refine (CC2.out _ _ _ Y4.out A4.out).mono ?_); rintro q ww5 ⟨rfl,hb⟩; have F5:=h_ (F4.out.call hb); have X5:=h_ (X4.out.below hb); have Y5:=h_ (Y4.out.below hb); have P5:=h_ (P4.out.below hb); have A5:=h_ (A4.out.below hb); have FC:=h_ ((F5.out.c6 0 rfl).1); have c0_5:=F5.out.c6 0 rfl; have c1_5:=F5.out.c3 1 rfl; clear hb) | (go_at_call 18; (with_reducible refine (CO2.out _ (X3.out.drew).tab).mono ?_); rintro q ww4 ⟨u2,rfl,hu,hb⟩; have F4:=h_ ((F3.out.drew).call hb); have X4:=h_ ((X3.out.drew).below hb); have Y4:=h_ ((Y3.out.drew).below hb); have P4:=h_ ((P3.out.drew).below hb); have A4:=h_ (hu); obtain ⟨b2,f2,d2,rfl⟩:=A4.out.fm; have FC:=h_ ((F4.out.c6 0 rfl).1); have c0_4:=F4.out.c6 0 rfl; have c1_4:=F4.out.c3 1 rfl; clear hb))
 clear A5
 have c0_5:=F5.out.c6 0 rfl
 have c1_5:=F5.out.c3 1 rfl
 go_wp2
 go_ret
 exact ⟨rfl,F5.out.b⟩
theorem Of_openN {w:World} {u:Value} {i:In} (hu:Iv w u i) (s1:Sd i.lo) (s2:Sd i.hi) (h0:CmpD i.lo i.hi≤0) (h1:CmpD i.lo (ofN 710) < 0) (h2:0 < CmpD i.hi (ofN (-746))) (h3:CmpD i.lo (MinusD nearD)≤0) :
  Calls Tryz.prog 91 #[u,.int .i64 (-1)] w fun e w'=>e=.returned (.int .i64 0)∧Below w.heap.size w w':=by
 obtain ⟨lo,hi⟩:=i
 simp only at s1 s2 h0 h1 h2 h3
 have CR:=h_ (fun w u (h:Iv w u ⟨lo,hi⟩)=>(show Calls Tryz.prog 132 #[u] w (fun e w'=>e=.returned (.bool true)∧Below w.heap.size w w') from by have h1:=Right_r h s1 s2; rw [decide_eq_true h0] at h1; exact h1))
 have CO1:=h_ (fun w (t:Tab w)=>Of_d t 710 (by decide))
 have CO2:=h_ (fun w (t:Tab w)=>Of_d t (-746) (by decide))
 have CC1:=h_ (fun w u v (h:Cy w u lo) (k:Cy w v (ofN 710))=>Cmp_d h.ry k.ry)
 have CC2:=h_ (fun w u v (h:Cy w u hi) (k:Cy w v (ofN (-746)))=>Cmp_d h.ry k.ry)
 have CC3:=h_ (fun w u v (h:Cy w u hi) (k:Ry w v nearD)=>Cmp_d h.ry k)
 have CM:=h_ (fun w u (h:Ry w u nearD)=>Minus_s h ⟨by decide,by decide,by decide⟩)
 have CC4:=h_ (fun w u v (h:Cy w u lo) (k:Cy w v (MinusD nearD))=>Cmp_d h.ry k.ry)
 generalize CmpD lo (ofN 710)=x1 at *
 generalize CmpD hi (ofN (-746))=x2 at *
 generalize CmpD hi nearD=x3 at *
 generalize CmpD lo (MinusD nearD)=x4 at *
 generalize ofN 710=o1 at *
 generalize ofN (-746)=o2 at *
 generalize MinusD nearD=o3 at *
 obtain ⟨n,m,e⟩:=lo
 obtain ⟨n',m',e'⟩:=hi
 obtain ⟨o1n,o1m,o1e⟩:=o1
 obtain ⟨o2n,o2m,o2e⟩:=o2
 obtain ⟨o3n,o3m,o3e⟩:=o3
 obtain ⟨a1,k1,c1,a2,k2,c2,rfl,hx,hy⟩:=hu.fm
 have z1:decide (0≤x1)=false:=decide_eq_false (by omega)
 have y1:¬ (0≤x1):=by omega
 have z2:decide (x2≤0)=false:=decide_eq_false (by omega)
 have y2:¬ (x2≤0):=by omega
 have z3:decide (0 < x4)=false:=decide_eq_false (by omega)
 have y3:¬ (0 < x4):=by omega
 have F0:=h_ (show Fx w (((w.alloc (.cells #[.bool n,.slice a1 k1 c1,.int .i64 e,.bool n',.slice a2 k2 c2,.int .i64 e'] 92)).alloc (.cells #[.int .u64 1] 22)).alloc (.cells #[.bool false,.slice (some ⟨w.heap.size+1,0,none⟩) 1 1,.int .i64 (-60)] 42)) [(w.heap.size,92,#[.bool n,.slice a1 k1 c1,.int .i64 e,.bool n',.slice a2 k2 c2,.int .i64 e']),(w.heap.size+1+1,42,#[.bool false,.slice (some ⟨w.heap.size+1,0,none⟩) 1 1,.int .i64 (-60)])] from by
  have:=((Fx.one w 92 #[.bool n,.slice a1 k1 c1,.int .i64 e,.bool n',.slice a2 k2 c2,.int .i64 e'] rfl).alloc (.cells #[.int .u64 1] 22)).new 42 #[.bool false,.slice (some ⟨w.heap.size+1,0,none⟩) 1 1,.int .i64 (-60)] rfl
  simpa using this)
 have X0:=h_ (((hx.alloc (.cells #[.bool n,.slice a1 k1 c1,.int .i64 e,.bool n',.slice a2 k2 c2,.int .i64 e'] 92)).alloc (.cells #[.int .u64 1] 22)).alloc (.cells #[.bool false,.slice (some ⟨w.heap.size+1,0,none⟩) 1 1,.int .i64 (-60)] 42))
 have Y0:=h_ (((hy.alloc (.cells #[.bool n,.slice a1 k1 c1,.int .i64 e,.bool n',.slice a2 k2 c2,.int .i64 e'] 92)).alloc (.cells #[.int .u64 1] 22)).alloc (.cells #[.bool false,.slice (some ⟨w.heap.size+1,0,none⟩) 1 1,.int .i64 (-60)] 42))
 have U0:=h_ (((hu.alloc (.cells #[.bool n,.slice a1 k1 c1,.int .i64 e,.bool n',.slice a2 k2 c2,.int .i64 e'] 92)).alloc (.cells #[.int .u64 1] 22)).alloc (.cells #[.bool false,.slice (some ⟨w.heap.size+1,0,none⟩) 1 1,.int .i64 (-60)] 42))
 have P0:=h_ (show Ry (((w.alloc (.cells #[.bool n,.slice a1 k1 c1,.int .i64 e,.bool n',.slice a2 k2 c2,.int .i64 e'] 92)).alloc (.cells #[.int .u64 1] 22)).alloc (.cells #[.bool false,.slice (some ⟨w.heap.size+1,0,none⟩) 1 1,.int .i64 (-60)] 42)) (.agg #[.bool false,.slice (some ⟨w.heap.size+1,0,none⟩) 1 1,.int .i64 (-60)]) nearD from by
  have:=(near_lit (hx.alloc (.cells #[.bool n,.slice a1 k1 c1,.int .i64 e,.bool n',.slice a2 k2 c2,.int .i64 e'] 92)).tab).alloc (.cells #[.bool false,.slice (some ⟨w.heap.size+1,0,none⟩) 1 1,.int .i64 (-60)] 42)
  simpa using this)
 clear hu hx hy s1 s2 h0 h1 h2 h3
 go_enter Tryz.func91,Tryz.ntmps91
 go_upto_region 2 with (fail)
 generalize World.alloc (World.alloc (World.alloc _ _) _) _=w0 at F0 X0 Y0 U0 P0 ⊢
 have c0_0:=F0.out.c6 0 rfl
 have c1_0:=F0.out.c3 1 rfl
 go_wp2_with fail
 clear c0_0 c1_0
 refine (CR.out _ _ U0.out).mono ?_
 rintro q w1 ⟨rfl,hb⟩
 have F1:=h_ (F0.out.call hb)
 have X1:=h_ (X0.out.below hb)
 have Y1:=h_ (Y0.out.below hb)
 have U1:=h_ (U0.out.below hb)
 have P1:=h_ (P0.out.below hb)
 clear F0 X0 Y0 U0 P0
 clear hb
 have c0_1:=F1.out.c6 0 rfl
 have c1_1:=F1.out.c3 1 rfl
 clear U1
 go_upto_region 4 with (fail)
 clear c0_1 c1_1
 have FCD:=h_ (((F1.out.drew).c6 0 rfl).1)
 go_region_held3 (fun w'=>(w'.cell? ⟨w.heap.size,0,none⟩=some (.bool n)∧w'.cell? ⟨w.heap.size,1,none⟩=some (.slice a1 k1 c1)∧w'.cell? ⟨w.heap.size,2,none⟩=some (.int .i64 e)∧w'.cell? ⟨w.heap.size,3,none⟩=some (.bool n')∧w'.cell? ⟨w.heap.size,4,none⟩=some (.slice a2 k2 c2)∧w'.cell? ⟨w.heap.size,5,none⟩=some (.int .i64 e'))) (first | with_reducible exact FCD.out | with_reducible exact FC.out) (first | (go_at_call 17; (with_reducible refine (CC1.out _ _ _ X2.out A2.out).mono ?_); rintro q ww3 ⟨rfl,hb⟩; have F3:=h_ (F2.out.call hb); have X3:=h_ (X2.out.below hb); have Y3:=h_ (Y2.out.below hb); have P3:=h_ (P2.out.below hb); have A3:=h_ (A2.out.below hb); have FC:=h_ ((F3.out.c6 0 rfl).1); have c0_3:=F3.out.c6 0 rfl; have c1_3:=F3.out.c3 1 rfl; clear hb) | (go_at_call 18; (with_reducible refine (CO1.out _ (X1.out.drew).tab).mono ?_); rintro q ww2 ⟨u1,rfl,hu,hb⟩; have F2:=h_ ((F1.out.drew).call hb); have X2:=h_ ((X1.out.drew).below hb); have Y2:=h_ ((Y1.out.drew).below hb); have P2:=h_ ((P1.out.drew).below hb); have A2:=h_ (hu); obtain ⟨b1,f1,d1,rfl⟩:=A2.out.fm; have FC:=h_ ((F2.out.c6 0 rfl).1); have c0_2:=F2.out.c6 0 rfl; have c1_2:=F2.out.c3 1 rfl; clear hb))
 clear A3
 go_upto_region 6 with (fail)
 clear c0_3 c1_3
 have FCD:=h_ (((F3.out.drew).c6 0 rfl).1)
 go_region_held3 (fun w'=>(w'.cell? ⟨w.heap.size,0,none⟩=some (.bool n)∧w'.cell? ⟨w.heap.size,1,none⟩=some (.slice a1 k1 c1)∧w'.cell? ⟨w.heap.size,2,none⟩=some (.int .i64 e)∧w'.cell? ⟨w.heap.size,3,none⟩=some (.bool n')∧w'.cell? ⟨w.heap.size,4,none⟩=some (.slice a2 k2 c2)∧w'.cell? ⟨w.heap.size,5,none⟩=some (.int .i64 e'))) (first | with_reducible exact FCD.out | with_reducible exact FC.out) (first | (go_at_call 17; (with_reducible refine (CC2.out _ _ _ Y4.out A4.out).mono ?_); rintro q ww5 ⟨rfl,hb⟩; have F5:=h_ (F4.out.call hb); have X5:=h_ (X4.out.below hb); have Y5:=h_ (Y4.out.below hb); have P5:=h_ (P4.out.below hb); have A5:=h_ (A4.out.below hb); have FC:=h_ ((F5.out.c6 0 rfl).1); have c0_5:=F5.out.c6 0 rfl; have c1_5:=F5.out.c3 1 rfl; clear hb) | (go_at_call 18; (with_reducible refine (CO2.out _ (X3.out.drew).tab).mono ?_); rintro q ww4 ⟨u2,rfl,hu,hb⟩; have F4:=h_ ((F3.out.drew).call hb); have X4:=h_ ((X3.out.drew).below hb); have Y4:=h_ ((Y3.out.drew).below hb); have P4:=h_ ((P3.out.drew).below hb); have A4:=h_ (hu); obtain ⟨b2,f2,d2,rfl⟩:=A4.out.fm; have FC:=h_ ((F4.out.c6 0 rfl).1); have c0_4:=F4.out.c6 0 rfl; have c1_4:=F4.out.c3 1 rfl; clear hb))
 clear A5
 have c0_5:=F5.out.c6 0 rfl
 have c1_5:=F5.out.c3 1 rfl
 go_upto_region 10 with (fail)
 clear c0_5 c1_5
 have FCD:=h_ (And.intro ((F5.out.drew).c6 0 rfl).1 (((F5.out.drew).c3 1 rfl).1))
 go_region_held3 (fun w'=>(w'.cell? ⟨w.heap.size,0,none⟩=some (.bool n)∧w'.cell? ⟨w.heap.size,1,none⟩=some (.slice a1 k1 c1)∧w'.cell? ⟨w.heap.size,2,none⟩=some (.int .i64 e)∧w'.cell? ⟨w.heap.size,3,none⟩=some (.bool n')∧w'.cell? ⟨w.heap.size,4,none⟩=some (.slice a2 k2 c2)∧w'.cell? ⟨w.heap.size,5,none⟩=some (.int .i64 e'))∧(w'.cell? ⟨w.heap.size+1+1,0,none⟩=some (.bool false)∧w'.cell? ⟨w.heap.size+1+1,1,none⟩=some (.slice (some ⟨w.heap.size+1,0,none⟩) 1 1)∧w'.cell? ⟨w.heap.size+1+1,2,none⟩=some (.int .i64 (-60)))) (first | with_reducible exact FCD.out | with_reducible exact FC.out) (first | (go_at_call 17; (with_reducible refine (CC4.out _ _ _ X6.out A6.out).mono ?_); rintro q ww7 ⟨rfl,hb⟩; have F7:=h_ (F6.out.call hb); have X7:=h_ (X6.out.below hb); have Y7:=h_ (Y6.out.below hb); have P7:=h_ (P6.out.below hb); have A7:=h_ (A6.out.below hb); have FC:=h_ (And.intro (F7.out.c6 0 rfl).1 ((F7.out.c3 1 rfl).1)); have c0_7:=F7.out.c6 0 rfl; have c1_7:=F7.out.c3 1 rfl; clear hb) | (go_at_call 39; (with_reducible refine (CM.out _ _ (P5.out.drew)).mono ?_); rintro q ww6 ⟨u3,rfl,hu,hb⟩; have F6:=h_ ((F5.out.drew).call hb); have X6:=h_ ((X5.out.drew).below hb); have Y6:=h_ ((Y5.out.drew).below hb); have P6:=h_ ((P5.out.drew).below hb); have A6:=h_ (hu); obtain ⟨b3,f3,d3,rfl⟩:=A6.out.fm; have FC:=h_ (And.intro (F6.out.c6 0 rfl).1 ((F6.out.c3 1 rfl).1)); have c0_6:=F6.out.c6 0 rfl; have c1_6:=F6.out.c3 1 rfl; clear hb))
 go_wp2
 go_ret
 exact ⟨rfl,F7.out.b⟩
theorem Result_over {w:World} (z:Int) (hz:0≤z∧z≤3):Calls Tryz.prog 92 #[.int .i64 1,.bool false,.int .i64 z] w fun e w'=>e=.returned (.tuple #[.int .u64 (overB z:Nat),.int .u8 5,.bool true])∧Below w.heap.size w w':=by
 have HF:=h_ (show Fx w ((w.alloc (.cells #[.int .u64 1] 22)).alloc (.cells #[.bool false,.slice (some ⟨w.heap.size,0,none⟩) 1 1,.int .i64 0] 42)) [(w.heap.size+1,42,#[.bool false,.slice (some ⟨w.heap.size,0,none⟩) 1 1,.int .i64 0])] from by
  have:=((Fx.nil w).alloc (.cells #[.int .u64 1] 22)).new 42 #[.bool false,.slice (some ⟨w.heap.size,0,none⟩) 1 1,.int .i64 0] rfl
  simpa using this)
 have CO:=h_ (fun w=>Over_r z hz w)
 generalize overB z=b at *
 have t1:decide (z < 0)=false:=decide_eq_false (by omega)
 have t2:decide (3 < z)=false:=decide_eq_false (by omega)
 have t3:¬ z < 0:=by omega
 have t4:¬ 3 < z:=by omega
 clear hz
 go_enter Tryz.func92,Tryz.ntmps92
 go_wp2_with fail
 refine (CO.out _).mono ?_
 rintro q w1 ⟨rfl,rfl⟩
 go_wp2
 refine bodyPost_ret (v:=.tuple #[.int .u64 (b:Int),.int .u8 5,.bool true]) (by simp [results,Tryz.results92,go_sem]) rfl ?_
 exact ⟨rfl,HF.out.b⟩
theorem Result_under {w:World} (z:Int) (hz:0≤z∧z≤3):Calls Tryz.prog 92 #[.int .i64 2,.bool false,.int .i64 z] w fun e w'=>e=.returned (.tuple #[.int .u64 (underB z:Nat),.int .u8 3,.bool true])∧Below w.heap.size w w':=by
 have HF:=h_ (show Fx w ((w.alloc (.cells #[.int .u64 1] 22)).alloc (.cells #[.bool false,.slice (some ⟨w.heap.size,0,none⟩) 1 1,.int .i64 0] 42)) [(w.heap.size+1,42,#[.bool false,.slice (some ⟨w.heap.size,0,none⟩) 1 1,.int .i64 0])] from by
  have:=((Fx.nil w).alloc (.cells #[.int .u64 1] 22)).new 42 #[.bool false,.slice (some ⟨w.heap.size,0,none⟩) 1 1,.int .i64 0] rfl
  simpa using this)
 have CO:=h_ (fun w=>Under_r z hz w)
 generalize underB z=b at *
 have t1:decide (z < 0)=false:=decide_eq_false (by omega)
 have t2:decide (3 < z)=false:=decide_eq_false (by omega)
 have t3:¬ z < 0:=by omega
 have t4:¬ 3 < z:=by omega
 clear hz
 go_enter Tryz.func92,Tryz.ntmps92
 go_wp2_with fail
 refine (CO.out _).mono ?_
 rintro q w1 ⟨rfl,rfl⟩
 go_wp2
 refine bodyPost_ret (v:=.tuple #[.int .u64 (b:Int),.int .u8 3,.bool true]) (by simp [results,Tryz.results92,go_sem]) rfl ?_
 exact ⟨rfl,HF.out.b⟩
theorem Plan_512 (w:World):Calls Tryz.prog 41 #[.int .i64 64,.int .i64 512] w fun e w'=>∃ v,e=.returned (.tuple #[v,.int .i64 0])∧w'.ownsRow w.heap.size 3 1 v 4 [.int .i64 64,.int .i64 128,.int .i64 256,.int .i64 512]∧Below w.heap.size w w':=by
 have i3:(Tryz.prog.info? 3).map (fun i=>(i.zero,i.size,i.bytes))=some (some (.int .i64 0),1,8):=by kernel_rfl
 go_enter Tryz.func41,Tryz.ntmps41
 go_wp2
 refine wp_loop_rounds 4 ?_
 have ho0:Hid (w.ownsRow w.heap.size 3 1 (.slice none 0 0) 0 []):=World.ownsRow_nil _ _ _ _
 have hb0:Hid (Below w.heap.size w w):=Below.refl _ _
 rw [rounds_succ]
 go_wp2_with (at_builtin; refine wpList_app1 rfl (.tmp 29) (.tmp 31) 87 rfl w.heap.size 3 (.int .i64 0) 8 Tryz.underlying87 i3 rfl (by decide) _ 0 _ rfl _ 1 rfl rfl ho0.out hb0.out hb0.out.size (by decide) ?_)
 intro v1 w1 h1 h2 h3
 have ho1:Hid (w1.ownsRow w.heap.size 3 1 v1 1 [.int .i64 64]):=h1
 have hb1:=h_ h2
 clear h1 h2 h3 ho0 hb0
 go_wp2
 rw [rounds_succ]
 go_wp2_with (at_builtin; refine wpList_app1 rfl (.tmp 29) (.tmp 31) 87 rfl w.heap.size 3 (.int .i64 0) 8 Tryz.underlying87 i3 rfl (by decide) _ 1 _ rfl _ 1 rfl rfl ho1.out hb1.out hb1.out.size (by decide) ?_)
 intro v2 w2 h1 h2 h3
 have ho2:Hid (w2.ownsRow w.heap.size 3 1 v2 2 [.int .i64 64,.int .i64 128]):=h1
 have hb2:=h_ h2
 clear h1 h2 h3 ho1 hb1
 go_wp2
 rw [rounds_succ]
 go_wp2_with (at_builtin; refine wpList_app1 rfl (.tmp 29) (.tmp 31) 87 rfl w.heap.size 3 (.int .i64 0) 8 Tryz.underlying87 i3 rfl (by decide) _ 2 _ rfl _ 1 rfl rfl ho2.out hb2.out hb2.out.size (by decide) ?_)
 intro v3 w3 h1 h2 h3
 have ho3:Hid (w3.ownsRow w.heap.size 3 1 v3 3 [.int .i64 64,.int .i64 128,.int .i64 256]):=h1
 have hb3:=h_ h2
 clear h1 h2 h3 ho2 hb2
 go_wp2
 rw [rounds_succ]
 go_wp2_with (at_builtin; refine wpList_app1 rfl (.tmp 33) (.tmp 35) 87 rfl w.heap.size 3 (.int .i64 0) 8 Tryz.underlying87 i3 rfl (by decide) _ 3 _ rfl _ 1 rfl rfl ho3.out hb3.out hb3.out.size (by decide) ?_)
 intro v4 w4 h1 h2 h3
 have ho4:Hid (w4.ownsRow w.heap.size 3 1 v4 4 [.int .i64 64,.int .i64 128,.int .i64 256,.int .i64 512]):=h1
 have hb4:=h_ h2
 clear h1 h2 h3 ho3 hb3
 go_wp2
 refine bodyPost_ret (v:=.tuple #[v4,.int .i64 0]) (by simp [results,Tryz.results41,go_sem]) rfl ?_
 exact ⟨_,rfl,ho4.out,hb4.out⟩
def Ag (w:World) (v:Value) (x y:Dn) (N:Nat) (z tt:Int):Prop:=∃ a k c a' k' c',v=.agg #[.bool x.neg,.slice a k c,.int .i64 x.e,.bool y.neg,.slice a' k' c',.int .i64 y.e,.int .u64 (N:Int),.bool false,.int .i64 z,.int .i64 64,.int .i64 tt] ∧
 Cy w (.agg #[.bool x.neg,.slice a k c,.int .i64 x.e]) x∧Cy w (.agg #[.bool y.neg,.slice a' k' c',.int .i64 y.e]) y
structure AgOk (x y:Dn) (N:Nat) (z tt:Int):Prop where
 sx:Sd x
 sy:Sd y
 xn:x.neg=false
 x0:x.m ≠ 0
 bx:bl (bareN x).m≤60
 tx:-1100≤topN (bareN x)∧topN (bareN x)≤1100
 by':bl (bareN y).m≤60
 ty:-1100≤topN (bareN y)∧topN (bareN y)≤1100
 hz:0≤z∧z≤3
 htt:tt=64 ∨ tt=512 ∨ tt=1024
 hN:1≤N∧N≤12
 xb:bareN x=x
 yb:bareN y=y
theorem Ag.below {w w':World} {v:Value} {x y:Dn} {N:Nat} {z tt:Int} (h:Ag w v x y N z tt) (hb:Below w.heap.size w w'):Ag w' v x y N z tt:=by
 obtain ⟨a,k,c,a',k',c',h1,h2,h3⟩:=h; exact ⟨a,k,c,a',k',c',h1,h2.below hb,h3.below hb⟩
theorem Ag.alloc {w:World} {v:Value} {x y:Dn} {N:Nat} {z tt:Int} (h:Ag w v x y N z tt) (o:Obj):Ag (w.alloc o) v x y N z tt:=by
 obtain ⟨a,k,c,a',k',c',h1,h2,h3⟩:=h; exact ⟨a,k,c,a',k',c',h1,h2.alloc o,h3.alloc o⟩
theorem Ag.drew {w:World} {v:Value} {x y:Dn} {N:Nat} {z tt:Int} (h:Ag w v x y N z tt):Ag w.drew v x y N z tt:=by
 obtain ⟨a,k,c,a',k',c',h1,h2,h3⟩:=h; exact ⟨a,k,c,a',k',c',h1,h2.drew,h3.drew⟩
theorem Plan_any3 (w:World) (tt:Int) (h:tt=64 ∨ tt=512 ∨ tt=1024):Calls Tryz.prog 41 #[.int .i64 64,.int .i64 tt] w fun e w'=>∃ v,e=.returned (.tuple #[v,.int .i64 0])∧Below w.heap.size w w':=by
 rcases h with rfl | rfl | rfl
 ·exact (Plan_64 w).mono fun e w' ⟨v,h1,_,h2⟩=>⟨v,h1,h2⟩
 ·exact (Plan_512 w).mono fun e w' ⟨v,h1,_,h2⟩=>⟨v,h1,h2⟩
 ·exact (Plan_1024 w).mono fun e w' ⟨v,h1,_,h2⟩=>⟨v,h1,h2⟩
theorem Right_ag {w:World} {u:Value} {x y:Dn} {N:Nat} {z tt:Int} (hu:Ag w u x y N z tt) (ok:AgOk x y N z tt):Calls Tryz.prog 37 #[u] w fun e w'=>e=.returned (.bool true)∧Below w.heap.size w w':=by
 obtain ⟨sx,sy,xn0,x0,bx,tx,by',ty,hz,htt,hN,-,-⟩:=ok
 have CP:=h_ (fun w=>Plan_any3 w tt htt)
 have C1:=h_ (fun w u (h:Cy w u x)=>short_r h.ry sx 4000 1048576 (by omega) (by omega) (by decide))
 have C2:=h_ (fun w u (h:Cy w u y)=>short_r h.ry sy 64 1100 (by omega) (by omega) (by decide))
 have CS:=h_ (fun w u (h:Cy w u x)=>Sign_d h.ry)
 have hs:signN x=1:=by unfold signN; rw [if_neg x0,xn0]; rfl
 rw [hs] at CS
 obtain ⟨a1,k1,c1,a2,k2,c2,rfl,hx,hy⟩:=hu
 obtain ⟨xn,xm,xe⟩:=x
 obtain ⟨yn,ym,ye⟩:=y
 simp only at hx hy
 have HX:=h_ hx
 have HY:=h_ hy
 have z1:decide ((0:Int)≤z)=true:=decide_eq_true hz.1
 have z2:decide (z≤(3:Int))=true:=decide_eq_true hz.2
 have z3:decide (0 < (N:Int))=true:=decide_eq_true (by omega)
 have z4:decide (0 < N)=true:=decide_eq_true (by omega)
 clear sx sy xn0 x0 bx tx by' ty hz htt hs hx hy hN
 go_enter Tryz.func37,Tryz.ntmps37
 have F0:=h_ (Fz.one w 58 #[.bool xn,.slice a1 k1 c1,.int .i64 xe,.bool yn,.slice a2 k2 c2,.int .i64 ye,.int .u64 (N:Int),.bool false,.int .i64 z,.int .i64 64,.int .i64 tt])
 have X0:=h_ (HX.out.alloc (.cells #[.bool xn,.slice a1 k1 c1,.int .i64 xe,.bool yn,.slice a2 k2 c2,.int .i64 ye,.int .u64 (N:Int),.bool false,.int .i64 z,.int .i64 64,.int .i64 tt] 58))
 have Y0:=h_ (HY.out.alloc (.cells #[.bool xn,.slice a1 k1 c1,.int .i64 xe,.bool yn,.slice a2 k2 c2,.int .i64 ye,.int .u64 (N:Int),.bool false,.int .i64 z,.int .i64 64,.int .i64 tt] 58))
 clear HX HY
 go_upto_region 1 with (fail)
 generalize World.alloc _ _=w0 at F0 X0 Y0 ⊢
 have c0_0:=F0.out.c11 0 rfl
 go_wp2_with fail
 clear c0_0
 refine (CP.out _).mono ?_
 rintro q w1 ⟨u,rfl,hb⟩
 have F1:=h_ (F0.out.call hb)
 have X1:=h_ (X0.out.below hb)
 have Y1:=h_ (Y0.out.below hb)
 clear F0 X0 Y0
 clear hb
 have c0_1:=F1.out.c11 0 rfl
 go_wp2_with fail
 clear c0_1
 refine (C1.out _ _ X1.out).mono ?_
 rintro q w2 ⟨rfl,hb⟩
 have F2:=h_ (F1.out.call hb)
 have X2:=h_ (X1.out.below hb)
 have Y2:=h_ (Y1.out.below hb)
 clear F1 X1 Y1
 clear hb
 have c0_2:=F2.out.c11 0 rfl
 go_wp2_with fail
 clear c0_2
 refine (CS.out _ _ X2.out).mono ?_
 rintro q w3 ⟨rfl,hb⟩
 have F3:=h_ (F2.out.call hb)
 have X3:=h_ (X2.out.below hb)
 have Y3:=h_ (Y2.out.below hb)
 clear F2 X2 Y2
 clear hb
 have c0_3:=F3.out.c11 0 rfl
 go_wp2_with fail
 clear c0_3
 refine (C2.out _ _ Y3.out).mono ?_
 rintro q w4 ⟨rfl,hb⟩
 have F4:=h_ (F3.out.call hb)
 have X4:=h_ (X3.out.below hb)
 have Y4:=h_ (Y3.out.below hb)
 clear F3 X3 Y3
 clear hb
 have c0_4:=F4.out.c11 0 rfl
 go_wp2
 go_ret
 exact ⟨rfl,F4.out.b⟩
theorem Sign_ag {w:World} {u:Value} {x y:Dn} {N:Nat} {z tt:Int} (hu:Ag w u x y N z tt) (ok:AgOk x y N z tt):Calls Tryz.prog 42 #[u] w fun e w'=>e=.returned (.int .i64 (signA x y))∧Below w.heap.size w w':=by
 have CR:=h_ (fun w u (h:Ag w u x y N z tt)=>Right_ag h ok)
 have C1:=h_ (fun w u (h:Cy w u y)=>Sign_d h.ry)
 have C2:=h_ (fun w (t:Tab w)=>Of_d t 1 (by decide))
 have C3:=h_ (fun w u v (h:Cy w u x) (k:Cy w v (ofN 1))=>Cmp_d h.ry k.ry)
 have HS:signA x y=signN y * CmpD x (ofN 1):=rfl
 rw [HS]
 have b1:=signN_le y
 have b2:=CmpD_le x (ofN 1)
 generalize signN y=p at *
 generalize CmpD x (ofN 1)=q at *
 have q1:IntKind.i64.wrap (p * q)=p * q:=IntWalk.i64_in _ (by rcases (by omega:p=-1 ∨ p=0 ∨ p=1) with h | h | h <;> subst h <;> omega)
 generalize ofN 1=o at *
 obtain ⟨on,om,oe⟩:=o
 have HU:=h_ hu
 obtain ⟨a1,k1,c1,a2,k2,c2,rfl,hx,hy⟩:=hu
 obtain ⟨xn,xm,xe⟩:=x
 obtain ⟨yn,ym,ye⟩:=y
 simp only at hx hy
 have HX:=h_ hx
 have HY:=h_ hy
 clear hx hy ok b1 b2 HS
 go_enter Tryz.func42,Tryz.ntmps42
 have F0:=h_ (Fz.one w 58 #[.bool xn,.slice a1 k1 c1,.int .i64 xe,.bool yn,.slice a2 k2 c2,.int .i64 ye,.int .u64 (N:Int),.bool false,.int .i64 z,.int .i64 64,.int .i64 tt])
 have U0:=h_ (HU.out.alloc (.cells #[.bool xn,.slice a1 k1 c1,.int .i64 xe,.bool yn,.slice a2 k2 c2,.int .i64 ye,.int .u64 (N:Int),.bool false,.int .i64 z,.int .i64 64,.int .i64 tt] 58))
 have X0:=h_ (HX.out.alloc (.cells #[.bool xn,.slice a1 k1 c1,.int .i64 xe,.bool yn,.slice a2 k2 c2,.int .i64 ye,.int .u64 (N:Int),.bool false,.int .i64 z,.int .i64 64,.int .i64 tt] 58))
 have Y0:=h_ (HY.out.alloc (.cells #[.bool xn,.slice a1 k1 c1,.int .i64 xe,.bool yn,.slice a2 k2 c2,.int .i64 ye,.int .u64 (N:Int),.bool false,.int .i64 z,.int .i64 64,.int .i64 tt] 58))
 clear HX HY HU
 go_upto_region 1 with (fail)
 generalize World.alloc _ _=w0 at F0 U0 X0 Y0 ⊢
 have c0_0:=F0.out.c11 0 rfl
 go_wp2_with fail
 clear c0_0
 refine (CR.out _ _ U0.out).mono ?_
 rintro q w1 ⟨rfl,hb⟩
 have F1:=h_ (F0.out.call hb)
 have U1:=h_ (U0.out.below hb)
 have X1:=h_ (X0.out.below hb)
 have Y1:=h_ (Y0.out.below hb)
 clear F0 U0 X0 Y0
 clear hb
 have c0_1:=F1.out.c11 0 rfl
 clear U1
 go_upto_region 3 with (fail)
 clear c0_1
 have FCD:=h_ (((F1.out.drew).c11 0 rfl).1)
 go_region_held3 (fun w'=>(w'.cell? ⟨w.heap.size,0,none⟩=some (.bool xn)∧w'.cell? ⟨w.heap.size,1,none⟩=some (.slice a1 k1 c1)∧w'.cell? ⟨w.heap.size,2,none⟩=some (.int .i64 xe)∧w'.cell? ⟨w.heap.size,3,none⟩=some (.bool yn)∧w'.cell? ⟨w.heap.size,4,none⟩=some (.slice a2 k2 c2)∧w'.cell? ⟨w.heap.size,5,none⟩=some (.int .i64 ye)∧w'.cell? ⟨w.heap.size,6,none⟩=some (.int .u64 (N:Int))∧w'.cell? ⟨w.heap.size,7,none⟩=some (.bool false)∧w'.cell? ⟨w.heap.size,8,none⟩=some (.int .i64 z)∧w'.cell? ⟨w.heap.size,9,none⟩=some (.int .i64 64)∧w'.cell? ⟨w.heap.size,10,none⟩=some (.int .i64 tt))) (first | with_reducible exact FCD.out | with_reducible exact FC.out) (first | (go_at_call 17; (with_reducible refine (C3.out _ _ _ X3.out O3.out).mono ?_); rintro q ww4 ⟨rfl,hb⟩; have F4:=h_ (F3.out.call hb); have X4:=h_ (X3.out.below hb); have Y4:=h_ (Y3.out.below hb); have O4:=h_ (O3.out.below hb); have FC:=h_ ((F4.out.c11 0 rfl).1); have c0_4:=F4.out.c11 0 rfl; clear hb) | (go_at_call 18; (with_reducible refine (C2.out _ X2.out.tab).mono ?_); rintro q ww3 ⟨u1,rfl,hu,hb⟩; have F3:=h_ (F2.out.call hb); have X3:=h_ (X2.out.below hb); have Y3:=h_ (Y2.out.below hb); have O3:=h_ (hu); obtain ⟨b1,f1,d1,rfl⟩:=O3.out.fm; have FC:=h_ ((F3.out.c11 0 rfl).1); have c0_3:=F3.out.c11 0 rfl; clear hb) | (go_at_call 19; (with_reducible refine (C1.out _ _ (Y1.out.drew)).mono ?_); rintro q ww2 ⟨rfl,hb⟩; have F2:=h_ ((F1.out.drew).call hb); have X2:=h_ ((X1.out.drew).below hb); have Y2:=h_ ((Y1.out.drew).below hb); have FC:=h_ ((F2.out.c11 0 rfl).1); have c0_2:=F2.out.c11 0 rfl; clear hb))
 go_wp2
 go_ret
 exact ⟨rfl,F4.out.b⟩
def scaleN (y:Dn) (bits:Nat):Int:=(bits:Int)+64+max ((if y.m=0 then -1 else topN y)+1) 0
theorem scale_g {w:World} {u:Value} {x y:Dn} {N:Nat} {z tt:Int} (hu:Ag w u x y N z tt) (ht:-1100≤topN y∧topN y≤1100) (b:Nat) (hb:b≤1024):Calls Tryz.prog 128 #[u,.int .i64 (b:Int)] w fun e w'=>e=.returned (.int .i64 (scaleN y b))∧Below w.heap.size w w':=by
 have CT:=h_ (fun w u (h:Cy w u y)=>Top_d h.ry)
 unfold scaleN
 by_cases h0:y.m=0
 ·rw [decide_eq_false (by omega)] at CT
  rw [if_pos h0]
  generalize topN y=t at *
  obtain ⟨s,hs⟩:∃ s:Int,s=(b:Int)+64:=⟨_,rfl⟩
  have r0:(b:Int)+64+max (-1+1) 0=s:=by omega
  rw [r0]
  have r1:(b:Int)+64=s:=hs.symm
  have r2:IntKind.i64.wrap s=s:=IntWalk.i64_in _ (by omega)
  have r3:min s 8900=s:=by omega
  obtain ⟨a1,k1,c1,a2,k2,c2,rfl,hx,hy⟩:=hu
  obtain ⟨xn,xm,xe⟩:=x
  obtain ⟨yn,ym,ye⟩:=y
  simp only at hx hy
  have HY:=h_ hy
  clear hx hy h0 ht hb hs r0
  go_enter Tryz.func128,Tryz.ntmps128
  have F0:=h_ (Fz.one w 58 #[.bool xn,.slice a1 k1 c1,.int .i64 xe,.bool yn,.slice a2 k2 c2,.int .i64 ye,.int .u64 (N:Int),.bool false,.int .i64 z,.int .i64 64,.int .i64 tt])
  have Y0:=h_ (HY.out.alloc (.cells #[.bool xn,.slice a1 k1 c1,.int .i64 xe,.bool yn,.slice a2 k2 c2,.int .i64 ye,.int .u64 (N:Int),.bool false,.int .i64 z,.int .i64 64,.int .i64 tt] 58))
  clear HY
  go_upto_region 1 with (fail)
  generalize World.alloc _ _=w0 at F0 Y0 ⊢
  have c0_0:=F0.out.c11 0 rfl
  go_wp2_with fail
  clear c0_0
  refine (CT.out _ _ Y0.out).mono ?_
  rintro q w1 ⟨rfl,hb⟩
  have F1:=h_ (F0.out.call hb)
  have Y1:=h_ (Y0.out.below hb)
  clear F0 Y0
  clear hb
  have c0_1:=F1.out.c11 0 rfl
  go_wp2
  go_ret
  exact ⟨rfl,F1.out.b⟩
 ·rw [decide_eq_true h0] at CT
  rw [if_neg h0]
  generalize topN y=t at *
  obtain ⟨t1,ht1⟩:∃ t1,t1=t+1:=⟨_,rfl⟩
  obtain ⟨t2,ht2⟩:∃ t2,t2=max t1 0:=⟨_,rfl⟩
  obtain ⟨s,hs⟩:∃ s:Int,s=(b:Int)+64:=⟨_,rfl⟩
  obtain ⟨s2,hs2⟩:∃ s2:Int,s2=s+t2:=⟨_,rfl⟩
  have r0:(b:Int)+64+max (t+1) 0=s2:=by omega
  rw [r0]
  have q0:t+1=t1:=ht1.symm
  have q1:IntKind.i64.wrap (t+1)=t1:=by rw [IntWalk.i64_in _ (by omega)]; exact q0
  have q1':IntKind.i64.wrap t1=t1:=IntWalk.i64_in _ (by omega)
  have q2:max t1 0=t2:=ht2.symm
  have r1:(b:Int)+64=s:=hs.symm
  have r2:IntKind.i64.wrap s=s:=IntWalk.i64_in _ (by omega)
  have r4:s+t2=s2:=hs2.symm
  have r5:IntKind.i64.wrap s2=s2:=IntWalk.i64_in _ (by omega)
  have r3:min s2 8900=s2:=by omega
  obtain ⟨a1,k1,c1,a2,k2,c2,rfl,hx,hy⟩:=hu
  obtain ⟨xn,xm,xe⟩:=x
  obtain ⟨yn,ym,ye⟩:=y
  simp only at hx hy
  have HY:=h_ hy
  clear hx hy h0 ht hb hs r0 ht1 ht2 hs2
  go_enter Tryz.func128,Tryz.ntmps128
  have F0:=h_ (Fz.one w 58 #[.bool xn,.slice a1 k1 c1,.int .i64 xe,.bool yn,.slice a2 k2 c2,.int .i64 ye,.int .u64 (N:Int),.bool false,.int .i64 z,.int .i64 64,.int .i64 tt])
  have Y0:=h_ (HY.out.alloc (.cells #[.bool xn,.slice a1 k1 c1,.int .i64 xe,.bool yn,.slice a2 k2 c2,.int .i64 ye,.int .u64 (N:Int),.bool false,.int .i64 z,.int .i64 64,.int .i64 tt] 58))
  clear HY
  go_upto_region 1 with (fail)
  generalize World.alloc _ _=w0 at F0 Y0 ⊢
  have c0_0:=F0.out.c11 0 rfl
  go_wp2_with fail
  clear c0_0
  refine (CT.out _ _ Y0.out).mono ?_
  rintro q w1 ⟨rfl,hb⟩
  have F1:=h_ (F0.out.call hb)
  have Y1:=h_ (Y0.out.below hb)
  clear F0 Y0
  clear hb
  have c0_1:=F1.out.c11 0 rfl
  go_wp2
  go_ret
  exact ⟨rfl,F1.out.b⟩
theorem CLog_g {w:World} {u:Value} {x y:Dn} {z tt:Int} (hu:Ag w u x y 1 z tt) (ok:AgOk x y 1 z tt) (xneg:(bareN x).neg=false) (x0:(bareN x).m ≠ 0) (b:Nat) (hb:64≤b∧b≤1024) (ht:-1100≤topN y∧topN y≤1100) (s:Nat) (hs:scaleN y b=(s:Int)) (hs2:8≤s∧s≤3000)
  (s1:Sd (logN (bareN x).m (topN (bareN x)) s).lo) (s2:Sd (logN (bareN x).m (topN (bareN x)) s).hi) (r1:CmpD (logN (bareN x).m (topN (bareN x)) s).lo (logN (bareN x).m (topN (bareN x)) s).hi≤0) (r2:CmpD y y≤0) :
  Calls Tryz.prog 90 #[u,.int .i64 (b:Int)] w fun e w'=>∃ r,e=.returned (.tuple #[r,.int .i64 (s:Int),.int .i64 0])∧Iv w' r (mulI (logN (bareN x).m (topN (bareN x)) s) ⟨y,y⟩)∧Below w.heap.size w w':=by
 have CR:=h_ (fun w u (h:Ag w u x y 1 z tt)=>Right_ag h ok)
 have CS:=h_ (fun w u (h:Ag w u x y 1 z tt)=>scale_g h ht b hb.2)
 have CL:=h_ (fun w u (h:Cy w u x)=>Log_r h.ry ok.sx xneg x0 ok.bx s hs2)
 rw [hs] at CS
 have y1:decide ((b:Int) < 32)=false:=decide_eq_false (by omega)
 have y2:decide ((8192:Int) < (b:Int))=false:=decide_eq_false (by omega)
 obtain ⟨bq,hbq⟩:∃ q:Int,q=(b:Int):=⟨_,rfl⟩
 obtain ⟨sq,hsq⟩:∃ q:Int,q=(s:Int):=⟨_,rfl⟩
 rw [← hbq] at CS y1 y2 ⊢
 rw [← hsq] at CS CL ⊢
 generalize logN (bareN x).m (topN (bareN x)) s=L at *
 have CT:=h_ (fun w u v (h:Iv w u L) (k:Cy w v y)=>Times_r h k s1 s2 ok.sy r1 r2)
 generalize mulI L ⟨y,y⟩=R at *
 have HU:=h_ hu
 obtain ⟨a1,k1,c1,a2,k2,c2,he,hx,hy⟩:=hu
 replace he:u=.agg #[.bool x.neg,.slice a1 k1 c1,.int .i64 x.e,.bool y.neg,.slice a2 k2 c2,.int .i64 y.e,.int .u64 1,.bool false,.int .i64 z,.int .i64 64,.int .i64 tt]:=he
 subst he
 obtain ⟨xn,xm,xe⟩:=x
 obtain ⟨yn,ym,ye⟩:=y
 simp only at hx hy
 have HX:=h_ hx
 have HY:=h_ hy
 obtain ⟨⟨ln,lm,le⟩,⟨ln',lm',le'⟩⟩:=L
 obtain ⟨⟨rn,rm,re⟩,⟨rn',rm',re'⟩⟩:=R
 clear hx hy ok ht hb hs hs2 hbq hsq s1 s2 r1 r2 xneg x0
 go_enter Tryz.func90,Tryz.ntmps90
 have F0:=h_ (Fz.two w 58 #[.bool xn,.slice a1 k1 c1,.int .i64 xe,.bool yn,.slice a2 k2 c2,.int .i64 ye,.int .u64 1,.bool false,.int .i64 z,.int .i64 64,.int .i64 tt] 92 #[.bool false,.slice none 0 0,.int .i64 0,.bool false,.slice none 0 0,.int .i64 0])
 have U0:=h_ ((HU.out.alloc (.cells #[.bool xn,.slice a1 k1 c1,.int .i64 xe,.bool yn,.slice a2 k2 c2,.int .i64 ye,.int .u64 1,.bool false,.int .i64 z,.int .i64 64,.int .i64 tt] 58)).alloc (.cells #[.bool false,.slice none 0 0,.int .i64 0,.bool false,.slice none 0 0,.int .i64 0] 92))
 have X0:=h_ ((HX.out.alloc (.cells #[.bool xn,.slice a1 k1 c1,.int .i64 xe,.bool yn,.slice a2 k2 c2,.int .i64 ye,.int .u64 1,.bool false,.int .i64 z,.int .i64 64,.int .i64 tt] 58)).alloc (.cells #[.bool false,.slice none 0 0,.int .i64 0,.bool false,.slice none 0 0,.int .i64 0] 92))
 have Y0:=h_ ((HY.out.alloc (.cells #[.bool xn,.slice a1 k1 c1,.int .i64 xe,.bool yn,.slice a2 k2 c2,.int .i64 ye,.int .u64 1,.bool false,.int .i64 z,.int .i64 64,.int .i64 tt] 58)).alloc (.cells #[.bool false,.slice none 0 0,.int .i64 0,.bool false,.slice none 0 0,.int .i64 0] 92))
 clear HU HX HY
 go_upto_region 1 with (fail)
 generalize World.alloc (World.alloc _ _) _=w0 at F0 U0 X0 Y0 ⊢
 have c0_0:=F0.out.c11 0 rfl
 have c1_0:=F0.out.c6 1 rfl
 go_wp2_with fail
 clear c0_0 c1_0
 refine (CR.out _ _ U0.out).mono ?_
 rintro q w1 ⟨rfl,hb⟩
 have F1:=h_ (F0.out.call hb)
 have U1:=h_ (U0.out.below hb)
 have X1:=h_ (X0.out.below hb)
 have Y1:=h_ (Y0.out.below hb)
 clear F0 U0 X0 Y0
 clear hb
 have c0_1:=F1.out.c11 0 rfl
 have c1_1:=F1.out.c6 1 rfl
 go_wp2_with fail
 clear c0_1 c1_1
 refine (CS.out _ _ U1.out).mono ?_
 rintro q w2 ⟨rfl,hb⟩
 have F2:=h_ (F1.out.call hb)
 have U2:=h_ (U1.out.below hb)
 have X2:=h_ (X1.out.below hb)
 have Y2:=h_ (Y1.out.below hb)
 clear F1 U1 X1 Y1
 clear hb
 have c0_2:=F2.out.c11 0 rfl
 have c1_2:=F2.out.c6 1 rfl
 clear U2
 go_wp2_with fail
 clear c0_2 c1_2
 refine (CL.out _ _ X2.out).mono ?_
 rintro q w3 ⟨u,rfl,hu,hb⟩
 have F3:=h_ (F2.out.call hb)
 have X3:=h_ (X2.out.below hb)
 have Y3:=h_ (Y2.out.below hb)
 clear F2 X2 Y2
 have I3:=h_ (hu)
 clear hb
 have c0_3:=F3.out.c11 0 rfl
 have c1_3:=F3.out.c6 1 rfl
 clear X3
 obtain ⟨b7,e7,d7,b8,e8,d8,rfl,h1,h2⟩:=I3.out.fm
 clear h1 h2
 go_upto_region 5 with (fail)
 clear c0_3 c1_3
 have F4:=h_ (F3.out.new 92 #[.bool ln,.slice b7 e7 d7,.int .i64 le,.bool ln',.slice b8 e8 d8,.int .i64 le'])
 have Y4:=h_ (Y3.out.alloc (.cells #[.bool ln,.slice b7 e7 d7,.int .i64 le,.bool ln',.slice b8 e8 d8,.int .i64 le'] 92))
 have I4:=h_ (I3.out.alloc (.cells #[.bool ln,.slice b7 e7 d7,.int .i64 le,.bool ln',.slice b8 e8 d8,.int .i64 le'] 92))
 clear F3 Y3 I3
 obtain ⟨g1,hg1⟩:∃ g,g=(World.heap w3).size:=⟨_,rfl⟩
 rw [← hg1] at F4 ⊢
 clear hg1
 simp only [List.nil_append,List.cons_append] at F4
 generalize World.alloc w3 _=W4 at F4 Y4 I4 ⊢
 have c0_4:=F4.out.c11 0 rfl
 have c1_4:=F4.out.c6 1 rfl
 have c2_4:=F4.out.c6 2 rfl
 go_wp2_with fail
 clear c0_4 c1_4 c2_4
 refine (CT.out _ _ _ I4.out Y4.out).mono ?_
 rintro q w5 ⟨u,rfl,hu,hb⟩
 have F5:=h_ (F4.out.call hb)
 have Y5:=h_ (Y4.out.below hb)
 have I5:=h_ (I4.out.below hb)
 clear F4 Y4 I4
 have J5:=h_ (hu)
 clear hb
 have c0_5:=F5.out.c11 0 rfl
 have c1_5:=F5.out.c6 1 rfl
 have c2_5:=F5.out.c6 2 rfl
 clear I5 Y5
 obtain ⟨f7,i7,j7,f8,i8,j8,rfl,h1,h2⟩:=J5.out.fm
 clear h1 h2
 go_upto_region 8 with (fail)
 clear c0_5 c1_5 c2_5
 have F6:=h_ (F5.out.new 92 #[.bool rn,.slice f7 i7 j7,.int .i64 re,.bool rn',.slice f8 i8 j8,.int .i64 re'])
 have J6:=h_ (J5.out.alloc (.cells #[.bool rn,.slice f7 i7 j7,.int .i64 re,.bool rn',.slice f8 i8 j8,.int .i64 re'] 92))
 clear F5 J5
 obtain ⟨g2,hg2⟩:∃ g,g=(World.heap w5).size:=⟨_,rfl⟩
 rw [← hg2] at F6 ⊢
 clear hg2
 simp only [List.nil_append,List.cons_append] at F6
 generalize World.alloc w5 _=W6 at F6 J6 ⊢
 have c0_6:=F6.out.c11 0 rfl
 have c1_6:=F6.out.c6 1 rfl
 have c2_6:=F6.out.c6 2 rfl
 have c3_6:=F6.out.c6 3 rfl
 go_wp2
 have f:=F6.out.s6 1 rfl (.bool rn) (.slice f7 i7 j7) (.int .i64 re) (.bool rn') (.slice f8 i8 j8) (.int .i64 re')
 have p:=((F6.out.one_fx 1 rfl rfl).s6 0 rfl (.bool rn) (.slice f7 i7 j7) (.int .i64 re) (.bool rn') (.slice f8 i8 j8) (.int .i64 re') rfl rfl rfl rfl rfl rfl).2
 generalize (World.setCell (World.setCell (World.setCell (World.setCell (World.setCell (World.setCell _ _ _) _ _) _ _) _ _) _ _) _ _)=W at f p ⊢
 have g1':=f.c6 1 rfl
 refine bodyPost_ret (v:=.tuple #[.agg #[.bool rn,.slice f7 i7 j7,.int .i64 re,.bool rn',.slice f8 i8 j8,.int .i64 re'],.int .i64 sq,.int .i64 0]) (by simp [results,Tryz.results90,go_sem,g1']) rfl ?_
 exact ⟨_,rfl,J6.out.kp p,f.b⟩
end Go.Proofs.YtobpioceopfkpaaGreatDoor
