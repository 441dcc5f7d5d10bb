/-
  Lemmas for WholeTurned and WholeGrows and WholeRises, part 16 of 36: what the program's functions do, and plain facts; without conditions.
-/
import Derived.Test.YtobpioceopfkpaaGreatDoorM15
import Derived.Deep.RegionHeld3
import Derived.BigRegion
set_option maxRecDepth 100000
set_option maxHeartbeats 4000000
namespace Go.Proofs.YtobpioceopfkpaaGreatDoor
open Go.RowKit
def wholeN (m:Nat) (n z:Int) (more:Bool):Nat × Bool :=
 (if awayN z ((partsN m n).1 % 2 == 1) (partsN m n).2.1 ((partsN m n).2.2 || more) then (partsN m n).1+1 else (partsN m n).1,(partsN m n).2.1 || ((partsN m n).2.2 || more))
theorem whole_r {w:World} {u:Value} {d:Dn} (hu:Cy w u d) (more:Bool) (z:Int) (hz:0≤z∧z≤3) (t n:Int) (hn:n=t - d.e) (hnb:-10000≤n∧n≤10000) (hb:bl d.m≤50000) (hneg:d.neg=false) :
  Calls Tryz.prog 86 #[u,.bool more,.int .i64 z,.int .i64 t] w fun e w'=>∃ x,e=.returned (.tuple #[x,.bool (wholeN d.m n z more).2])∧Dg w' x (wholeN d.m n z more).1∧Below w.heap.size w w':=by
 obtain ⟨neg,m,e⟩:=d
 simp only at hn hb hneg
 subst hneg
 obtain ⟨a1,k1,c1,rfl⟩:=hu.fm
 have CP:=h_ (fun w u (h:Cy w u ⟨false,m,e⟩)=>parts_r h t n hn hnb hb)
 simp only
 have HW:wholeN m n z more=(if awayN z ((partsN m n).1 % 2 == 1) (partsN m n).2.1 ((partsN m n).2.2 || more) then (partsN m n).1+1 else (partsN m n).1,(partsN m n).2.1 || ((partsN m n).2.2 || more)):=rfl
 have hbl:bl (partsN m n).1≤6000000:=by
  unfold partsN; split
  ·exact Nat.le_trans (bl_shl2 _ _) (by omega)
  ·exact Nat.le_trans (bl_mono (Nat.div_le_self _ _)) (by omega)
 simp only at CP
 generalize hp:partsN m n=pt at *
 obtain ⟨x,half,below⟩:=pt
 simp only at HW hbl CP
 rw [HW]
 have CO:=h_ (fun w u (h:Dg w u x)=>(odd_r (h.rd hbl)).mono (fun e w' (h:e=_∧w=w')=>(show e=.returned (.bool (x % 2 == 1))∧Below w.heap.size w w' from ⟨h.1,h.2 ▸ Below.refl _ _⟩)))
 generalize (x % 2 == 1)=odd at *
 have HUU:=h_ hu
 clear hp hu hn hnb hb HW
 have CA:=h_ (fun w below=>(away_r z hz odd half below w).mono (fun e w' (h:e=_∧w=w')=>(show e=.returned (.bool (awayN z odd half below))∧Below w.heap.size w w' from ⟨h.1,h.2 ▸ Below.refl _ _⟩)))
 obtain ⟨bm,hbm⟩:∃ b,b=(below || more):=⟨_,rfl⟩
 rw [← hbm]
 obtain ⟨g,hg⟩:∃ g,g=awayN z odd half bm:=⟨_,rfl⟩
 rw [← hg]
 have CA:=h_ (fun w=>CA.out w bm)
 rw [← hg] at CA
 have HBM:=h_ hbm
 clear hg hz
 have HIN:∃ i,i=(half || bm):=⟨_,rfl⟩
 obtain ⟨i,hi⟩:=HIN
 rw [← hi]
 have HI:=h_ hi
 clear hbm hi
 cases below <;> cases more <;> cases half <;> cases g
 ·obtain rfl:bm=false:=HBM.out
  obtain rfl:i=false:=HI.out
  clear HBM HI
  have F0:=h_ (Fx.one w 42 #[.bool false,.slice a1 k1 c1,.int .i64 e] rfl)
  have X0:=h_ (HUU.out.alloc (.cells #[.bool false,.slice a1 k1 c1,.int .i64 e] 42))
  clear HUU
  go_enter Tryz.func86,Tryz.ntmps86
  go_upto_region 1 with (fail)
  generalize World.alloc _ _=w0 at F0 X0 ⊢
  have c0_0:=F0.out.c3 0 rfl
  go_wp2_with fail
  clear c0_0
  refine (CP.out _ _ X0.out).mono ?_
  rintro q w1 ⟨u,rfl,hu,hb⟩
  have F1:=h_ (F0.out.call hb)
  have X1:=h_ (X0.out.below hb)
  clear F0 X0
  have U1:=h_ (hu)
  clear hb
  have c0_1:=F1.out.c3 0 rfl
  obtain ⟨a3,k3,c3,rfl⟩:=U1.out.form
  go_upto_region 3 with (fail)
  clear X1
  clear c0_1
  have FCD:=h_ (((F1.out.drew).c3 0 rfl).1)
  go_region_held3 (fun w'=>(w'.cell? ⟨w.heap.size,0,none⟩=some (.bool false)∧w'.cell? ⟨w.heap.size,1,none⟩=some (.slice a1 k1 c1)∧w'.cell? ⟨w.heap.size,2,none⟩=some (.int .i64 e))) (first | with_reducible exact FCD.out | with_reducible exact FC.out) (first | (go_at_call 122; (with_reducible refine (CA.out _).mono ?_); rintro q ww3 ⟨rfl,hb⟩; have F3:=h_ (F2.out.call hb); have U3:=h_ (U2.out.below hb); have FC:=h_ ((F3.out.c3 0 rfl).1); have c0_3:=F3.out.c3 0 rfl; clear hb) | (go_at_call 68; (with_reducible refine (CO.out _ _ (U1.out.drew)).mono ?_); rintro q ww2 ⟨rfl,hb⟩; have F2:=h_ ((F1.out.drew).call hb); have U2:=h_ ((U1.out.drew).below hb); have FC:=h_ ((F2.out.c3 0 rfl).1); have c0_2:=F2.out.c3 0 rfl; clear hb))
  go_wp2
  refine bodyPost_ret (v:=.tuple #[.slice a3 k3 c3,.bool false]) (by simp [results,Tryz.results86,go_sem]) rfl ?_
  exact ⟨_,rfl,U3.out,F3.out.b⟩
 ·obtain rfl:bm=false:=HBM.out
  obtain rfl:i=false:=HI.out
  clear HBM HI
  have F0:=h_ (Fx.one w 42 #[.bool false,.slice a1 k1 c1,.int .i64 e] rfl)
  have X0:=h_ (HUU.out.alloc (.cells #[.bool false,.slice a1 k1 c1,.int .i64 e] 42))
  clear HUU
  go_enter Tryz.func86,Tryz.ntmps86
  go_upto_region 1 with (fail)
  generalize World.alloc _ _=w0 at F0 X0 ⊢
  have c0_0:=F0.out.c3 0 rfl
  go_wp2_with fail
  clear c0_0
  refine (CP.out _ _ X0.out).mono ?_
  rintro q w1 ⟨u,rfl,hu,hb⟩
  have F1:=h_ (F0.out.call hb)
  have X1:=h_ (X0.out.below hb)
  clear F0 X0
  have U1:=h_ (hu)
  clear hb
  have c0_1:=F1.out.c3 0 rfl
  obtain ⟨a3,k3,c3,rfl⟩:=U1.out.form
  go_upto_region 3 with (fail)
  clear X1
  clear c0_1
  have FCD:=h_ (((F1.out.drew).c3 0 rfl).1)
  go_region_held3 (fun w'=>(w'.cell? ⟨w.heap.size,0,none⟩=some (.bool false)∧w'.cell? ⟨w.heap.size,1,none⟩=some (.slice a1 k1 c1)∧w'.cell? ⟨w.heap.size,2,none⟩=some (.int .i64 e))) (first | with_reducible exact FCD.out | with_reducible exact FC.out) (first | (go_at_call 122; (with_reducible refine (CA.out _).mono ?_); rintro q ww3 ⟨rfl,hb⟩; have F3:=h_ (F2.out.call hb); have U3:=h_ (U2.out.below hb); have FC:=h_ ((F3.out.c3 0 rfl).1); have c0_3:=F3.out.c3 0 rfl; clear hb) | (go_at_call 68; (with_reducible refine (CO.out _ _ (U1.out.drew)).mono ?_); rintro q ww2 ⟨rfl,hb⟩; have F2:=h_ ((F1.out.drew).call hb); have U2:=h_ ((U1.out.drew).below hb); have FC:=h_ ((F2.out.c3 0 rfl).1); have c0_2:=F2.out.c3 0 rfl; clear hb))
  go_wp2_with fail
  clear c0_3
  refine (of_any (n:=1) (by decide) U3.out.tab).mono ?_
  rintro q w4 ⟨u,rfl,hu,hb⟩
  have F4:=h_ (F3.out.call hb)
  have U4:=h_ (U3.out.below hb)
  clear F3 U3
  have O4:=h_ (hu)
  clear hb
  have c0_4:=F4.out.c3 0 rfl
  obtain ⟨a4,k4,c4,rfl⟩:=O4.out.form
  go_wp2_with fail
  clear c0_4
  refine (add_r (U4.out.rd hbl) (O4.out.rd (by decide))).mono ?_
  rintro q w5 ⟨u,rfl,hu,hb⟩
  have F5:=h_ (F4.out.call hb)
  have U5:=h_ (U4.out.below hb)
  have O5:=h_ (O4.out.below hb)
  clear F4 U4 O4
  have V5:=h_ (hu)
  clear hb
  have c0_5:=F5.out.c3 0 rfl
  obtain ⟨a5,k5,c5,rfl⟩:=V5.out.form
  go_wp2
  refine bodyPost_ret (v:=.tuple #[.slice a5 k5 c5,.bool false]) (by simp [results,Tryz.results86,go_sem]) rfl ?_
  exact ⟨_,rfl,V5.out,F5.out.b⟩
 ·obtain rfl:bm=false:=HBM.out
  obtain rfl:i=true:=HI.out
  clear HBM HI
  have F0:=h_ (Fx.one w 42 #[.bool false,.slice a1 k1 c1,.int .i64 e] rfl)
  have X0:=h_ (HUU.out.alloc (.cells #[.bool false,.slice a1 k1 c1,.int .i64 e] 42))
  clear HUU
  go_enter Tryz.func86,Tryz.ntmps86
  go_upto_region 1 with (fail)
  generalize World.alloc _ _=w0 at F0 X0 ⊢
  have c0_0:=F0.out.c3 0 rfl
  go_wp2_with fail
  clear c0_0
  refine (CP.out _ _ X0.out).mono ?_
  rintro q w1 ⟨u,rfl,hu,hb⟩
  have F1:=h_ (F0.out.call hb)
  have X1:=h_ (X0.out.below hb)
  clear F0 X0
  have U1:=h_ (hu)
  clear hb
  have c0_1:=F1.out.c3 0 rfl
  obtain ⟨a3,k3,c3,rfl⟩:=U1.out.form
  go_upto_region 3 with (fail)
  clear X1
  clear c0_1
  have FCD:=h_ (((F1.out.drew).c3 0 rfl).1)
  go_region_held3 (fun w'=>(w'.cell? ⟨w.heap.size,0,none⟩=some (.bool false)∧w'.cell? ⟨w.heap.size,1,none⟩=some (.slice a1 k1 c1)∧w'.cell? ⟨w.heap.size,2,none⟩=some (.int .i64 e))) (first | with_reducible exact FCD.out | with_reducible exact FC.out) (first | (go_at_call 122; (with_reducible refine (CA.out _).mono ?_); rintro q ww3 ⟨rfl,hb⟩; have F3:=h_ (F2.out.call hb); have U3:=h_ (U2.out.below hb); have FC:=h_ ((F3.out.c3 0 rfl).1); have c0_3:=F3.out.c3 0 rfl; clear hb) | (go_at_call 68; (with_reducible refine (CO.out _ _ (U1.out.drew)).mono ?_); rintro q ww2 ⟨rfl,hb⟩; have F2:=h_ ((F1.out.drew).call hb); have U2:=h_ ((U1.out.drew).below hb); have FC:=h_ ((F2.out.c3 0 rfl).1); have c0_2:=F2.out.c3 0 rfl; clear hb))
  go_wp2
  refine bodyPost_ret (v:=.tuple #[.slice a3 k3 c3,.bool true]) (by simp [results,Tryz.results86,go_sem]) rfl ?_
  exact ⟨_,rfl,U3.out,F3.out.b⟩
 ·obtain rfl:bm=false:=HBM.out
  obtain rfl:i=true:=HI.out
  clear HBM HI
  have F0:=h_ (Fx.one w 42 #[.bool false,.slice a1 k1 c1,.int .i64 e] rfl)
  have X0:=h_ (HUU.out.alloc (.cells #[.bool false,.slice a1 k1 c1,.int .i64 e] 42))
  clear HUU
  go_enter Tryz.func86,Tryz.ntmps86
  go_upto_region 1 with (fail)
  generalize World.alloc _ _=w0 at F0 X0 ⊢
  have c0_0:=F0.out.c3 0 rfl
  go_wp2_with fail
  clear c0_0
  refine (CP.out _ _ X0.out).mono ?_
  rintro q w1 ⟨u,rfl,hu,hb⟩
  have F1:=h_ (F0.out.call hb)
  have X1:=h_ (X0.out.below hb)
  clear F0 X0
  have U1:=h_ (hu)
  clear hb
  have c0_1:=F1.out.c3 0 rfl
  obtain ⟨a3,k3,c3,rfl⟩:=U1.out.form
  go_upto_region 3 with (fail)
  clear X1
  clear c0_1
  have FCD:=h_ (((F1.out.drew).c3 0 rfl).1)
  go_region_held3 (fun w'=>(w'.cell? ⟨w.heap.size,0,none⟩=some (.bool false)∧w'.cell? ⟨w.heap.size,1,none⟩=some (.slice a1 k1 c1)∧w'.cell? ⟨w.heap.size,2,none⟩=some (.int .i64 e))) (first | with_reducible exact FCD.out | with_reducible exact FC.out) (first | (go_at_call 122; (with_reducible refine (CA.out _).mono ?_); rintro q ww3 ⟨rfl,hb⟩; have F3:=h_ (F2.out.call hb); have U3:=h_ (U2.out.below hb); have FC:=h_ ((F3.out.c3 0 rfl).1); have c0_3:=F3.out.c3 0 rfl; clear hb) | (go_at_call 68; (with_reducible refine (CO.out _ _ (U1.out.drew)).mono ?_); rintro q ww2 ⟨rfl,hb⟩; have F2:=h_ ((F1.out.drew).call hb); have U2:=h_ ((U1.out.drew).below hb); have FC:=h_ ((F2.out.c3 0 rfl).1); have c0_2:=F2.out.c3 0 rfl; clear hb))
  go_wp2_with fail
  clear c0_3
  refine (of_any (n:=1) (by decide) U3.out.tab).mono ?_
  rintro q w4 ⟨u,rfl,hu,hb⟩
  have F4:=h_ (F3.out.call hb)
  have U4:=h_ (U3.out.below hb)
  clear F3 U3
  have O4:=h_ (hu)
  clear hb
  have c0_4:=F4.out.c3 0 rfl
  obtain ⟨a4,k4,c4,rfl⟩:=O4.out.form
  go_wp2_with fail
  clear c0_4
  refine (add_r (U4.out.rd hbl) (O4.out.rd (by decide))).mono ?_
  rintro q w5 ⟨u,rfl,hu,hb⟩
  have F5:=h_ (F4.out.call hb)
  have U5:=h_ (U4.out.below hb)
  have O5:=h_ (O4.out.below hb)
  clear F4 U4 O4
  have V5:=h_ (hu)
  clear hb
  have c0_5:=F5.out.c3 0 rfl
  obtain ⟨a5,k5,c5,rfl⟩:=V5.out.form
  go_wp2
  refine bodyPost_ret (v:=.tuple #[.slice a5 k5 c5,.bool true]) (by simp [results,Tryz.results86,go_sem]) rfl ?_
  exact ⟨_,rfl,V5.out,F5.out.b⟩
 ·obtain rfl:bm=true:=HBM.out
  obtain rfl:i=true:=HI.out
  clear HBM HI
  have F0:=h_ (Fx.one w 42 #[.bool false,.slice a1 k1 c1,.int .i64 e] rfl)
  have X0:=h_ (HUU.out.alloc (.cells #[.bool false,.slice a1 k1 c1,.int .i64 e] 42))
  clear HUU
  go_enter Tryz.func86,Tryz.ntmps86
  go_upto_region 1 with (fail)
  generalize World.alloc _ _=w0 at F0 X0 ⊢
  have c0_0:=F0.out.c3 0 rfl
  go_wp2_with fail
  clear c0_0
  refine (CP.out _ _ X0.out).mono ?_
  rintro q w1 ⟨u,rfl,hu,hb⟩
  have F1:=h_ (F0.out.call hb)
  have X1:=h_ (X0.out.below hb)
  clear F0 X0
  have U1:=h_ (hu)
  clear hb
  have c0_1:=F1.out.c3 0 rfl
  obtain ⟨a3,k3,c3,rfl⟩:=U1.out.form
  go_upto_region 3 with (fail)
  clear X1
  clear c0_1
  have FCD:=h_ (((F1.out.drew).c3 0 rfl).1)
  go_region_held3 (fun w'=>(w'.cell? ⟨w.heap.size,0,none⟩=some (.bool false)∧w'.cell? ⟨w.heap.size,1,none⟩=some (.slice a1 k1 c1)∧w'.cell? ⟨w.heap.size,2,none⟩=some (.int .i64 e))) (first | with_reducible exact FCD.out | with_reducible exact FC.out) (first | (go_at_call 122; (with_reducible refine (CA.out _).mono ?_); rintro q ww3 ⟨rfl,hb⟩; have F3:=h_ (F2.out.call hb); have U3:=h_ (U2.out.below hb); have FC:=h_ ((F3.out.c3 0 rfl).1); have c0_3:=F3.out.c3 0 rfl; clear hb) | (go_at_call 68; (with_reducible refine (CO.out _ _ (U1.out.drew)).mono ?_); rintro q ww2 ⟨rfl,hb⟩; have F2:=h_ ((F1.out.drew).call hb); have U2:=h_ ((U1.out.drew).below hb); have FC:=h_ ((F2.out.c3 0 rfl).1); have c0_2:=F2.out.c3 0 rfl; clear hb))
  go_wp2
  refine bodyPost_ret (v:=.tuple #[.slice a3 k3 c3,.bool true]) (by simp [results,Tryz.results86,go_sem]) rfl ?_
  exact ⟨_,rfl,U3.out,F3.out.b⟩
 ·obtain rfl:bm=true:=HBM.out
  obtain rfl:i=true:=HI.out
  clear HBM HI
  have F0:=h_ (Fx.one w 42 #[.bool false,.slice a1 k1 c1,.int .i64 e] rfl)
  have X0:=h_ (HUU.out.alloc (.cells #[.bool false,.slice a1 k1 c1,.int .i64 e] 42))
  clear HUU
  go_enter Tryz.func86,Tryz.ntmps86
  go_upto_region 1 with (fail)
  generalize World.alloc _ _=w0 at F0 X0 ⊢
  have c0_0:=F0.out.c3 0 rfl
  go_wp2_with fail
  clear c0_0
  refine (CP.out _ _ X0.out).mono ?_
  rintro q w1 ⟨u,rfl,hu,hb⟩
  have F1:=h_ (F0.out.call hb)
  have X1:=h_ (X0.out.below hb)
  clear F0 X0
  have U1:=h_ (hu)
  clear hb
  have c0_1:=F1.out.c3 0 rfl
  obtain ⟨a3,k3,c3,rfl⟩:=U1.out.form
  go_upto_region 3 with (fail)
  clear X1
  clear c0_1
  have FCD:=h_ (((F1.out.drew).c3 0 rfl).1)
  go_region_held3 (fun w'=>(w'.cell? ⟨w.heap.size,0,none⟩=some (.bool false)∧w'.cell? ⟨w.heap.size,1,none⟩=some (.slice a1 k1 c1)∧w'.cell? ⟨w.heap.size,2,none⟩=some (.int .i64 e))) (first | with_reducible exact FCD.out | with_reducible exact FC.out) (first | (go_at_call 122; (with_reducible refine (CA.out _).mono ?_); rintro q ww3 ⟨rfl,hb⟩; have F3:=h_ (F2.out.call hb); have U3:=h_ (U2.out.below hb); have FC:=h_ ((F3.out.c3 0 rfl).1); have c0_3:=F3.out.c3 0 rfl; clear hb) | (go_at_call 68; (with_reducible refine (CO.out _ _ (U1.out.drew)).mono ?_); rintro q ww2 ⟨rfl,hb⟩; have F2:=h_ ((F1.out.drew).call hb); have U2:=h_ ((U1.out.drew).below hb); have FC:=h_ ((F2.out.c3 0 rfl).1); have c0_2:=F2.out.c3 0 rfl; clear hb))
  go_wp2_with fail
  clear c0_3
  refine (of_any (n:=1) (by decide) U3.out.tab).mono ?_
  rintro q w4 ⟨u,rfl,hu,hb⟩
  have F4:=h_ (F3.out.call hb)
  have U4:=h_ (U3.out.below hb)
  clear F3 U3
  have O4:=h_ (hu)
  clear hb
  have c0_4:=F4.out.c3 0 rfl
  obtain ⟨a4,k4,c4,rfl⟩:=O4.out.form
  go_wp2_with fail
  clear c0_4
  refine (add_r (U4.out.rd hbl) (O4.out.rd (by decide))).mono ?_
  rintro q w5 ⟨u,rfl,hu,hb⟩
  have F5:=h_ (F4.out.call hb)
  have U5:=h_ (U4.out.below hb)
  have O5:=h_ (O4.out.below hb)
  clear F4 U4 O4
  have V5:=h_ (hu)
  clear hb
  have c0_5:=F5.out.c3 0 rfl
  obtain ⟨a5,k5,c5,rfl⟩:=V5.out.form
  go_wp2
  refine bodyPost_ret (v:=.tuple #[.slice a5 k5 c5,.bool true]) (by simp [results,Tryz.results86,go_sem]) rfl ?_
  exact ⟨_,rfl,V5.out,F5.out.b⟩
 ·obtain rfl:bm=true:=HBM.out
  obtain rfl:i=true:=HI.out
  clear HBM HI
  have F0:=h_ (Fx.one w 42 #[.bool false,.slice a1 k1 c1,.int .i64 e] rfl)
  have X0:=h_ (HUU.out.alloc (.cells #[.bool false,.slice a1 k1 c1,.int .i64 e] 42))
  clear HUU
  go_enter Tryz.func86,Tryz.ntmps86
  go_upto_region 1 with (fail)
  generalize World.alloc _ _=w0 at F0 X0 ⊢
  have c0_0:=F0.out.c3 0 rfl
  go_wp2_with fail
  clear c0_0
  refine (CP.out _ _ X0.out).mono ?_
  rintro q w1 ⟨u,rfl,hu,hb⟩
  have F1:=h_ (F0.out.call hb)
  have X1:=h_ (X0.out.below hb)
  clear F0 X0
  have U1:=h_ (hu)
  clear hb
  have c0_1:=F1.out.c3 0 rfl
  obtain ⟨a3,k3,c3,rfl⟩:=U1.out.form
  go_upto_region 3 with (fail)
  clear X1
  clear c0_1
  have FCD:=h_ (((F1.out.drew).c3 0 rfl).1)
  go_region_held3 (fun w'=>(w'.cell? ⟨w.heap.size,0,none⟩=some (.bool false)∧w'.cell? ⟨w.heap.size,1,none⟩=some (.slice a1 k1 c1)∧w'.cell? ⟨w.heap.size,2,none⟩=some (.int .i64 e))) (first | with_reducible exact FCD.out | with_reducible exact FC.out) (first | (go_at_call 122; (with_reducible refine (CA.out _).mono ?_); rintro q ww3 ⟨rfl,hb⟩; have F3:=h_ (F2.out.call hb); have U3:=h_ (U2.out.below hb); have FC:=h_ ((F3.out.c3 0 rfl).1); have c0_3:=F3.out.c3 0 rfl; clear hb) | (go_at_call 68; (with_reducible refine (CO.out _ _ (U1.out.drew)).mono ?_); rintro q ww2 ⟨rfl,hb⟩; have F2:=h_ ((F1.out.drew).call hb); have U2:=h_ ((U1.out.drew).below hb); have FC:=h_ ((F2.out.c3 0 rfl).1); have c0_2:=F2.out.c3 0 rfl; clear hb))
  go_wp2
  refine bodyPost_ret (v:=.tuple #[.slice a3 k3 c3,.bool true]) (by simp [results,Tryz.results86,go_sem]) rfl ?_
  exact ⟨_,rfl,U3.out,F3.out.b⟩
 ·obtain rfl:bm=true:=HBM.out
  obtain rfl:i=true:=HI.out
  clear HBM HI
  have F0:=h_ (Fx.one w 42 #[.bool false,.slice a1 k1 c1,.int .i64 e] rfl)
  have X0:=h_ (HUU.out.alloc (.cells #[.bool false,.slice a1 k1 c1,.int .i64 e] 42))
  clear HUU
  go_enter Tryz.func86,Tryz.ntmps86
  go_upto_region 1 with (fail)
  generalize World.alloc _ _=w0 at F0 X0 ⊢
  have c0_0:=F0.out.c3 0 rfl
  go_wp2_with fail
  clear c0_0
  refine (CP.out _ _ X0.out).mono ?_
  rintro q w1 ⟨u,rfl,hu,hb⟩
  have F1:=h_ (F0.out.call hb)
  have X1:=h_ (X0.out.below hb)
  clear F0 X0
  have U1:=h_ (hu)
  clear hb
  have c0_1:=F1.out.c3 0 rfl
  obtain ⟨a3,k3,c3,rfl⟩:=U1.out.form
  go_upto_region 3 with (fail)
  clear X1
  clear c0_1
  have FCD:=h_ (((F1.out.drew).c3 0 rfl).1)
  go_region_held3 (fun w'=>(w'.cell? ⟨w.heap.size,0,none⟩=some (.bool false)∧w'.cell? ⟨w.heap.size,1,none⟩=some (.slice a1 k1 c1)∧w'.cell? ⟨w.heap.size,2,none⟩=some (.int .i64 e))) (first | with_reducible exact FCD.out | with_reducible exact FC.out) (first | (go_at_call 122; (with_reducible refine (CA.out _).mono ?_); rintro q ww3 ⟨rfl,hb⟩; have F3:=h_ (F2.out.call hb); have U3:=h_ (U2.out.below hb); have FC:=h_ ((F3.out.c3 0 rfl).1); have c0_3:=F3.out.c3 0 rfl; clear hb) | (go_at_call 68; (with_reducible refine (CO.out _ _ (U1.out.drew)).mono ?_); rintro q ww2 ⟨rfl,hb⟩; have F2:=h_ ((F1.out.drew).call hb); have U2:=h_ ((U1.out.drew).below hb); have FC:=h_ ((F2.out.c3 0 rfl).1); have c0_2:=F2.out.c3 0 rfl; clear hb))
  go_wp2_with fail
  clear c0_3
  refine (of_any (n:=1) (by decide) U3.out.tab).mono ?_
  rintro q w4 ⟨u,rfl,hu,hb⟩
  have F4:=h_ (F3.out.call hb)
  have U4:=h_ (U3.out.below hb)
  clear F3 U3
  have O4:=h_ (hu)
  clear hb
  have c0_4:=F4.out.c3 0 rfl
  obtain ⟨a4,k4,c4,rfl⟩:=O4.out.form
  go_wp2_with fail
  clear c0_4
  refine (add_r (U4.out.rd hbl) (O4.out.rd (by decide))).mono ?_
  rintro q w5 ⟨u,rfl,hu,hb⟩
  have F5:=h_ (F4.out.call hb)
  have U5:=h_ (U4.out.below hb)
  have O5:=h_ (O4.out.below hb)
  clear F4 U4 O4
  have V5:=h_ (hu)
  clear hb
  have c0_5:=F5.out.c3 0 rfl
  obtain ⟨a5,k5,c5,rfl⟩:=V5.out.form
  go_wp2
  refine bodyPost_ret (v:=.tuple #[.slice a5 k5 c5,.bool true]) (by simp [results,Tryz.results86,go_sem]) rfl ?_
  exact ⟨_,rfl,V5.out,F5.out.b⟩
 ·obtain rfl:bm=true:=HBM.out
  obtain rfl:i=true:=HI.out
  clear HBM HI
  have F0:=h_ (Fx.one w 42 #[.bool false,.slice a1 k1 c1,.int .i64 e] rfl)
  have X0:=h_ (HUU.out.alloc (.cells #[.bool false,.slice a1 k1 c1,.int .i64 e] 42))
  clear HUU
  go_enter Tryz.func86,Tryz.ntmps86
  go_upto_region 1 with (fail)
  generalize World.alloc _ _=w0 at F0 X0 ⊢
  have c0_0:=F0.out.c3 0 rfl
  go_wp2_with fail
  clear c0_0
  refine (CP.out _ _ X0.out).mono ?_
  rintro q w1 ⟨u,rfl,hu,hb⟩
  have F1:=h_ (F0.out.call hb)
  have X1:=h_ (X0.out.below hb)
  clear F0 X0
  have U1:=h_ (hu)
  clear hb
  have c0_1:=F1.out.c3 0 rfl
  obtain ⟨a3,k3,c3,rfl⟩:=U1.out.form
  go_upto_region 3 with (fail)
  clear X1
  clear c0_1
  have FCD:=h_ (((F1.out.drew).c3 0 rfl).1)
  go_region_held3 (fun w'=>(w'.cell? ⟨w.heap.size,0,none⟩=some (.bool false)∧w'.cell? ⟨w.heap.size,1,none⟩=some (.slice a1 k1 c1)∧w'.cell? ⟨w.heap.size,2,none⟩=some (.int .i64 e))) (first | with_reducible exact FCD.out | with_reducible exact FC.out) (first | (go_at_call 122; (with_reducible refine (CA.out _).mono ?_); rintro q ww3 ⟨rfl,hb⟩; have F3:=h_ (F2.out.call hb); have U3:=h_ (U2.out.below hb); have FC:=h_ ((F3.out.c3 0 rfl).1); have c0_3:=F3.out.c3 0 rfl; clear hb) | (go_at_call 68; (with_reducible refine (CO.out _ _ (U1.out.drew)).mono ?_); rintro q ww2 ⟨rfl,hb⟩; have F2:=h_ ((F1.out.drew).call hb); have U2:=h_ ((U1.out.drew).below hb); have FC:=h_ ((F2.out.c3 0 rfl).1); have c0_2:=F2.out.c3 0 rfl; clear hb))
  go_wp2
  refine bodyPost_ret (v:=.tuple #[.slice a3 k3 c3,.bool true]) (by simp [results,Tryz.results86,go_sem]) rfl ?_
  exact ⟨_,rfl,U3.out,F3.out.b⟩
 ·obtain rfl:bm=true:=HBM.out
  obtain rfl:i=true:=HI.out
  clear HBM HI
  have F0:=h_ (Fx.one w 42 #[.bool false,.slice a1 k1 c1,.int .i64 e] rfl)
  have X0:=h_ (HUU.out.alloc (.cells #[.bool false,.slice a1 k1 c1,.int .i64 e] 42))
  clear HUU
  go_enter Tryz.func86,Tryz.ntmps86
  go_upto_region 1 with (fail)
  generalize World.alloc _ _=w0 at F0 X0 ⊢
  have c0_0:=F0.out.c3 0 rfl
  go_wp2_with fail
  clear c0_0
  refine (CP.out _ _ X0.out).mono ?_
  rintro q w1 ⟨u,rfl,hu,hb⟩
  have F1:=h_ (F0.out.call hb)
  have X1:=h_ (X0.out.below hb)
  clear F0 X0
  have U1:=h_ (hu)
  clear hb
  have c0_1:=F1.out.c3 0 rfl
  obtain ⟨a3,k3,c3,rfl⟩:=U1.out.form
  go_upto_region 3 with (fail)
  clear X1
  clear c0_1
  have FCD:=h_ (((F1.out.drew).c3 0 rfl).1)
  go_region_held3 (fun w'=>(w'.cell? ⟨w.heap.size,0,none⟩=some (.bool false)∧w'.cell? ⟨w.heap.size,1,none⟩=some (.slice a1 k1 c1)∧w'.cell? ⟨w.heap.size,2,none⟩=some (.int .i64 e))) (first | with_reducible exact FCD.out | with_reducible exact FC.out) (first | (go_at_call 122; (with_reducible refine (CA.out _).mono ?_); rintro q ww3 ⟨rfl,hb⟩; have F3:=h_ (F2.out.call hb); have U3:=h_ (U2.out.below hb); have FC:=h_ ((F3.out.c3 0 rfl).1); have c0_3:=F3.out.c3 0 rfl; clear hb) | (go_at_call 68; (with_reducible refine (CO.out _ _ (U1.out.drew)).mono ?_); rintro q ww2 ⟨rfl,hb⟩; have F2:=h_ ((F1.out.drew).call hb); have U2:=h_ ((U1.out.drew).below hb); have FC:=h_ ((F2.out.c3 0 rfl).1); have c0_2:=F2.out.c3 0 rfl; clear hb))
  go_wp2_with fail
  clear c0_3
  refine (of_any (n:=1) (by decide) U3.out.tab).mono ?_
  rintro q w4 ⟨u,rfl,hu,hb⟩
  have F4:=h_ (F3.out.call hb)
  have U4:=h_ (U3.out.below hb)
  clear F3 U3
  have O4:=h_ (hu)
  clear hb
  have c0_4:=F4.out.c3 0 rfl
  obtain ⟨a4,k4,c4,rfl⟩:=O4.out.form
  go_wp2_with fail
  clear c0_4
  refine (add_r (U4.out.rd hbl) (O4.out.rd (by decide))).mono ?_
  rintro q w5 ⟨u,rfl,hu,hb⟩
  have F5:=h_ (F4.out.call hb)
  have U5:=h_ (U4.out.below hb)
  have O5:=h_ (O4.out.below hb)
  clear F4 U4 O4
  have V5:=h_ (hu)
  clear hb
  have c0_5:=F5.out.c3 0 rfl
  obtain ⟨a5,k5,c5,rfl⟩:=V5.out.form
  go_wp2
  refine bodyPost_ret (v:=.tuple #[.slice a5 k5 c5,.bool true]) (by simp [results,Tryz.results86,go_sem]) rfl ?_
  exact ⟨_,rfl,V5.out,F5.out.b⟩
 ·obtain rfl:bm=true:=HBM.out
  obtain rfl:i=true:=HI.out
  clear HBM HI
  have F0:=h_ (Fx.one w 42 #[.bool false,.slice a1 k1 c1,.int .i64 e] rfl)
  have X0:=h_ (HUU.out.alloc (.cells #[.bool false,.slice a1 k1 c1,.int .i64 e] 42))
  clear HUU
  go_enter Tryz.func86,Tryz.ntmps86
  go_upto_region 1 with (fail)
  generalize World.alloc _ _=w0 at F0 X0 ⊢
  have c0_0:=F0.out.c3 0 rfl
  go_wp2_with fail
  clear c0_0
  refine (CP.out _ _ X0.out).mono ?_
  rintro q w1 ⟨u,rfl,hu,hb⟩
  have F1:=h_ (F0.out.call hb)
  have X1:=h_ (X0.out.below hb)
  clear F0 X0
  have U1:=h_ (hu)
  clear hb
  have c0_1:=F1.out.c3 0 rfl
  obtain ⟨a3,k3,c3,rfl⟩:=U1.out.form
  go_upto_region 3 with (fail)
  clear X1
  clear c0_1
  have FCD:=h_ (((F1.out.drew).c3 0 rfl).1)
  go_region_held3 (fun w'=>(w'.cell? ⟨w.heap.size,0,none⟩=some (.bool false)∧w'.cell? ⟨w.heap.size,1,none⟩=some (.slice a1 k1 c1)∧w'.cell? ⟨w.heap.size,2,none⟩=some (.int .i64 e))) (first | with_reducible exact FCD.out | with_reducible exact FC.out) (first | (go_at_call 122; (with_reducible refine (CA.out _).mono ?_); rintro q ww3 ⟨rfl,hb⟩; have F3:=h_ (F2.out.call hb); have U3:=h_ (U2.out.below hb); have FC:=h_ ((F3.out.c3 0 rfl).1); have c0_3:=F3.out.c3 0 rfl; clear hb) | (go_at_call 68; (with_reducible refine (CO.out _ _ (U1.out.drew)).mono ?_); rintro q ww2 ⟨rfl,hb⟩; have F2:=h_ ((F1.out.drew).call hb); have U2:=h_ ((U1.out.drew).below hb); have FC:=h_ ((F2.out.c3 0 rfl).1); have c0_2:=F2.out.c3 0 rfl; clear hb))
  go_wp2
  refine bodyPost_ret (v:=.tuple #[.slice a3 k3 c3,.bool true]) (by simp [results,Tryz.results86,go_sem]) rfl ?_
  exact ⟨_,rfl,U3.out,F3.out.b⟩
 ·obtain rfl:bm=true:=HBM.out
  obtain rfl:i=true:=HI.out
  clear HBM HI
  have F0:=h_ (Fx.one w 42 #[.bool false,.slice a1 k1 c1,.int .i64 e] rfl)
  have X0:=h_ (HUU.out.alloc (.cells #[.bool false,.slice a1 k1 c1,.int .i64 e] 42))
  clear HUU
  go_enter Tryz.func86,Tryz.ntmps86
  go_upto_region 1 with (fail)
  generalize World.alloc _ _=w0 at F0 X0 ⊢
  have c0_0:=F0.out.c3 0 rfl
  go_wp2_with fail
  clear c0_0
  refine (CP.out _ _ X0.out).mono ?_
  rintro q w1 ⟨u,rfl,hu,hb⟩
  have F1:=h_ (F0.out.call hb)
  have X1:=h_ (X0.out.below hb)
  clear F0 X0
  have U1:=h_ (hu)
  clear hb
  have c0_1:=F1.out.c3 0 rfl
  obtain ⟨a3,k3,c3,rfl⟩:=U1.out.form
  go_upto_region 3 with (fail)
  clear X1
  clear c0_1
  have FCD:=h_ (((F1.out.drew).c3 0 rfl).1)
  go_region_held3 (fun w'=>(w'.cell? ⟨w.heap.size,0,none⟩=some (.bool false)∧w'.cell? ⟨w.heap.size,1,none⟩=some (.slice a1 k1 c1)∧w'.cell? ⟨w.heap.size,2,none⟩=some (.int .i64 e))) (first | with_reducible exact FCD.out | with_reducible exact FC.out) (first | (go_at_call 122; (with_reducible refine (CA.out _).mono ?_); rintro q ww3 ⟨rfl,hb⟩; have F3:=h_ (F2.out.call hb); have U3:=h_ (U2.out.below hb); have FC:=h_ ((F3.out.c3 0 rfl).1); have c0_3:=F3.out.c3 0 rfl; clear hb) | (go_at_call 68; (with_reducible refine (CO.out _ _ (U1.out.drew)).mono ?_); rintro q ww2 ⟨rfl,hb⟩; have F2:=h_ ((F1.out.drew).call hb); have U2:=h_ ((U1.out.drew).below hb); have FC:=h_ ((F2.out.c3 0 rfl).1); have c0_2:=F2.out.c3 0 rfl; clear hb))
  go_wp2_with fail
  clear c0_3
  refine (of_any (n:=1) (by decide) U3.out.tab).mono ?_
  rintro q w4 ⟨u,rfl,hu,hb⟩
  have F4:=h_ (F3.out.call hb)
  have U4:=h_ (U3.out.below hb)
  clear F3 U3
  have O4:=h_ (hu)
  clear hb
  have c0_4:=F4.out.c3 0 rfl
  obtain ⟨a4,k4,c4,rfl⟩:=O4.out.form
  go_wp2_with fail
  clear c0_4
  refine (add_r (U4.out.rd hbl) (O4.out.rd (by decide))).mono ?_
  rintro q w5 ⟨u,rfl,hu,hb⟩
  have F5:=h_ (F4.out.call hb)
  have U5:=h_ (U4.out.below hb)
  have O5:=h_ (O4.out.below hb)
  clear F4 U4 O4
  have V5:=h_ (hu)
  clear hb
  have c0_5:=F5.out.c3 0 rfl
  obtain ⟨a5,k5,c5,rfl⟩:=V5.out.form
  go_wp2
  refine bodyPost_ret (v:=.tuple #[.slice a5 k5 c5,.bool true]) (by simp [results,Tryz.results86,go_sem]) rfl ?_
  exact ⟨_,rfl,V5.out,F5.out.b⟩
 ·obtain rfl:bm=true:=HBM.out
  obtain rfl:i=true:=HI.out
  clear HBM HI
  have F0:=h_ (Fx.one w 42 #[.bool false,.slice a1 k1 c1,.int .i64 e] rfl)
  have X0:=h_ (HUU.out.alloc (.cells #[.bool false,.slice a1 k1 c1,.int .i64 e] 42))
  clear HUU
  go_enter Tryz.func86,Tryz.ntmps86
  go_upto_region 1 with (fail)
  generalize World.alloc _ _=w0 at F0 X0 ⊢
  have c0_0:=F0.out.c3 0 rfl
  go_wp2_with fail
  clear c0_0
  refine (CP.out _ _ X0.out).mono ?_
  rintro q w1 ⟨u,rfl,hu,hb⟩
  have F1:=h_ (F0.out.call hb)
  have X1:=h_ (X0.out.below hb)
  clear F0 X0
  have U1:=h_ (hu)
  clear hb
  have c0_1:=F1.out.c3 0 rfl
  obtain ⟨a3,k3,c3,rfl⟩:=U1.out.form
  go_upto_region 3 with (fail)
  clear X1
  clear c0_1
  have FCD:=h_ (((F1.out.drew).c3 0 rfl).1)
  go_region_held3 (fun w'=>(w'.cell? ⟨w.heap.size,0,none⟩=some (.bool false)∧w'.cell? ⟨w.heap.size,1,none⟩=some (.slice a1 k1 c1)∧w'.cell? ⟨w.heap.size,2,none⟩=some (.int .i64 e))) (first | with_reducible exact FCD.out | with_reducible exact FC.out) (first | (go_at_call 122; (with_reducible refine (CA.out _).mono ?_); rintro q ww3 ⟨rfl,hb⟩; have F3:=h_ (F2.out.call hb); have U3:=h_ (U2.out.below hb); have FC:=h_ ((F3.out.c3 0 rfl).1); have c0_3:=F3.out.c3 0 rfl; clear hb) | (go_at_call 68; (with_reducible refine (CO.out _ _ (U1.out.drew)).mono ?_); rintro q ww2 ⟨rfl,hb⟩; have F2:=h_ ((F1.out.drew).call hb); have U2:=h_ ((U1.out.drew).below hb); have FC:=h_ ((F2.out.c3 0 rfl).1); have c0_2:=F2.out.c3 0 rfl; clear hb))
  go_wp2
  refine bodyPost_ret (v:=.tuple #[.slice a3 k3 c3,.bool true]) (by simp [results,Tryz.results86,go_sem]) rfl ?_
  exact ⟨_,rfl,U3.out,F3.out.b⟩
 ·obtain rfl:bm=true:=HBM.out
  obtain rfl:i=true:=HI.out
  clear HBM HI
  have F0:=h_ (Fx.one w 42 #[.bool false,.slice a1 k1 c1,.int .i64 e] rfl)
  have X0:=h_ (HUU.out.alloc (.cells #[.bool false,.slice a1 k1 c1,.int .i64 e] 42))
  clear HUU
  go_enter Tryz.func86,Tryz.ntmps86
  go_upto_region 1 with (fail)
  generalize World.alloc _ _=w0 at F0 X0 ⊢
  have c0_0:=F0.out.c3 0 rfl
  go_wp2_with fail
  clear c0_0
  refine (CP.out _ _ X0.out).mono ?_
  rintro q w1 ⟨u,rfl,hu,hb⟩
  have F1:=h_ (F0.out.call hb)
  have X1:=h_ (X0.out.below hb)
  clear F0 X0
  have U1:=h_ (hu)
  clear hb
  have c0_1:=F1.out.c3 0 rfl
  obtain ⟨a3,k3,c3,rfl⟩:=U1.out.form
  go_upto_region 3 with (fail)
  clear X1
  clear c0_1
  have FCD:=h_ (((F1.out.drew).c3 0 rfl).1)
  go_region_held3 (fun w'=>(w'.cell? ⟨w.heap.size,0,none⟩=some (.bool false)∧w'.cell? ⟨w.heap.size,1,none⟩=some (.slice a1 k1 c1)∧w'.cell? ⟨w.heap.size,2,none⟩=some (.int .i64 e))) (first | with_reducible exact FCD.out | with_reducible exact FC.out) (first | (go_at_call 122; (with_reducible refine (CA.out _).mono ?_); rintro q ww3 ⟨rfl,hb⟩; have F3:=h_ (F2.out.call hb); have U3:=h_ (U2.out.below hb); have FC:=h_ ((F3.out.c3 0 rfl).1); have c0_3:=F3.out.c3 0 rfl; clear hb) | (go_at_call 68; (with_reducible refine (CO.out _ _ (U1.out.drew)).mono ?_); rintro q ww2 ⟨rfl,hb⟩; have F2:=h_ ((F1.out.drew).call hb); have U2:=h_ ((U1.out.drew).below hb); have FC:=h_ ((F2.out.c3 0 rfl).1); have c0_2:=F2.out.c3 0 rfl; clear hb))
  go_wp2_with fail
  clear c0_3
  refine (of_any (n:=1) (by decide) U3.out.tab).mono ?_
  rintro q w4 ⟨u,rfl,hu,hb⟩
  have F4:=h_ (F3.out.call hb)
  have U4:=h_ (U3.out.below hb)
  clear F3 U3
  have O4:=h_ (hu)
  clear hb
  have c0_4:=F4.out.c3 0 rfl
  obtain ⟨a4,k4,c4,rfl⟩:=O4.out.form
  go_wp2_with fail
  clear c0_4
  refine (add_r (U4.out.rd hbl) (O4.out.rd (by decide))).mono ?_
  rintro q w5 ⟨u,rfl,hu,hb⟩
  have F5:=h_ (F4.out.call hb)
  have U5:=h_ (U4.out.below hb)
  have O5:=h_ (O4.out.below hb)
  clear F4 U4 O4
  have V5:=h_ (hu)
  clear hb
  have c0_5:=F5.out.c3 0 rfl
  obtain ⟨a5,k5,c5,rfl⟩:=V5.out.form
  go_wp2
  refine bodyPost_ret (v:=.tuple #[.slice a5 k5 c5,.bool true]) (by simp [results,Tryz.results86,go_sem]) rfl ?_
  exact ⟨_,rfl,V5.out,F5.out.b⟩
 ·obtain rfl:bm=true:=HBM.out
  obtain rfl:i=true:=HI.out
  clear HBM HI
  have F0:=h_ (Fx.one w 42 #[.bool false,.slice a1 k1 c1,.int .i64 e] rfl)
  have X0:=h_ (HUU.out.alloc (.cells #[.bool false,.slice a1 k1 c1,.int .i64 e] 42))
  clear HUU
  go_enter Tryz.func86,Tryz.ntmps86
  go_upto_region 1 with (fail)
  generalize World.alloc _ _=w0 at F0 X0 ⊢
  have c0_0:=F0.out.c3 0 rfl
  go_wp2_with fail
  clear c0_0
  refine (CP.out _ _ X0.out).mono ?_
  rintro q w1 ⟨u,rfl,hu,hb⟩
  have F1:=h_ (F0.out.call hb)
  have X1:=h_ (X0.out.below hb)
  clear F0 X0
  have U1:=h_ (hu)
  clear hb
  have c0_1:=F1.out.c3 0 rfl
  obtain ⟨a3,k3,c3,rfl⟩:=U1.out.form
  go_upto_region 3 with (fail)
  clear X1
  clear c0_1
  have FCD:=h_ (((F1.out.drew).c3 0 rfl).1)
  go_region_held3 (fun w'=>(w'.cell? ⟨w.heap.size,0,none⟩=some (.bool false)∧w'.cell? ⟨w.heap.size,1,none⟩=some (.slice a1 k1 c1)∧w'.cell? ⟨w.heap.size,2,none⟩=some (.int .i64 e))) (first | with_reducible exact FCD.out | with_reducible exact FC.out) (first | (go_at_call 122; (with_reducible refine (CA.out _).mono ?_); rintro q ww3 ⟨rfl,hb⟩; have F3:=h_ (F2.out.call hb); have U3:=h_ (U2.out.below hb); have FC:=h_ ((F3.out.c3 0 rfl).1); have c0_3:=F3.out.c3 0 rfl; clear hb) | (go_at_call 68; (with_reducible refine (CO.out _ _ (U1.out.drew)).mono ?_); rintro q ww2 ⟨rfl,hb⟩; have F2:=h_ ((F1.out.drew).call hb); have U2:=h_ ((U1.out.drew).below hb); have FC:=h_ ((F2.out.c3 0 rfl).1); have c0_2:=F2.out.c3 0 rfl; clear hb))
  go_wp2
  refine bodyPost_ret (v:=.tuple #[.slice a3 k3 c3,.bool true]) (by simp [results,Tryz.results86,go_sem]) rfl ?_
  exact ⟨_,rfl,U3.out,F3.out.b⟩
 ·obtain rfl:bm=true:=HBM.out
  obtain rfl:i=true:=HI.out
  clear HBM HI
  have F0:=h_ (Fx.one w 42 #[.bool false,.slice a1 k1 c1,.int .i64 e] rfl)
  have X0:=h_ (HUU.out.alloc (.cells #[.bool false,.slice a1 k1 c1,.int .i64 e] 42))
  clear HUU
  go_enter Tryz.func86,Tryz.ntmps86
  go_upto_region 1 with (fail)
  generalize World.alloc _ _=w0 at F0 X0 ⊢
  have c0_0:=F0.out.c3 0 rfl
  go_wp2_with fail
  clear c0_0
  refine (CP.out _ _ X0.out).mono ?_
  rintro q w1 ⟨u,rfl,hu,hb⟩
  have F1:=h_ (F0.out.call hb)
  have X1:=h_ (X0.out.below hb)
  clear F0 X0
  have U1:=h_ (hu)
  clear hb
  have c0_1:=F1.out.c3 0 rfl
  obtain ⟨a3,k3,c3,rfl⟩:=U1.out.form
  go_upto_region 3 with (fail)
  clear X1
  clear c0_1
  have FCD:=h_ (((F1.out.drew).c3 0 rfl).1)
  go_region_held3 (fun w'=>(w'.cell? ⟨w.heap.size,0,none⟩=some (.bool false)∧w'.cell? ⟨w.heap.size,1,none⟩=some (.slice a1 k1 c1)∧w'.cell? ⟨w.heap.size,2,none⟩=some (.int .i64 e))) (first | with_reducible exact FCD.out | with_reducible exact FC.out) (first | (go_at_call 122; (with_reducible refine (CA.out _).mono ?_); rintro q ww3 ⟨rfl,hb⟩; have F3:=h_ (F2.out.call hb); have U3:=h_ (U2.out.below hb); have FC:=h_ ((F3.out.c3 0 rfl).1); have c0_3:=F3.out.c3 0 rfl; clear hb) | (go_at_call 68; (with_reducible refine (CO.out _ _ (U1.out.drew)).mono ?_); rintro q ww2 ⟨rfl,hb⟩; have F2:=h_ ((F1.out.drew).call hb); have U2:=h_ ((U1.out.drew).below hb); have FC:=h_ ((F2.out.c3 0 rfl).1); have c0_2:=F2.out.c3 0 rfl; clear hb))
  go_wp2_with fail
  clear c0_3
  refine (of_any (n:=1) (by decide) U3.out.tab).mono ?_
  rintro q w4 ⟨u,rfl,hu,hb⟩
  have F4:=h_ (F3.out.call hb)
  have U4:=h_ (U3.out.below hb)
  clear F3 U3
  have O4:=h_ (hu)
  clear hb
  have c0_4:=F4.out.c3 0 rfl
  obtain ⟨a4,k4,c4,rfl⟩:=O4.out.form
  go_wp2_with fail
  clear c0_4
  refine (add_r (U4.out.rd hbl) (O4.out.rd (by decide))).mono ?_
  rintro q w5 ⟨u,rfl,hu,hb⟩
  have F5:=h_ (F4.out.call hb)
  have U5:=h_ (U4.out.below hb)
  have O5:=h_ (O4.out.below hb)
  clear F4 U4 O4
  have V5:=h_ (hu)
  clear hb
  have c0_5:=F5.out.c3 0 rfl
  obtain ⟨a5,k5,c5,rfl⟩:=V5.out.form
  go_wp2
  refine bodyPost_ret (v:=.tuple #[.slice a5 k5 c5,.bool true]) (by simp [results,Tryz.results86,go_sem]) rfl ?_
  exact ⟨_,rfl,V5.out,F5.out.b⟩
theorem rright_r {w:World} {u:Value} {d:Dn} (hu:Ry w u d) (sd:Sd d) (h0:(bareN d).m ≠ 0) (more:Bool) (z:Int) (hz:0≤z∧z≤3) :
  Calls Tryz.prog 82 #[u,.bool more,.int .i64 z] w fun e w'=>∃ x,e=.returned (.tuple #[x,.bool true])∧Cy w' x (bareN d)∧Below w.heap.size w w':=by
 have CA:=h_ (fun w (h:Ry w u d)=>Bare_s h sd)
 obtain ⟨a1,k1,c1,rfl⟩:=hu.form
 generalize bareN d=D at *
 obtain ⟨n,m,e⟩:=D
 simp only at h0
 have z1:decide ((0:Int)≤z)=true:=decide_eq_true hz.1
 have z2:decide (z≤(3:Int))=true:=decide_eq_true hz.2
 have HUU:=h_ hu
 have HZ:=h_ h0
 clear hu sd h0
 obtain ⟨hz1,hz2⟩:=hz
 cases more
 ·have F0:=h_ (Fx.two w 42 #[.bool d.neg,.slice a1 k1 c1,.int .i64 d.e] 42 #[.bool false,.slice none 0 0,.int .i64 0] rfl rfl)
  have X0:=h_ ((HUU.out.alloc (.cells #[.bool d.neg,.slice a1 k1 c1,.int .i64 d.e] 42)).alloc (.cells #[.bool false,.slice none 0 0,.int .i64 0] 42))
  clear HUU
  go_enter Tryz.func82,Tryz.ntmps82
  go_upto_region 1 with (fail)
  generalize World.alloc (World.alloc _ _) _=w0 at F0 X0 ⊢
  have c0_0:=F0.out.c3 0 rfl
  have c1_0:=F0.out.c3 1 rfl
  go_wp2_with fail
  clear c0_0 c1_0
  refine (CA.out _ X0.out).mono ?_
  rintro q w1 ⟨u,rfl,hu,hb⟩
  have F1:=h_ (F0.out.call hb)
  have X1:=h_ (X0.out.below hb)
  clear F0 X0
  have U1:=h_ (hu)
  clear hb
  have c0_1:=F1.out.c3 0 rfl
  have c1_1:=F1.out.c3 1 rfl
  obtain ⟨a3,k3,c3,rfl⟩:=U1.out.fm
  have zk:((k3:Int) == 0)=false:=by rw [beq_eq_false_iff_ne]; intro h; exact HZ.out (U1.out.dm.len0.2 (by omega))
  go_upto_region 2 with (fail)
  clear X1
  clear c0_1 c1_1
  obtain ⟨f,p⟩:=F1.out.s3 0 rfl (.bool n) (.slice a3 k3 c3) (.int .i64 e) rfl rfl rfl
  generalize (World.setCell (World.setCell (World.setCell _ _ _) _ _) _ _)=W at f p ⊢
  have F2:=h_ (f)
  have U2:=h_ (U1.out.kp p)
  clear F1 U1
  clear f p
  simp only [List.set_cons_zero] at F2
  have c0_2:=F2.out.c3 0 rfl
  have c1_2:=F2.out.c3 1 rfl
  have D2:=h_ F2.out.drew
  have d0:=D2.out.c3 0 rfl
  have d1:=D2.out.c3 1 rfl
  go_region
  all_goals
   go_wp2
   obtain ⟨f0,p0⟩:=F2.out.s3 1 rfl (.bool n) (.slice a3 k3 c3) (.int .i64 e) rfl rfl rfl
   have p:=(p0).trans (Kp.drew _)
   have f:=f0.drew
   clear f0 p0
   generalize World.drew (World.setCell (World.setCell (World.setCell _ _ _) _ _) _ _)=W at f p ⊢
   have g1:=f.c3 1 rfl
   refine bodyPost_ret (v:=.tuple #[.agg #[.bool n,.slice a3 k3 c3,.int .i64 e],.bool true]) (by simp [results,Tryz.results82,go_sem,g1]) rfl ?_
   exact ⟨_,rfl,U2.out.kp p,f.b⟩
 ·have F0:=h_ (Fx.two w 42 #[.bool d.neg,.slice a1 k1 c1,.int .i64 d.e] 42 #[.bool false,.slice none 0 0,.int .i64 0] rfl rfl)
  have X0:=h_ ((HUU.out.alloc (.cells #[.bool d.neg,.slice a1 k1 c1,.int .i64 d.e] 42)).alloc (.cells #[.bool false,.slice none 0 0,.int .i64 0] 42))
  clear HUU
  go_enter Tryz.func82,Tryz.ntmps82
  go_upto_region 1 with (fail)
  generalize World.alloc (World.alloc _ _) _=w0 at F0 X0 ⊢
  have c0_0:=F0.out.c3 0 rfl
  have c1_0:=F0.out.c3 1 rfl
  go_wp2_with fail
  clear c0_0 c1_0
  refine (CA.out _ X0.out).mono ?_
  rintro q w1 ⟨u,rfl,hu,hb⟩
  have F1:=h_ (F0.out.call hb)
  have X1:=h_ (X0.out.below hb)
  clear F0 X0
  have U1:=h_ (hu)
  clear hb
  have c0_1:=F1.out.c3 0 rfl
  have c1_1:=F1.out.c3 1 rfl
  obtain ⟨a3,k3,c3,rfl⟩:=U1.out.fm
  have zk:((k3:Int) == 0)=false:=by rw [beq_eq_false_iff_ne]; intro h; exact HZ.out (U1.out.dm.len0.2 (by omega))
  go_upto_region 2 with (fail)
  clear X1
  clear c0_1 c1_1
  obtain ⟨f,p⟩:=F1.out.s3 0 rfl (.bool n) (.slice a3 k3 c3) (.int .i64 e) rfl rfl rfl
  generalize (World.setCell (World.setCell (World.setCell _ _ _) _ _) _ _)=W at f p ⊢
  have F2:=h_ (f)
  have U2:=h_ (U1.out.kp p)
  clear F1 U1
  clear f p
  simp only [List.set_cons_zero] at F2
  have c0_2:=F2.out.c3 0 rfl
  have c1_2:=F2.out.c3 1 rfl
  have FC:=h_ (F2.out.c3 0 rfl).1
  have FCD:=h_ (F2.out.drew.c3 0 rfl).1
  have d1:=F2.out.drew.c3 1 rfl
  go_region_held3 (fun w'=>w'.cell? ⟨w.heap.size,0,none⟩=some (.bool n)∧w'.cell? ⟨w.heap.size,1,none⟩=some (.slice a3 k3 c3)∧w'.cell? ⟨w.heap.size,2,none⟩=some (.int .i64 e)) (first | with_reducible exact FCD.out | with_reducible exact FC.out | exact ((F2.out.drew.s3 1 rfl (.bool n) (.slice a3 k3 c3) (.int .i64 e) rfl rfl rfl).1.c3 0 rfl).1) (first | fail)
  go_wp2
  obtain ⟨f0,p0⟩:=F2.out.s3 1 rfl (.bool n) (.slice a3 k3 c3) (.int .i64 e) rfl rfl rfl
  have p:=(p0).trans (Kp.drew _)
  have f:=f0.drew
  clear f0 p0
  generalize World.drew (World.setCell (World.setCell (World.setCell _ _ _) _ _) _ _)=W at f p ⊢
  have g1:=f.c3 1 rfl
  refine bodyPost_ret (v:=.tuple #[.agg #[.bool n,.slice a3 k3 c3,.int .i64 e],.bool true]) (by simp [results,Tryz.results82,go_sem,g1]) rfl ?_
  exact ⟨_,rfl,U2.out.kp p,f.b⟩
def exactB (x:Nat) (un:Int):Int:=bits .or .u64 (bits .and .u64 (x:Int) 4503599627370495) (IntKind.u64.wrap (IntKind.u64.wrap (wrap64 (un+1075)) * 4503599627370496))
theorem exact_r {w:World} {u:Value} {d:Dn} (hu:Ry w u d) (sd:Sd d) (hneg:(bareN d).neg=false) (h0:d.m ≠ 0) (t:Int) (ht:t=topN d) (htb:-1000≤t∧t≤1000) (k:Nat) (hk:(k:Int)=(bareN d).e - (t - 52)) (x:Nat) (hx:x=(bareN d).m * 2^k) (hx1:4503599627370496≤x) (hx2:x < 9007199254740992) :
  Calls Tryz.prog 87 #[u] w fun e w'=>e=.returned (.tuple #[.int .u64 (exactB x (t - 52)),.bool true])∧Below w.heap.size w w':=by
 have CT:=h_ (fun w (h:Ry w u d)=>Top_d h)
 have CA:=h_ (fun w (h:Ry w u d)=>Bare_s h sd)
 rw [← ht,decide_eq_true h0] at CT
 have bd:=sd.bare
 obtain ⟨a1,k1,c1,rfl⟩:=hu.form
 generalize bareN d=D at *
 obtain ⟨n,m,e⟩:=D
 simp only at hneg hk hx bd
 subst hneg
 have CS:=h_ (fun w u (h:Dg w u m)=>shl_s (h.rd (by omega)) k (by omega))
 rw [← hx] at CS
 have CM:=h_ (fun w u (h:Dg w u x)=>small_r (h.rd (Nat.le_trans (bl64 (by omega)) (by decide))))
 rw [if_pos (show x < 18446744073709551616 by omega),decide_eq_true (show x < 18446744073709551616 by omega)] at CM
 obtain ⟨un,hun⟩:∃ un,un=t - 52:=⟨_,rfl⟩
 have q0:IntKind.i64.wrap (t - 52)=un:=by rw [IntWalk.i64_in _ (by omega)]; exact hun.symm
 have q1:max un (-1074)=un:=by omega
 have z1:decide (1023 < t)=false:=decide_eq_false (by omega)
 have z2:decide (e < un)=false:=decide_eq_false (by omega)
 have q2:IntKind.i64.wrap (e - un)=(k:Int):=by rw [IntWalk.i64_in _ (by omega)]; omega
 have z3:decide (4503599627370496≤(x:Int))=true:=decide_eq_true (by omega)
 have z4:decide (4503599627370496≤x)=true:=decide_eq_true hx1
 have HUU:=h_ hu
 have HUN:=h_ hun
 clear hu sd h0 ht hk hx bd hun htb hx1 hx2
 go_enter Tryz.func87,Tryz.ntmps87
 have F0:=h_ (Fx.one w 42 #[.bool d.neg,.slice a1 k1 c1,.int .i64 d.e] rfl)
 have X0:=h_ (HUU.out.alloc (.cells #[.bool d.neg,.slice a1 k1 c1,.int .i64 d.e] 42))
 clear HUU
 go_upto_region 1 with (fail)
 generalize World.alloc _ _=w0 at F0 X0 ⊢
 have c0_0:=F0.out.c3 0 rfl
 go_wp2_with fail
 clear c0_0
 refine (CT.out _ X0.out).mono ?_
 rintro q w1 ⟨rfl,hb⟩
 have F1:=h_ (F0.out.call hb)
 have X1:=h_ (X0.out.below hb)
 clear F0 X0
 clear hb
 have c0_1:=F1.out.c3 0 rfl
 go_wp2_with fail
 clear c0_1
 refine (CA.out _ X1.out).mono ?_
 rintro q w2 ⟨u,rfl,hu,hb⟩
 have F2:=h_ (F1.out.call hb)
 have X2:=h_ (X1.out.below hb)
 clear F1 X1
 have U2:=h_ (hu)
 clear hb
 have c0_2:=F2.out.c3 0 rfl
 clear X2
 obtain ⟨a3,k3,c3,rfl⟩:=U2.out.fm
 go_upto_region 7 with (fail)
 clear c0_2
 obtain ⟨f,p⟩:=F2.out.s3 0 rfl (.bool false) (.slice a3 k3 c3) (.int .i64 e) rfl rfl rfl
 generalize (World.setCell (World.setCell (World.setCell _ _ _) _ _) _ _)=W at f p ⊢
 have F3:=h_ (f)
 have U3:=h_ (U2.out.kp p)
 clear F2 U2
 clear f p
 simp only [List.set_cons_zero] at F3
 have c0_3:=F3.out.c3 0 rfl
 go_wp2_with fail
 clear c0_3
 refine (CS.out _ _ U3.out.dm).mono ?_
 rintro q w4 ⟨u,rfl,hu,hb⟩
 have F4:=h_ (F3.out.call hb)
 have U4:=h_ (U3.out.below hb)
 clear F3 U3
 have V4:=h_ (hu)
 clear hb
 have c0_4:=F4.out.c3 0 rfl
 obtain ⟨a4,k4,c4,rfl⟩:=V4.out.form
 go_wp2_with fail
 clear c0_4
 refine (CM.out _ _ V4.out).mono ?_
 rintro q w5 ⟨rfl,hb⟩
 have F5:=h_ (F4.out.call hb)
 have U5:=h_ (U4.out.below hb)
 have V5:=h_ (V4.out.below hb)
 clear F4 U4 V4
 clear hb
 have c0_5:=F5.out.c3 0 rfl
 go_wp2
 refine bodyPost_ret (v:=.tuple #[.int .u64 (exactB x (t - 52)),.bool true]) (by rw [← HUN.out]; simp [results,Tryz.results87,go_sem,exactB]) rfl ?_
 exact ⟨rfl,F5.out.b⟩
end Go.Proofs.YtobpioceopfkpaaGreatDoor
