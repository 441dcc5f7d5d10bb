/-
  Lemmas for WholeTurned and WholeGrows and WholeRises, part 34 of 36: what the program's functions do, and plain facts; without conditions.
-/
import Derived.Test.YtobpioceopfkpaaGreatDoorM33
import Derived.BigRegion
import Derived.Test.YtobpioceopfkpaaGreatDoorM27
import Derived.Test.YtobpioceopfkpaaGreatDoorM31
import Derived.Test.YtobpioceopfkpaaGreatDoorM18
import Derived.Test.YtobpioceopfkpaaGreatDoorM19
import Derived.Test.YtobpioceopfkpaaGreatDoorM30
import Derived.Test.YtobpioceopfkpaaGreatDoorM20
set_option maxRecDepth 100000
set_option maxHeartbeats 4000000
namespace Go.Proofs.YtobpioceopfkpaaGreatDoor
open Go.RowKit
def PlanC (w:World) (g n:Nat):Prop:=∀ j,j < n→w.cell? ⟨g,j,none⟩=some (.int .i64 ((64 * 2^j:Nat):Int))
theorem PlanC.below {w w':World} {g n:Nat} (h:PlanC w g n) (hb:Below w.heap.size w w'):PlanC w' g n:=fun j hj=>cell_below hb (Nat.le_refl _) (h j hj)
theorem PlanC.alloc {w:World} {g n:Nat} (h:PlanC w g n) (o:Obj):PlanC (w.alloc o) g n:=fun j hj=>(World.cell?_alloc_lt w o _ (cell_lt (h j hj))).trans (h j hj)
theorem Plan4 (w:World):Calls Tryz.prog 41 #[.int .i64 64,.int .i64 512] w fun e w'=>∃ g cap,e=.returned (.tuple #[.slice (some ⟨g,0,none⟩) 4 cap,.int .i64 0])∧PlanC w' g 4∧Below w.heap.size w w':=by
 refine (Plan_512 w).mono ?_
 rintro e w' ⟨v,h1,h2,h3⟩
 have hh:=h2
 rcases h2.2 with ⟨_,h0⟩ | ⟨g,cap,cur,rfl,_⟩
 ·cases h0
 ·refine ⟨g,cap,h1,fun j hj=>?_,h3⟩
  rcases (by omega:j=0 ∨ j=1 ∨ j=2 ∨ j=3) with rfl | rfl | rfl | rfl <;> rw [hh.cellAt _ (by decide)] <;> rfl
theorem Plan5 (w:World):Calls Tryz.prog 41 #[.int .i64 64,.int .i64 1024] w fun e w'=>∃ g cap,e=.returned (.tuple #[.slice (some ⟨g,0,none⟩) 5 cap,.int .i64 0])∧PlanC w' g 5∧Below w.heap.size w w':=by
 refine (Plan_1024 w).mono ?_
 rintro e w' ⟨v,h1,h2,h3⟩
 have hh:=h2
 rcases h2.2 with ⟨_,h0⟩ | ⟨g,cap,cur,rfl,_⟩
 ·cases h0
 ·refine ⟨g,cap,h1,fun j hj=>?_,h3⟩
  rcases (by omega:j=0 ∨ j=1 ∨ j=2 ∨ j=3 ∨ j=4) with rfl | rfl | rfl | rfl | rfl <;> rw [hh.cellAt _ (by decide)] <;> rfl
theorem PlanN {n:Nat} {tt:Int} (hn:n=4∧tt=512 ∨ n=5∧tt=1024) (w:World):Calls Tryz.prog 41 #[.int .i64 64,.int .i64 tt] w fun e w'=>∃ g cap,e=.returned (.tuple #[.slice (some ⟨g,0,none⟩) n cap,.int .i64 0])∧PlanC w' g n∧Below w.heap.size w w':=by
 rcases hn with ⟨rfl,rfl⟩ | ⟨rfl,rfl⟩
 ·exact Plan4 w
 ·exact Plan5 w
def RetDo (PP:Nat→Int→Bool→Prop) (w:World) (e:Ending) (w':World):Prop:=∃ (B f st n:Int),e=.returned (.tuple #[.agg #[.int .u64 B,.int .u8 f,.int .i64 st],.int .i64 n,.int .i64 0])∧(st=0∧(∃ B':Nat,B=B'∧PP B' f true) ∨ st=1∧f ≠ 0∧PP 0 0 false)∧Below w.heap.size w w'
theorem whole_n {w:World} {u:Value} {y:Dn} (hu:Yk w u y) (sd:Sd y) (h0:y.m ≠ 0) (hb:bl (bareN y).m≤60)
  (co:∀ w u,Cy w u (bareN y)→Calls Tryz.prog 115 #[u] w fun e w'=>e=.returned (.tuple #[.agg #[.int .i64 0,.int .i64 0],.bool false])∧Below w.heap.size w w') :
  Calls Tryz.prog 80 #[u] w fun e w'=>e=.returned (.tuple #[.agg #[.int .i64 0,.int .i64 0],.bool false])∧Below w.heap.size w w':=by
 have CL:=h_ (fun w (h:Yk w u y)=>lowest_r h sd h0 hb)
 have CO:=h_ co
 obtain ⟨a1,k1,c1,rfl,hx⟩:=hu
 have HX:=h_ (show Yk w (.agg #[.bool y.neg,.slice a1 k1 c1,.int .i64 y.e,.int .u64 1]) y from ⟨_,_,_,rfl,hx⟩)
 generalize bareN y=D at *
 obtain ⟨n,m,e⟩:=D
 clear hx sd h0 hb co
 go_enter Tryz.func80,Tryz.ntmps80
 have F0:=h_ (Fz.two w 56 #[.bool y.neg,.slice a1 k1 c1,.int .i64 y.e,.int .u64 1] 133 #[.int .i64 0,.int .i64 0])
 have X0:=h_ ((HX.out.alloc (.cells #[.bool y.neg,.slice a1 k1 c1,.int .i64 y.e,.int .u64 1] 56)).alloc (.cells #[.int .i64 0,.int .i64 0] 133))
 clear HX
 go_upto_region 1 with (fail)
 generalize World.alloc (World.alloc _ _) _=w0 at F0 X0 ⊢
 have c0_0:=F0.out.c4 0 rfl
 have c1_0:=F0.out.c2 1 rfl
 go_wp2_with fail
 clear c0_0 c1_0
 refine (CL.out _ X0.out).mono ?_
 rintro q w1 ⟨u,rfl,hu,hb⟩
 have F1:=h_ (F0.out.call hb)
 have X1:=h_ (X0.out.below hb)
 clear F0 X0
 have U1:=h_ (hu)
 clear hb
 have c0_1:=F1.out.c4 0 rfl
 have c1_1:=F1.out.c2 1 rfl
 clear X1
 obtain ⟨a3,k3,c3,rfl,hcy⟩:=U1.out.fm
 clear U1
 have V1:=h_ hcy
 clear hcy
 go_upto_region 2 with (fail)
 clear c0_1 c1_1
 have f:=F1.out.s4 0 rfl (.bool n) (.slice a3 k3 c3) (.int .i64 e) (.int .u64 1)
 have hkp:=Kp.s4same (F1.out.box 0 _ _ _ rfl) rfl rfl rfl rfl (a:=.bool n) (b:=.slice a3 k3 c3) (c:=.int .i64 e)
 generalize World.setCell (World.setCell (World.setCell (World.setCell _ _ _) _ _) _ _) _ _=W at f hkp ⊢
 have F2:=h_ f
 have V2:=h_ (V1.out.kp hkp)
 clear F1 V1 f hkp
 simp only [List.set_cons_zero] at F2
 have c0_2:=F2.out.c4 0 rfl
 have c1_2:=F2.out.c2 1 rfl
 go_wp2_with fail
 clear c0_2 c1_2
 refine (CO.out _ _ V2.out).mono ?_
 rintro q w3 ⟨rfl,hb⟩
 have F3:=h_ (F2.out.call hb)
 have V3:=h_ (V2.out.below hb)
 clear F2 V2
 clear hb
 have c0_3:=F3.out.c4 0 rfl
 have c1_3:=F3.out.c2 1 rfl
 clear V3
 go_upto_region 3 with (fail)
 clear c0_3 c1_3
 have F4:=h_ (F3.out.new 133 #[.int .i64 0,.int .i64 0])
 obtain ⟨g4,hg4⟩:∃ g,g=(World.heap w3).size:=⟨_,rfl⟩
 rw [← hg4] at F4 ⊢
 clear hg4 F3
 simp only [List.nil_append,List.cons_append] at F4
 generalize World.alloc w3 _=W4 at F4 ⊢
 have c0_4:=F4.out.c4 0 rfl
 have c1_4:=F4.out.c2 1 rfl
 have c2_4:=F4.out.c2 2 rfl
 go_quiet (fail)
 go_wp2
 have f:=(F4.out.drewN nq).s2 1 rfl (.int .i64 0) (.int .i64 0)
 generalize World.setCell (World.setCell _ _ _) _ _=W at f ⊢
 have g1:=f.c2 1 rfl
 refine bodyPost_ret (v:=.tuple #[.agg #[.int .i64 0,.int .i64 0],.bool false]) (by simp [results,Tryz.results80,go_sem,g1]) rfl ?_
 exact ⟨rfl,f.b⟩
theorem whole_y {w:World} {u:Value} {y:Dn} (hu:Yk w u y) (sd:Sd y) (h0:y.m ≠ 0) (hb:bl (bareN y).m≤60) {M K:Int} (hK:0 < K∧K≤4611686018427387904)
  (co:∀ w u,Cy w u (bareN y)→Calls Tryz.prog 115 #[u] w fun e w'=>e=.returned (.tuple #[.agg #[.int .i64 M,.int .i64 K],.bool true])∧Below w.heap.size w w') :
  Calls Tryz.prog 80 #[u] w fun e w'=>e=.returned (.tuple #[.agg #[.int .i64 M,.int .i64 K],.bool true])∧Below w.heap.size w w':=by
 have CL:=h_ (fun w (h:Yk w u y)=>lowest_r h sd h0 hb)
 have CO:=h_ co
 obtain ⟨a1,k1,c1,rfl,hx⟩:=hu
 have HX:=h_ (show Yk w (.agg #[.bool y.neg,.slice a1 k1 c1,.int .i64 y.e,.int .u64 1]) y from ⟨_,_,_,rfl,hx⟩)
 generalize bareN y=D at *
 obtain ⟨n,m,e⟩:=D
 have z1:decide ((4611686018427387904:Int) < K)=false:=decide_eq_false (by omega)
 have q1:IntKind.i64.wrap K=K:=IntWalk.i64_in _ (by omega)
 clear hx sd h0 hb co hK
 go_enter Tryz.func80,Tryz.ntmps80
 have F0:=h_ (Fz.two w 56 #[.bool y.neg,.slice a1 k1 c1,.int .i64 y.e,.int .u64 1] 133 #[.int .i64 0,.int .i64 0])
 have X0:=h_ ((HX.out.alloc (.cells #[.bool y.neg,.slice a1 k1 c1,.int .i64 y.e,.int .u64 1] 56)).alloc (.cells #[.int .i64 0,.int .i64 0] 133))
 clear HX
 go_upto_region 1 with (fail)
 generalize World.alloc (World.alloc _ _) _=w0 at F0 X0 ⊢
 have c0_0:=F0.out.c4 0 rfl
 have c1_0:=F0.out.c2 1 rfl
 go_wp2_with fail
 clear c0_0 c1_0
 refine (CL.out _ X0.out).mono ?_
 rintro q w1 ⟨u,rfl,hu,hb⟩
 have F1:=h_ (F0.out.call hb)
 have X1:=h_ (X0.out.below hb)
 clear F0 X0
 have U1:=h_ (hu)
 clear hb
 have c0_1:=F1.out.c4 0 rfl
 have c1_1:=F1.out.c2 1 rfl
 clear X1
 obtain ⟨a3,k3,c3,rfl,hcy⟩:=U1.out.fm
 clear U1
 have V1:=h_ hcy
 clear hcy
 go_upto_region 2 with (fail)
 clear c0_1 c1_1
 have f:=F1.out.s4 0 rfl (.bool n) (.slice a3 k3 c3) (.int .i64 e) (.int .u64 1)
 have hkp:=Kp.s4same (F1.out.box 0 _ _ _ rfl) rfl rfl rfl rfl (a:=.bool n) (b:=.slice a3 k3 c3) (c:=.int .i64 e)
 generalize World.setCell (World.setCell (World.setCell (World.setCell _ _ _) _ _) _ _) _ _=W at f hkp ⊢
 have F2:=h_ f
 have V2:=h_ (V1.out.kp hkp)
 clear F1 V1 f hkp
 simp only [List.set_cons_zero] at F2
 have c0_2:=F2.out.c4 0 rfl
 have c1_2:=F2.out.c2 1 rfl
 go_wp2_with fail
 clear c0_2 c1_2
 refine (CO.out _ _ V2.out).mono ?_
 rintro q w3 ⟨rfl,hb⟩
 have F3:=h_ (F2.out.call hb)
 have V3:=h_ (V2.out.below hb)
 clear F2 V2
 clear hb
 have c0_3:=F3.out.c4 0 rfl
 have c1_3:=F3.out.c2 1 rfl
 clear V3
 go_upto_region 3 with (fail)
 clear c0_3 c1_3
 have F4:=h_ (F3.out.new 133 #[.int .i64 M,.int .i64 K])
 obtain ⟨g4,hg4⟩:∃ g,g=(World.heap w3).size:=⟨_,rfl⟩
 rw [← hg4] at F4 ⊢
 clear hg4 F3
 simp only [List.nil_append,List.cons_append] at F4
 generalize World.alloc w3 _=W4 at F4 ⊢
 have c0_4:=F4.out.c4 0 rfl
 have c1_4:=F4.out.c2 1 rfl
 have c2_4:=F4.out.c2 2 rfl
 go_quiet (fail)
 have d0:=(F4.out.drewN nq).c4 0 rfl
 have d2:=(F4.out.drewN nq).c2 2 rfl
 go_wp2
 have f:=(F4.out.drewN nq).s2 1 rfl (.int .i64 M) (.int .i64 K)
 generalize World.setCell (World.setCell _ _ _) _ _=W at f ⊢
 have g1:=f.c2 1 rfl
 refine bodyPost_ret (v:=.tuple #[.agg #[.int .i64 M,.int .i64 K],.bool true]) (by simp [results,Tryz.results80,go_sem,g1]) rfl ?_
 exact ⟨rfl,f.b⟩
theorem Exact_nog {w:World} {u:Value} {x y:Dn} {z tt:Int} (hu:Ag w u x y 1 z tt) (ok:AgOk x y 1 z tt) (hs:signA x y ≠ 0)
  (cw:∀ w u,Yk w u y→Calls Tryz.prog 80 #[u] w fun e w'=>e=.returned (.tuple #[.agg #[.int .i64 0,.int .i64 0],.bool false])∧Below w.heap.size w w') :
  Calls Tryz.prog 38 #[u] w fun e w'=>e=.returned (.tuple #[.agg #[.bool false,.slice none 0 0,.int .i64 0],.bool false])∧Below w.heap.size w w':=by
 have CR:=h_ (fun w u (h:Ag w u x y 1 z tt)=>Right_ag h ok)
 have CS:=h_ (fun w u (h:Ag w u x y 1 z tt)=>Sign_ag h ok)
 have CW:=h_ cw
 generalize signA x y=sg at *
 have z1:(sg == 0)=false:=beq_eq_false_iff_ne.2 hs
 have HU:=h_ hu
 obtain ⟨a1,k1,c1,a2,k2,c2,he,hx,hy⟩:=hu
 replace he:u=.agg #[.bool x.neg,.slice a1 k1 c1,.int .i64 x.e,.bool y.neg,.slice a2 k2 c2,.int .i64 y.e,.int .u64 1,.bool false,.int .i64 z,.int .i64 64,.int .i64 tt]:=he
 subst he
 obtain ⟨xn,xm,xe⟩:=x
 obtain ⟨yn,ym,ye⟩:=y
 simp only at hx hy
 have HX:=h_ hx
 have HY:=h_ (show Yk w (.agg #[.bool yn,.slice a2 k2 c2,.int .i64 ye,.int .u64 1]) ⟨yn,ym,ye⟩ from ⟨_,_,_,rfl,hy⟩)
 clear hx hy ok hs cw
 go_enter Tryz.func38,Tryz.ntmps38
 have F0:=h_ (Fz.two w 58 #[.bool xn,.slice a1 k1 c1,.int .i64 xe,.bool yn,.slice a2 k2 c2,.int .i64 ye,.int .u64 1,.bool false,.int .i64 z,.int .i64 64,.int .i64 tt] 42 #[.bool false,.slice none 0 0,.int .i64 0])
 have X0:=h_ (((HU.out).alloc (.cells #[.bool xn,.slice a1 k1 c1,.int .i64 xe,.bool yn,.slice a2 k2 c2,.int .i64 ye,.int .u64 1,.bool false,.int .i64 z,.int .i64 64,.int .i64 tt] 58)).alloc (.cells #[.bool false,.slice none 0 0,.int .i64 0] 42))
 have Y0:=h_ (((HY.out).alloc (.cells #[.bool xn,.slice a1 k1 c1,.int .i64 xe,.bool yn,.slice a2 k2 c2,.int .i64 ye,.int .u64 1,.bool false,.int .i64 z,.int .i64 64,.int .i64 tt] 58)).alloc (.cells #[.bool false,.slice none 0 0,.int .i64 0] 42))
 have D0:=h_ (((HX.out).alloc (.cells #[.bool xn,.slice a1 k1 c1,.int .i64 xe,.bool yn,.slice a2 k2 c2,.int .i64 ye,.int .u64 1,.bool false,.int .i64 z,.int .i64 64,.int .i64 tt] 58)).alloc (.cells #[.bool false,.slice none 0 0,.int .i64 0] 42))
 clear HU HY HX
 go_upto_region 1 with (fail)
 generalize World.alloc (World.alloc _ _) _=w0 at F0 X0 Y0 D0 ⊢
 have c0_0:=F0.out.c11 0 rfl
 have c1_0:=F0.out.c3 1 rfl
 go_wp2_with fail
 clear c0_0 c1_0
 refine (CR.out _ _ X0.out).mono ?_
 rintro q w1 ⟨rfl,hb⟩
 have F1:=h_ (F0.out.call hb)
 have X1:=h_ (X0.out.below hb)
 have Y1:=h_ (Y0.out.below hb)
 have D1:=h_ (D0.out.below hb)
 clear F0 X0 Y0 D0
 clear hb
 have c0_1:=F1.out.c11 0 rfl
 have c1_1:=F1.out.c3 1 rfl
 go_wp2_with fail
 clear c0_1 c1_1
 refine (CS.out _ _ X1.out).mono ?_
 rintro q w2 ⟨rfl,hb⟩
 have F2:=h_ (F1.out.call hb)
 have X2:=h_ (X1.out.below hb)
 have Y2:=h_ (Y1.out.below hb)
 have D2:=h_ (D1.out.below hb)
 clear F1 X1 Y1 D1
 clear hb
 have c0_2:=F2.out.c11 0 rfl
 have c1_2:=F2.out.c3 1 rfl
 go_wp2_with fail
 clear c0_2 c1_2
 refine (CW.out _ _ Y2.out).mono ?_
 rintro q w3 ⟨rfl,hb⟩
 have F3:=h_ (F2.out.call hb)
 have X3:=h_ (X2.out.below hb)
 have Y3:=h_ (Y2.out.below hb)
 have D3:=h_ (D2.out.below hb)
 clear F2 X2 Y2 D2
 clear hb
 have c0_3:=F3.out.c11 0 rfl
 have c1_3:=F3.out.c3 1 rfl
 clear X3 Y3
 go_upto_region 6 with (fail)
 clear c0_3 c1_3
 have F4:=h_ (F3.out.new 133 #[.int .i64 0,.int .i64 0])
 have D4:=h_ (D3.out.alloc (.cells #[.int .i64 0,.int .i64 0] 133))
 clear F3 D3
 obtain ⟨g4,hg4⟩:∃ g,g=(World.heap w3).size:=⟨_,rfl⟩
 rw [← hg4] at F4 ⊢
 clear hg4
 simp only [List.nil_append,List.cons_append] at F4
 generalize World.alloc w3 _=W4 at F4 D4 ⊢
 have c0_4:=F4.out.c11 0 rfl
 have c1_4:=F4.out.c3 1 rfl
 have c2_4:=F4.out.c2 2 rfl
 go_wp2
 have f:=F4.out.s3 1 rfl (.bool false) (.slice none 0 0) (.int .i64 0)
 generalize World.setCell (World.setCell (World.setCell _ _ _) _ _) _ _=W at f ⊢
 have g1:=f.c3 1 rfl
 refine bodyPost_ret (v:=.tuple #[.agg #[.bool false,.slice none 0 0,.int .i64 0],.bool false]) (by simp [results,Tryz.results38,go_sem,g1]) rfl ?_
 exact ⟨rfl,f.b⟩
theorem Exact_yesg {w:World} {u:Value} {x y:Dn} {z tt:Int} (hu:Ag w u x y 1 z tt) (ok:AgOk x y 1 z tt) (hs:signA x y ≠ 0) {R:Dn→Prop} {M K:Int}
  (cw:∀ w u,Yk w u y→Calls Tryz.prog 80 #[u] w fun e w'=>e=.returned (.tuple #[.agg #[.int .i64 M,.int .i64 K],.bool true])∧Below w.heap.size w w')
  (cp:∀ w u,Cy w u x→Calls Tryz.prog 81 #[u,.agg #[.int .i64 M,.int .i64 K]] w (RetPw R w)) :
  Calls Tryz.prog 38 #[u] w (RetOk R w):=by
 have CR:=h_ (fun w u (h:Ag w u x y 1 z tt)=>Right_ag h ok)
 have CS:=h_ (fun w u (h:Ag w u x y 1 z tt)=>Sign_ag h ok)
 have CW:=h_ cw
 have CP:=h_ cp
 generalize signA x y=sg at *
 have z1:(sg == 0)=false:=beq_eq_false_iff_ne.2 hs
 have HU:=h_ hu
 obtain ⟨a1,k1,c1,a2,k2,c2,he,hx,hy⟩:=hu
 replace he:u=.agg #[.bool x.neg,.slice a1 k1 c1,.int .i64 x.e,.bool y.neg,.slice a2 k2 c2,.int .i64 y.e,.int .u64 1,.bool false,.int .i64 z,.int .i64 64,.int .i64 tt]:=he
 subst he
 obtain ⟨xn,xm,xe⟩:=x
 obtain ⟨yn,ym,ye⟩:=y
 simp only at hx hy
 have HX:=h_ hx
 have HY:=h_ (show Yk w (.agg #[.bool yn,.slice a2 k2 c2,.int .i64 ye,.int .u64 1]) ⟨yn,ym,ye⟩ from ⟨_,_,_,rfl,hy⟩)
 clear hx hy ok hs cw cp
 go_enter Tryz.func38,Tryz.ntmps38
 have F0:=h_ (Fz.two w 58 #[.bool xn,.slice a1 k1 c1,.int .i64 xe,.bool yn,.slice a2 k2 c2,.int .i64 ye,.int .u64 1,.bool false,.int .i64 z,.int .i64 64,.int .i64 tt] 42 #[.bool false,.slice none 0 0,.int .i64 0])
 have X0:=h_ (((HU.out).alloc (.cells #[.bool xn,.slice a1 k1 c1,.int .i64 xe,.bool yn,.slice a2 k2 c2,.int .i64 ye,.int .u64 1,.bool false,.int .i64 z,.int .i64 64,.int .i64 tt] 58)).alloc (.cells #[.bool false,.slice none 0 0,.int .i64 0] 42))
 have Y0:=h_ (((HY.out).alloc (.cells #[.bool xn,.slice a1 k1 c1,.int .i64 xe,.bool yn,.slice a2 k2 c2,.int .i64 ye,.int .u64 1,.bool false,.int .i64 z,.int .i64 64,.int .i64 tt] 58)).alloc (.cells #[.bool false,.slice none 0 0,.int .i64 0] 42))
 have D0:=h_ (((HX.out).alloc (.cells #[.bool xn,.slice a1 k1 c1,.int .i64 xe,.bool yn,.slice a2 k2 c2,.int .i64 ye,.int .u64 1,.bool false,.int .i64 z,.int .i64 64,.int .i64 tt] 58)).alloc (.cells #[.bool false,.slice none 0 0,.int .i64 0] 42))
 clear HU HY HX
 go_upto_region 1 with (fail)
 generalize World.alloc (World.alloc _ _) _=w0 at F0 X0 Y0 D0 ⊢
 have c0_0:=F0.out.c11 0 rfl
 have c1_0:=F0.out.c3 1 rfl
 go_wp2_with fail
 clear c0_0 c1_0
 refine (CR.out _ _ X0.out).mono ?_
 rintro q w1 ⟨rfl,hb⟩
 have F1:=h_ (F0.out.call hb)
 have X1:=h_ (X0.out.below hb)
 have Y1:=h_ (Y0.out.below hb)
 have D1:=h_ (D0.out.below hb)
 clear F0 X0 Y0 D0
 clear hb
 have c0_1:=F1.out.c11 0 rfl
 have c1_1:=F1.out.c3 1 rfl
 go_wp2_with fail
 clear c0_1 c1_1
 refine (CS.out _ _ X1.out).mono ?_
 rintro q w2 ⟨rfl,hb⟩
 have F2:=h_ (F1.out.call hb)
 have X2:=h_ (X1.out.below hb)
 have Y2:=h_ (Y1.out.below hb)
 have D2:=h_ (D1.out.below hb)
 clear F1 X1 Y1 D1
 clear hb
 have c0_2:=F2.out.c11 0 rfl
 have c1_2:=F2.out.c3 1 rfl
 go_wp2_with fail
 clear c0_2 c1_2
 refine (CW.out _ _ Y2.out).mono ?_
 rintro q w3 ⟨rfl,hb⟩
 have F3:=h_ (F2.out.call hb)
 have X3:=h_ (X2.out.below hb)
 have Y3:=h_ (Y2.out.below hb)
 have D3:=h_ (D2.out.below hb)
 clear F2 X2 Y2 D2
 clear hb
 have c0_3:=F3.out.c11 0 rfl
 have c1_3:=F3.out.c3 1 rfl
 clear X3 Y3
 go_upto_region 6 with (fail)
 clear c0_3 c1_3
 have F4:=h_ (F3.out.new 133 #[.int .i64 M,.int .i64 K])
 have D4:=h_ (D3.out.alloc (.cells #[.int .i64 M,.int .i64 K] 133))
 clear F3 D3
 obtain ⟨g4,hg4⟩:∃ g,g=(World.heap w3).size:=⟨_,rfl⟩
 rw [← hg4] at F4 ⊢
 clear hg4
 simp only [List.nil_append,List.cons_append] at F4
 generalize World.alloc w3 _=W4 at F4 D4 ⊢
 have c0_4:=F4.out.c11 0 rfl
 have c1_4:=F4.out.c3 1 rfl
 have c2_4:=F4.out.c2 2 rfl
 go_wp2_with fail
 clear c0_4 c1_4 c2_4
 refine (CP.out _ _ D4.out).mono ?_
 rintro q w5 ⟨v,d,is,rfl,hu,h1,hb⟩
 have F5:=h_ (F4.out.call hb)
 have D5:=h_ (D4.out.below hb)
 clear F4 D4
 have R5:=h_ (hu)
 clear hb
 have c0_5:=F5.out.c11 0 rfl
 have c1_5:=F5.out.c3 1 rfl
 have c2_5:=F5.out.c2 2 rfl
 clear D5
 have H1:=h_ h1
 obtain ⟨dn,dm,de⟩:=d
 obtain ⟨a5,k5,c5,rfl⟩:=R5.out.fm
 clear hu h1
 go_upto_region 9 with (fail)
 clear c0_5 c1_5 c2_5
 have F6:=h_ (F5.out.new 42 #[.bool dn,.slice a5 k5 c5,.int .i64 de])
 have R6:=h_ (R5.out.alloc (.cells #[.bool dn,.slice a5 k5 c5,.int .i64 de] 42))
 clear F5 R5
 obtain ⟨g5,hg5⟩:∃ g,g=(World.heap w5).size:=⟨_,rfl⟩
 rw [← hg5] at F6 ⊢
 clear hg5
 simp only [List.nil_append,List.cons_append] at F6
 generalize World.alloc w5 _=W6 at F6 R6 ⊢
 have c0_6:=F6.out.c11 0 rfl
 have c1_6:=F6.out.c3 1 rfl
 have c2_6:=F6.out.c2 2 rfl
 have c3_6:=F6.out.c3 3 rfl
 cases is
 all_goals
  go_wp2
  have f:=F6.out.s3 1 rfl (.bool dn) (.slice a5 k5 c5) (.int .i64 de)
  have p:=((F6.out.one_fx 1 rfl rfl).s3 0 rfl (.bool dn) (.slice a5 k5 c5) (.int .i64 de) rfl rfl rfl).2
  generalize World.setCell (World.setCell (World.setCell _ _ _) _ _) _ _=W at f p ⊢
  have g1:=f.c3 1 rfl
  refine bodyPost_ret (v:=.tuple #[.agg #[.bool dn,.slice a5 k5 c5,.int .i64 de],.bool _]) (by simp [results,Tryz.results38,go_sem,g1]; rfl) rfl ?_
  exact ⟨_,⟨dn,dm,de⟩,_,rfl,R6.out.kp p,by first | exact H1.out | exact fun _=>H1.out trivial | exact nofun,f.b⟩
def zOf (x y:Dn) (s:Nat):In:=mulI (logN (bareN x).m (topN (bareN x)) s) ⟨y,y⟩
def CertS (Z:In) (s:Nat) (sg z:Int) (B:Nat) (f:Int):Prop :=
 (0≤CmpD Z.lo (ofN 710)∧B=overB z) ∨ (CmpD Z.hi (ofN (-746))≤0∧B=underB z) ∨ (sg=1∧CmpD Z.hi nearD < 0∧(B:Int)=moreB z) ∨ (sg=-1∧0 < CmpD Z.lo (MinusD nearD)∧(B:Int)=lessB z) ∨
 ∃ I,(∃ n1 n2 l h c d q x y,ExpOf Z s I n1 n2 l h c d q x y)∧QE I∧I.lo.m ≠ 0∧I.hi.m ≠ 0∧B=toB I.lo.m I.lo.e false z∧B=toB I.hi.m I.hi.e false z∧f=toF I.lo.m I.lo.e false z
def PPc (x y:Dn) (z:Int) (s:Nat) (B:Nat) (f:Int) (ok:Bool):Prop:=(ok=true→f ≠ 0∧CertS (zOf x y s) s (signA x y) z B f)∧(ok=false→fitsE (zOf x y s) s=false ∨ rndOk (expI (zOf x y s) s) z=false)
structure NumOk (x y:Dn):Prop where
 xneg:(bareN x).neg=false
 x0:(bareN x).m ≠ 0
 hE:(nearE (bareN x).m (topN (bareN x))).natAbs≤2048
 yv:Vb 1130 3000 y
 yb:bl y.m≤60
theorem z_ok {x y:Dn} (h:NumOk x y) {s:Nat} (hs:8≤s∧s≤2400) :
  (Sd (logN (bareN x).m (topN (bareN x)) s).lo∧Sd (logN (bareN x).m (topN (bareN x)) s).hi∧CmpD (logN (bareN x).m (topN (bareN x)) s).lo (logN (bareN x).m (topN (bareN x)) s).hi≤0∧CmpD y y≤0) ∧
  Sd (zOf x y s).lo∧Sd (zOf x y s).hi∧CmpD (zOf x y s).lo (zOf x y s).hi≤0:=by
 obtain ⟨l1,l2,l3,-,-⟩:=logN_vb (t:=topN (bareN x)) h.x0 h.hE (by omega:s≤3000)
 unfold zOf
 generalize logN (bareN x).m (topN (bareN x)) s=L at *
 obtain ⟨L1,L2⟩:=L
 simp only at l1 l2 l3 ⊢
 have yv:=h.yv
 have yb:=h.yb
 have cle:∀ {K:Nat} {a b:Dn},Zk K a→Zk K b→zv K a≤zv K b→CmpD a b≤0:=by
  intro K a b ha hb hle
  rw [CmpD_zk (K:=K) (by omega) ha hb]
  apply Int.not_lt.1
  rw [cmpI_pos_iff]
  omega
 have zl1:=l1.zk (by omega) (by omega)
 have zl2:=l2.zk (by omega) (by omega)
 have sdL:∀ d,Vb s (s+25) d→Sd d:=fun d hd=>⟨by have:=hd.bl; omega,by have:=hd.lo; omega,by have:=hd.hi; omega⟩
 refine ⟨⟨sdL _ l1,sdL _ l2,cle zl1 zl2 l3,cle (yv.zk (by decide) (by decide)) (yv.zk (by decide) (by decide)) (Int.le_refl _)⟩,?_⟩
 obtain ⟨p1,-,p2⟩:=l1.mul yv (by omega) (by omega) (by decide) (by decide)
 obtain ⟨q1,-,q2⟩:=l2.mul yv (by omega) (by omega) (by decide) (by decide)
 have bl1:=l1.bl
 have bl2:=l2.bl
 have P1:Vb (s+1130) (s+25+3000) (MulD L1 y)∧bl (MulD L1 y).m≤s+90:=⟨p1,by omega⟩
 have P2:Vb (s+1130) (s+25+3000) (MulD L2 y)∧bl (MulD L2 y).m≤s+90:=⟨q1,by omega⟩
 have sdZ:∀ d,Vb (s+1130) (s+25+3000) d∧bl d.m≤s+90→Sd d:=fun d hd=>⟨by have:=hd.2; omega,by have:=hd.1.lo; omega,by have:=hd.1.hi; omega⟩
 have M1:=min4_all (P:=fun d=>Vb (s+1130) (s+25+3000) d∧bl d.m≤s+90) P1 P1 P2 P2
 have M2:=max4_all (P:=fun d=>Vb (s+1130) (s+25+3000) d∧bl d.m≤s+90) P1 P1 P2 P2
 have z1:=P1.1.zk (by omega) (by omega)
 have z2:=P2.1.zk (by omega) (by omega)
 have hle:=min4_le_max4 (K:=((s+1130:Nat):Int)) (by omega) z1 z1 z2 z2
 unfold mulI
 simp only
 exact ⟨sdZ _ M1,sdZ _ M2,cle (M1.1.zk (by omega) (by omega)) (M2.1.zk (by omega) (by omega)) hle⟩
theorem try_any {w:World} {u:Value} {x y:Dn} {z tt:Int} (hu:Ag w u x y 1 z tt) (ok:AgOk x y 1 z tt) (nu:NumOk x y) (hs:signA x y=1 ∨ signA x y=-1) (b:Nat) (hb1:64≤b) (hb2:b≤1024) {s:Nat} (hsc:scaleN y b=(s:Int)) :
  Calls Tryz.prog 45 #[u,.int .i64 (signA x y),.int .i64 (b:Int)] w (RetTry (PPc x y z s) QE w):=by
 have ht:=ok.ty
 rw [ok.yb] at ht
 have hsb:8≤s∧s≤2400:=by unfold scaleN at hsc; split at hsc <;> omega
 obtain ⟨⟨s1,s2,r1,r2⟩,d1,d2,d3⟩:=z_ok nu hsb
 have cl:∀ w u,Ag w u x y 1 z tt→Calls Tryz.prog 90 #[u,.int .i64 (b:Int)] w fun e w'=>∃ r,e=.returned (.tuple #[r,.int .i64 (s:Int),.int .i64 0])∧Iv w' r (zOf x y s)∧Below w.heap.size w w' :=
  fun w u h=>CLog_g h ok nu.xneg nu.x0 b ⟨hb1,hb2⟩ ht s hsc (by omega) s1 s2 r1 r2
 have hs3:8≤s∧s≤3000:=by omega
 have hP:∀ B f,f ≠ 0→CertS (zOf x y s) s (signA x y) z B f→PPc x y z s B f true:=fun B f h1 h2=>⟨fun _=>⟨h1,h2⟩,nofun⟩
 have hN:∀ B f,(fitsE (zOf x y s) s=false ∨ rndOk (expI (zOf x y s) s) z=false)→PPc x y z s B f false:=fun B f h=>⟨nofun,fun _=>h⟩
 generalize PPc x y z s=PP at *
 generalize zOf x y s=Z at *
 have s0:signA x y ≠ 0:=by omega
 by_cases c1:0≤CmpD Z.lo (ofN 710)
 ·exact try_cls (B:=overB z) (f:=5) hu cl (fun w u h=>Of_over h d1 d2 d3 c1 s0) rfl (fun w t=>Result_over z ok.hz) (hP _ _ (by decide) (.inl ⟨c1,rfl⟩))
 have c1':CmpD Z.lo (ofN 710) < 0:=by omega
 by_cases c2:CmpD Z.hi (ofN (-746))≤0
 ·exact try_cls (B:=underB z) (f:=3) hu cl (fun w u h=>Of_under h d1 d2 d3 c1' c2 s0) rfl (fun w t=>Result_under z ok.hz) (hP _ _ (by decide) (.inr (.inl ⟨c2,rfl⟩)))
 have c2':0 < CmpD Z.hi (ofN (-746)):=by omega
 have opn:(∀ w u,Iv w u Z→Calls Tryz.prog 91 #[u,.int .i64 (signA x y)] w fun e w'=>e=.returned (.int .i64 0)∧Below w.heap.size w w')→Calls Tryz.prog 45 #[u,.int .i64 (signA x y),.int .i64 (b:Int)] w (RetTry PP QE w):=by
  intro cb
  rcases exp_any d1 d2 d3 s hs3 with ⟨I,qi,he,cx⟩ | ⟨hx,cx⟩
  ·obtain ⟨B,f,o,cd,h1,h2⟩:=round_any qi.1 qi.2.1 qi.2.2 z ok.hz
   refine try_rnd hu cl cb cx cd ?_ (fun ho=>⟨(h2 ho).1,(h2 ho).2.1,qi⟩)
   cases o
   ·obtain ⟨n1,n2,l,h,c,d,q,a,b,E⟩:=he
    exact hN _ _ (.inr (by rw [← E.is]; exact (h2 rfl).2.2))
   ·have k:=h1 rfl
    exact hP _ _ k.1 (.inr (.inr (.inr (.inr ⟨I,he,qi,k.2.2.1,k.2.2.2.1,k.2.2.2.2.1,k.2.2.2.2.2,k.2.1⟩))))
  ·exact try_err hu cl cb cx (hN _ _ (.inl hx)) ⟨EndI.zero,EndI.zero,of_decide_eq_true (by kernel_rfl)⟩
 rcases hs with hs | hs
 ·rw [hs] at opn ⊢
  by_cases c3:CmpD Z.hi nearD < 0
  ·have hm:moreB z=((moreB z).toNat:Int):=by unfold moreB; split <;> rfl
   refine try_cls (B:=(moreB z).toNat) (f:=1) hu cl (fun w u h=>Of_more h d1 d2 d3 c1' c2' c3) rfl (fun w t=>?_) (hP _ _ (by decide) (.inr (.inr (.inl ⟨hs,c3,hm.symm⟩))))
   rw [← hm]
   exact Result_more t z ok.hz
  ·exact opn (fun w u h=>Of_open h d1 d2 d3 c1' c2' (by omega))
 ·rw [hs] at opn ⊢
  by_cases c3:0 < CmpD Z.lo (MinusD nearD)
  ·have hm:lessB z=((lessB z).toNat:Int):=by unfold lessB; split <;> rfl
   refine try_cls (B:=(lessB z).toNat) (f:=1) hu cl (fun w u h=>Of_less h d1 d2 d3 c1' c2' c3) rfl (fun w t=>?_) (hP _ _ (by decide) (.inr (.inr (.inr (.inl ⟨hs,c3,hm.symm⟩)))))
   rw [← hm]
   exact Result_less t z ok.hz
  ·exact opn (fun w u h=>Of_openN h d1 d2 d3 c1' c2' (by omega))
theorem Do_g {FF:Prop} {R:Dn→Prop} {PP:Nat→Int→Bool→Prop} {QI:In→Prop} {w:World} {u:Value} {x y:Dn} {N n:Nat} {z tt:Int} (hn:n=4∧tt=512 ∨ n=5∧tt=1024) (hu:Ag w u x y N z tt) (ok:AgOk x y N z tt)
  (ce:∀ w u,Ag w u x y N z tt→Calls Tryz.prog 38 #[u] w (RetOk R w))
  (cx:∀ d,R d→∃ (B:Nat) (f:Int),(∀ w u,Cy w u d→Calls Tryz.prog 40 #[u,.bool false,.int .i64 z] w fun e w'=>e=.returned (.tuple #[.int .u64 (B:Int),.int .u8 f,.int .i64 0])∧Below w.heap.size w w')∧PP B f true)
  (ct1:∀ w u,Ag w u x y N z tt→Calls Tryz.prog 45 #[u,.int .i64 (signA x y),.int .i64 64] w (RetTry PP QI w)) (hf:∀ B f,PP B f false→FF)
  (ct:FF→∀ b:Nat,64≤b→b≤1024→∀ w u,Ag w u x y N z tt→Calls Tryz.prog 45 #[u,.int .i64 (signA x y),.int .i64 (b:Int)] w (RetTry PP QI w))
  (cl:∀ w u I,QI I→Iv w u I→Calls Tryz.prog 46 #[u,.bool false,.int .i64 z] w fun e w'=>∃ (B f:Int) (o:Bool),e=.returned (.tuple #[.int .u64 B,.int .u8 f,.bool o])∧Go.bits .or .u8 f 1 ≠ 0∧Below w.heap.size w w') :
  Calls Tryz.prog 20 #[u,.pointer none] w (RetDo PP w):=by
 have CR:=h_ (fun w u (h:Ag w u x y N z tt)=>Right_ag h ok)
 have CE:=h_ ce
 have CX:=h_ cx
 have CP:=h_ (PlanN hn)
 have HN:=h_ (show (n=4 ∨ n=5)∧64 * 2^(n - 1)≤1024 from by rcases hn with ⟨rfl,-⟩ | ⟨rfl,-⟩ <;> decide)
 have HFF:=h_ hf
 have CS:=h_ (fun w u (h:Ag w u x y N z tt)=>Sign_ag h ok)
 have CD1:=h_ (fun w g1 g2 uu (b1:Blk w g1 58 uu) (b2:Blk w g2 3 #[.int .i64 (signA x y)]) (hu:Ag w (.agg uu) x y N z tt)=>Do1_g (b:=64) b1 b2 hu (fun w h=>ct1 w _ h))
 have CD:=h_ (fun (f:FF) w g1 g2 uu (b1:Blk w g1 58 uu) (b2:Blk w g2 3 #[.int .i64 (signA x y)]) (hu:Ag w (.agg uu) x y N z tt) (b:Nat) (h1:64≤b) (h2:b≤1024)=>Do1_g (b:=b) b1 b2 hu (fun w h=>ct f b h1 h2 w _ h))
 have CL:=h_ cl
 generalize signA x y=sg at *
 have HU:=h_ hu
 obtain ⟨a1,k1,c1,a2,k2,c2,rfl,hx,hy⟩:=hu
 obtain ⟨xn,xm,xe⟩:=x
 obtain ⟨yn,ym,ye⟩:=y
 clear hx hy ok ce ct1 hf ct cl cx hn
 go_enter Tryz.func20,Tryz.ntmps20
 have F0:=h_ (Fz.two w 58 #[.bool xn,.slice a1 k1 c1,.int .i64 xe,.bool yn,.slice a2 k2 c2,.int .i64 ye,.int .u64 (N:Int),.bool false,.int .i64 z,.int .i64 64,.int .i64 tt] 32 #[.int .u64 0,.int .u8 0,.int .i64 0])
 have U0:=h_ ((HU.out.alloc (.cells #[.bool xn,.slice a1 k1 c1,.int .i64 xe,.bool yn,.slice a2 k2 c2,.int .i64 ye,.int .u64 (N:Int),.bool false,.int .i64 z,.int .i64 64,.int .i64 tt] 58)).alloc (.cells #[.int .u64 0,.int .u8 0,.int .i64 0] 32))
 clear HU
 go_upto_region 1 with (fail)
 generalize World.alloc (World.alloc _ _) _=w0 at F0 U0 ⊢
 have c0_0:=F0.out.c11 0 rfl
 have c1_0:=F0.out.c3 1 rfl
 go_wp2_with fail
 clear c0_0 c1_0
 refine (CR.out _ _ U0.out).mono ?_
 rintro q w1 ⟨rfl,hb⟩
 have F1:=h_ (F0.out.call hb)
 have U1:=h_ (U0.out.below hb)
 clear F0 U0
 clear hb
 have c0_1:=F1.out.c11 0 rfl
 have c1_1:=F1.out.c3 1 rfl
 go_wp2_with fail
 clear c0_1 c1_1
 refine (CE.out _ _ U1.out).mono ?_
 rintro q w2 ⟨v,d,o,rfl,hu,h1,hb⟩
 have F2:=h_ (F1.out.call hb)
 have U2:=h_ (U1.out.below hb)
 clear F1 U1
 have D2:=h_ (hu)
 clear hb
 have c0_2:=F2.out.c11 0 rfl
 have c1_2:=F2.out.c3 1 rfl
 have H1:=h_ h1
 obtain ⟨dn,dm,de⟩:=d
 obtain ⟨b7,e7,d7,rfl⟩:=D2.out.fm
 clear hu h1
 go_upto_region 4 with (fail)
 clear c0_2 c1_2
 have F3:=h_ (F2.out.new 42 #[.bool dn,.slice b7 e7 d7,.int .i64 de])
 have U3:=h_ (U2.out.alloc (.cells #[.bool dn,.slice b7 e7 d7,.int .i64 de] 42))
 have D3:=h_ (D2.out.alloc (.cells #[.bool dn,.slice b7 e7 d7,.int .i64 de] 42))
 clear F2 U2 D2
 obtain ⟨g1,hg1⟩:∃ g,g=(World.heap w2).size:=⟨_,rfl⟩
 rw [← hg1] at F3 ⊢
 clear hg1
 simp only [List.nil_append,List.cons_append] at F3
 generalize World.alloc w2 _=W3 at F3 U3 D3 ⊢
 have c0_3:=F3.out.c11 0 rfl
 have c1_3:=F3.out.c3 1 rfl
 have c2_3:=F3.out.c3 2 rfl
 cases o
 case true =>
  obtain ⟨B,f,ct,hp⟩:=CX.out _ (H1.out (by trivial))
  have CT:=h_ ct
  have HP:=h_ hp
  obtain ⟨B',hB'⟩:∃ q:Int,q=(B:Int):=⟨_,rfl⟩
  rw [← hB'] at CT
  have HB:=h_ hB'
  clear ct hp hB'
  go_wp2_with fail
  clear c0_3 c1_3 c2_3
  refine (CT.out _ _ D3.out).mono ?_
  rintro q w4 ⟨rfl,hb⟩
  have F4:=h_ (F3.out.call hb)
  have U4:=h_ (U3.out.below hb)
  have D4:=h_ (D3.out.below hb)
  clear F3 U3 D3
  clear hb
  have c0_4:=F4.out.c11 0 rfl
  have c1_4:=F4.out.c3 1 rfl
  have c2_4:=F4.out.c3 2 rfl
  go_wp2
  have FG:=F4.out.s3 1 rfl ((.int .u64 B')) (.int .u8 f) (.int .i64 0)
  generalize World.setCell (World.setCell (World.setCell _ _ _) _ _) _ _=W at FG ⊢
  have g1':=FG.c3 1 rfl
  refine bodyPost_ret (v:=.tuple #[.agg #[(.int .u64 B'),.int .u8 f,.int .i64 0],.int .i64 0,.int .i64 0]) (by simp [results,Tryz.results20,go_sem,g1']) rfl ?_
  exact ⟨_,_,_,_,rfl,.inl ⟨rfl,B,HB.out,HP.out⟩,FG.b⟩
 case false =>
 clear H1
 clear D3
 go_wp2_with fail
 clear c0_3 c1_3 c2_3
 refine (CP.out _).mono ?_
 rintro q w4 ⟨g,cap,rfl,hc,hb⟩
 have F4:=h_ (F3.out.call hb)
 have U4:=h_ (U3.out.below hb)
 clear F3 U3
 have L4:=h_ (hc)
 clear hb
 have c0_4:=F4.out.c11 0 rfl
 have c1_4:=F4.out.c3 1 rfl
 have c2_4:=F4.out.c3 2 rfl
 clear hc
 go_wp2_with fail
 clear c0_4 c1_4 c2_4
 refine (CS.out _ _ U4.out).mono ?_
 rintro q w5 ⟨rfl,hb⟩
 have F5:=h_ (F4.out.call hb)
 have U5:=h_ (U4.out.below hb)
 have L5:=h_ (L4.out.below hb)
 clear F4 U4 L4
 clear hb
 have c0_5:=F5.out.c11 0 rfl
 have c1_5:=F5.out.c3 1 rfl
 have c2_5:=F5.out.c3 2 rfl
 go_upto_region 11 with (fail)
 clear c0_5 c1_5 c2_5
 have F6:=h_ (F5.out.new 3 #[.int .i64 sg])
 have U6:=h_ (U5.out.alloc (.cells #[.int .i64 sg] 3))
 have L6:=h_ (L5.out.alloc (.cells #[.int .i64 sg] 3))
 clear F5 U5 L5
 obtain ⟨g2,hg2⟩:∃ g,g=(World.heap w5).size:=⟨_,rfl⟩
 rw [← hg2] at F6 ⊢
 clear hg2
 simp only [List.nil_append,List.cons_append] at F6
 generalize World.alloc w5 _=W6 at F6 U6 L6 ⊢
 have c0_6:=F6.out.c11 0 rfl
 have c1_6:=F6.out.c3 1 rfl
 have c2_6:=F6.out.c3 2 rfl
 have c3_6:=F6.out.c1 3 rfl
 go_wp2_with fail
 have CG:=h_ (Go_n (FF:=FF) (PP:=PP) (QI:=QI) (g:=g) (cap:=cap) HN.out.1 L6.out ⟨w.heap.size,0,none⟩ ⟨g2,0,none⟩ (fun w' hb=>CD1.out w' w.heap.size g2 _ ((F6.out.box 0 _ _ _ rfl).below hb) ((F6.out.box 3 _ _ _ rfl).below hb) (U6.out.below hb)) HFF.out (fun f w' hb b h1 h2=>CD.out f w' w.heap.size g2 _ ((F6.out.box 0 _ _ _ rfl).below hb) ((F6.out.box 3 _ _ _ rfl).below hb) (U6.out.below hb) b h1 (Nat.le_trans h2 HN.out.2)))
 clear c0_6 c1_6 c2_6 c3_6
 refine (CG.out).mono ?_
 rintro q w7 ⟨B,f,ok,n1,s1,l1,d1,e1,n2,s2,l2,d2,e2,nb,tries,rfl,hp,hi,hb⟩
 have F7:=h_ (F6.out.call hb)
 have U7:=h_ (U6.out.below hb)
 have L7:=h_ (L6.out.below hb)
 clear F6 U6 L6
 clear hb
 have c0_7:=F7.out.c11 0 rfl
 have c1_7:=F7.out.c3 1 rfl
 have c2_7:=F7.out.c3 2 rfl
 have c3_7:=F7.out.c1 3 rfl
 clear U7 L7
 have HP:=h_ hp
 clear hp CG
 obtain ⟨B',hB'⟩:∃ q:Int,q=(B:Int):=⟨_,rfl⟩
 rw [← hB']
 have HB:=h_ hB'
 clear hB'
 cases ok
 case true =>
  clear hi
  simp only [if_true]
  go_upto_region 12 with (fail)
  clear c0_7 c1_7 c2_7 c3_7
  have F8:=h_ (F7.out.new 97 #[(.int .u64 B'),.int .u8 f,.int .i64 0,.bool n1,.slice s1 l1 d1,.int .i64 e1,.bool n2,.slice s2 l2 d2,.int .i64 e2,.int .i64 nb,.int .i64 tries,.int .i64 0])
  clear F7
  obtain ⟨g3,hg3⟩:∃ g,g=(World.heap w7).size:=⟨_,rfl⟩
  rw [← hg3] at F8 ⊢
  clear hg3
  simp only [List.nil_append,List.cons_append] at F8
  generalize World.alloc w7 _=W8 at F8 ⊢
  have c0_8:=F8.out.c11 0 rfl
  have c1_8:=F8.out.c3 1 rfl
  have c2_8:=F8.out.c3 2 rfl
  have c3_8:=F8.out.c1 3 rfl
  have c4_8:=F8.out.c12 4 rfl
  go_upto_region 13 with (fail)
  clear c0_8 c1_8 c2_8 c3_8 c4_8
  have e0:=(F8.out.c12 4 rfl).1
  have e1':=F8.out.c3 1 rfl
  have d0:=(F8.out.drew.c12 4 rfl).1
  have d1':=F8.out.drew.c3 1 rfl
  have hne:¬ g3=w.heap.size+1∧¬ w.heap.size+1=g3:=by have:=F8.out.asc 1 4 _ _ _ _ _ _ (by decide) rfl rfl; omega
  go_region
  all_goals
   go_wp2
   have FG:=(F8.out.s3 1 rfl (.int .u64 B') (.int .u8 f) (.int .i64 0)).drew
   generalize World.drew (World.setCell (World.setCell (World.setCell _ _ _) _ _) _ _)=W at FG ⊢
   have g1':=FG.c3 1 rfl
   refine bodyPost_ret (v:=.tuple #[.agg #[.int .u64 B',.int .u8 f,.int .i64 0],.int .i64 tries,.int .i64 0]) (by simp [results,Tryz.results20,go_sem,g1']) rfl ?_
   exact ⟨_,_,_,_,rfl,.inl ⟨rfl,B,HB.out,HP.out⟩,FG.b⟩
 case false =>
  obtain ⟨h1,h2,I,hq,hI⟩:=hi rfl
  subst h1 h2
  have HQ:=h_ hq
  have I7:=h_ hI
  clear hi hq hI
  have hB:=HB.out
  replace hB:B'=0:=hB
  subst hB
  clear HB
  simp only [Bool.false_eq_true,if_false]
  go_upto_region 12 with (fail)
  clear c0_7 c1_7 c2_7 c3_7
  have F8:=h_ (F7.out.new 97 #[.int .u64 0,.int .u8 0,.int .i64 0,.bool n1,.slice s1 l1 d1,.int .i64 e1,.bool n2,.slice s2 l2 d2,.int .i64 e2,.int .i64 nb,.int .i64 tries,.int .i64 2])
  have I8:=h_ (I7.out.alloc (.cells #[.int .u64 0,.int .u8 0,.int .i64 0,.bool n1,.slice s1 l1 d1,.int .i64 e1,.bool n2,.slice s2 l2 d2,.int .i64 e2,.int .i64 nb,.int .i64 tries,.int .i64 2] 97))
  clear F7 I7
  obtain ⟨g3,hg3⟩:∃ g,g=(World.heap w7).size:=⟨_,rfl⟩
  rw [← hg3] at F8 ⊢
  clear hg3
  simp only [List.nil_append,List.cons_append] at F8
  generalize World.alloc w7 _=W8 at F8 I8 ⊢
  have c0_8:=F8.out.c11 0 rfl
  have c1_8:=F8.out.c3 1 rfl
  have c2_8:=F8.out.c3 2 rfl
  have c3_8:=F8.out.c1 3 rfl
  have c4_8:=F8.out.c12 4 rfl
  clear c0_8 c1_8 c2_8 c3_8 c4_8
  have c0_8:=F8.out.c11 0 rfl
  have c1_8:=F8.out.c3 1 rfl
  have r0:World.cell? W8 ⟨g3,0,none⟩=some (.int .u64 0):=(F8.out.box 4 _ _ _ rfl).at 0 _ rfl
  have r1:World.cell? W8 ⟨g3,1,none⟩=some (.int .u8 0):=(F8.out.box 4 _ _ _ rfl).at 1 _ rfl
  have r2:World.cell? W8 ⟨g3,2,none⟩=some (.int .i64 0):=(F8.out.box 4 _ _ _ rfl).at 2 _ rfl
  have r3:World.cell? W8 ⟨g3,3,none⟩=some (.bool n1):=(F8.out.box 4 _ _ _ rfl).at 3 _ rfl
  have r4:World.cell? W8 ⟨g3,4,none⟩=some (.slice s1 l1 d1):=(F8.out.box 4 _ _ _ rfl).at 4 _ rfl
  have r5:World.cell? W8 ⟨g3,5,none⟩=some (.int .i64 e1):=(F8.out.box 4 _ _ _ rfl).at 5 _ rfl
  have r6:World.cell? W8 ⟨g3,6,none⟩=some (.bool n2):=(F8.out.box 4 _ _ _ rfl).at 6 _ rfl
  have r7:World.cell? W8 ⟨g3,7,none⟩=some (.slice s2 l2 d2):=(F8.out.box 4 _ _ _ rfl).at 7 _ rfl
  have r8:World.cell? W8 ⟨g3,8,none⟩=some (.int .i64 e2):=(F8.out.box 4 _ _ _ rfl).at 8 _ rfl
  have r9:World.cell? W8 ⟨g3,9,none⟩=some (.int .i64 nb):=(F8.out.box 4 _ _ _ rfl).at 9 _ rfl
  have r10:World.cell? W8 ⟨g3,10,none⟩=some (.int .i64 tries):=(F8.out.box 4 _ _ _ rfl).at 10 _ rfl
  have r11:World.cell? W8 ⟨g3,11,none⟩=some (.int .i64 2):=(F8.out.box 4 _ _ _ rfl).at 11 _ rfl
  go_wp2_with fail
  clear r0 r1 r2 r3 r4 r5 r6 r7 r8 r9 r10 r11
  clear c0_8 c1_8
  refine (CL.out _ _ _ HQ.out I8.out).mono ?_
  rintro q w9 ⟨B2,f2,o2,rfl,hf,hb⟩
  have F9:=h_ (F8.out.call hb)
  have I9:=h_ (I8.out.below hb)
  clear F8 I8
  clear hb
  have c0_9:=F9.out.c11 0 rfl
  have c1_9:=F9.out.c3 1 rfl
  clear I9
  have HF:=h_ hf
  clear hf
  cases o2
  case true =>
   go_upto_region 17 with (fail)
   clear c1_9
   have e0:=(F9.out.c12 4 rfl).1
   have e1':=F9.out.c3 1 rfl
   have d0:=(F9.out.drew.c12 4 rfl).1
   have d1':=F9.out.drew.c3 1 rfl
   have hne:¬ g3=w.heap.size+1∧¬ w.heap.size+1=g3:=by have:=F9.out.asc 1 4 _ _ _ _ _ _ (by decide) rfl rfl; omega
   go_region
   all_goals
    go_wp2
    have FG:=(F9.out.s3 1 rfl (.int .u64 B2) (.int .u8 (Go.bits .or .u8 f2 1)) (.int .i64 1)).drew
    generalize World.drew (World.setCell (World.setCell (World.setCell _ _ _) _ _) _ _)=W at FG ⊢
    have g1':=FG.c3 1 rfl
    refine bodyPost_ret (v:=.tuple #[.agg #[.int .u64 B2,.int .u8 (Go.bits .or .u8 f2 1),.int .i64 1],.int .i64 tries,.int .i64 0]) (by simp [results,Tryz.results20,go_sem,g1']) rfl ?_
    exact ⟨_,_,_,_,rfl,.inr ⟨rfl,HF.out,HP.out⟩,FG.b⟩
  case false =>
   go_upto_region 17 with (fail)
   clear c1_9
   have e0:=(F9.out.c12 4 rfl).1
   have e1':=F9.out.c3 1 rfl
   have d0:=(F9.out.drew.c12 4 rfl).1
   have d1':=F9.out.drew.c3 1 rfl
   have hne:¬ g3=w.heap.size+1∧¬ w.heap.size+1=g3:=by have:=F9.out.asc 1 4 _ _ _ _ _ _ (by decide) rfl rfl; omega
   go_region
   all_goals
    go_wp2
    have FG:=(F9.out.s3 1 rfl (.int .u64 9221120237041090560) (.int .u8 (Go.bits .or .u8 0 1)) (.int .i64 1)).drew
    generalize World.drew (World.setCell (World.setCell (World.setCell _ _ _) _ _) _ _)=W at FG ⊢
    have g1':=FG.c3 1 rfl
    refine bodyPost_ret (v:=.tuple #[.agg #[.int .u64 9221120237041090560,.int .u8 (Go.bits .or .u8 0 1),.int .i64 1],.int .i64 tries,.int .i64 0]) (by simp [results,Tryz.results20,go_sem,g1']) rfl ?_
    exact ⟨_,_,_,_,rfl,.inr ⟨rfl,by decide,HP.out⟩,FG.b⟩
def ExactOf (x y d:Dn):Prop:=PowerOf (bareN x) (ofM y) (ofK y) d
def PPd (x y:Dn) (z:Int) (B:Nat) (f:Int) (ok:Bool):Prop:=ok=true →
 (∃ d,ExactOf x y d∧B=toB d.m d.e false z∧f=toF d.m d.e false z) ∨ f ≠ 0∧∃ s:Nat,(8≤s∧s≤2400)∧CertS (zOf x y s) s (signA x y) z B f
theorem exact_any {w:World} {u:Value} {x y:Dn} {z tt:Int} (hu:Ag w u x y 1 z tt) (ok:AgOk x y 1 z tt) (nu:NumOk x y) (hs:signA x y ≠ 0) (y0:y.m ≠ 0) (hodd:(bareN x).m % 2=1) :
  Calls Tryz.prog 38 #[u] w (RetOk (ExactOf x y) w):=by
 have yb:=ok.yb
 have no:(∀ w u,Cy w u (bareN y)→Calls Tryz.prog 115 #[u] w fun e w'=>e=.returned (.tuple #[.agg #[.int .i64 0,.int .i64 0],.bool false])∧Below w.heap.size w w')→Calls Tryz.prog 38 #[u] w (RetOk (ExactOf x y) w):=by
  intro co
  have ht:=hu
  obtain ⟨a1,k1,c1,a2,k2,c2,-,hx,-⟩:=ht
  have hx:=h_ hx
  refine (Exact_nog hu ok hs (fun w u h=>whole_n h ok.sy y0 ok.by' co)).mono ?_
  rintro e w' ⟨h1,h2⟩
  exact ⟨_,_,false,h1,Cy.zero3 (hx.out.tab.below h2),nofun,h2⟩
 by_cases h1:y.e < -62
 ·exact no (fun w u h=>Of_no h (by rw [yb]; exact ok.sy) (by rw [yb,yb]; exact h1))
 by_cases h2:62 < (bl y.m:Int)+max y.e 0
 ·exact no (fun w u h=>Of_long h (by rw [yb]; exact ok.sy) (by rw [yb,yb]; omega) (by rw [yb,yb]; exact h2))
 have hK:0 < ofK y∧ofK y≤4611686018427387904:=by
  unfold ofK
  exact ⟨Nat.two_pow_pos _,Nat.le_trans (Nat.pow_le_pow_right (by decide) (by omega:(max (-y.e) 0).toNat≤62)) (by decide)⟩
 have hb:bl (y.m * 2^(max y.e 0).toNat)≤62:=by rw [bl_mul_pow y0]; omega
 have hm:y.m * 2^(max y.e 0).toNat < 4611686018427387904:=Nat.lt_of_lt_of_le (lt_bl _) (Nat.le_trans (Nat.pow_le_pow_right (by decide) hb) (by decide))
 have hm0:y.m * 2^(max y.e 0).toNat ≠ 0:=Nat.mul_ne_zero y0 (by have:=Nat.two_pow_pos (max y.e 0).toNat; omega)
 have hM:(-9223372036854775808 < ofM y∧ofM y < 9223372036854775808)∧ofM y ≠ 0:=by
  unfold ofM
  generalize y.m * 2^(max y.e 0).toNat=q at *
  split <;> omega
 have x64:(bareN x).m < 18446744073709551616:=Nat.lt_of_lt_of_le (lt_bl _) (Nat.le_trans (Nat.pow_le_pow_right (by decide) (Nat.le_trans ok.bx (by decide:60≤64))) (by decide))
 refine Exact_yesg hu ok hs (M:=ofM y) (K:=(ofK y:Nat)) (fun w u h=>whole_y h ok.sy y0 ok.by' ⟨by omega,by omega⟩ (fun w u h=>?_)) (fun w u h=>?_)
 ·have:=Of_r h (by rw [yb]; exact ok.sy) (by rw [yb,yb]; omega) (by rw [yb,yb]; omega)
  rwa [yb,yb] at this
 ·exact Power_r h ok.sx nu.xneg nu.x0 hodd x64 (ofM y) (ofK y) hM.1 hM.2 ⟨hK.1,by omega⟩
theorem exact_to {x y d:Dn} (h:ExactOf x y d) (z:Int) (hz:0≤z∧z≤3):∀ w u,Cy w u d→Calls Tryz.prog 40 #[u,.bool false,.int .i64 z] w fun e w'=>e=.returned (.tuple #[.int .u64 (toB d.m d.e false z:Nat),.int .u8 (toF d.m d.e false z),.int .i64 0])∧Below w.heap.size w w':=by
 obtain ⟨g,r,-,-,h1,h2,h3,h4,h5,h6,h7⟩:=h
 intro w u hu
 have e:EndI d:=⟨h1,⟨Nat.le_trans h6 (by decide),by omega,by omega⟩,by obtain ⟨n,m,e⟩:=d; exact odd_bare h7 (by simp only at h4 h5; omega),fun _=>h7⟩
 exact e.to (by omega) false z hz hu
theorem scale_in {x y:Dn} {z tt:Int} (ok:AgOk x y 1 z tt) {b:Nat} (h1:64≤b) (h2:b≤1024):∃ s:Nat,scaleN y b=(s:Int)∧8≤s∧s≤2400:=by
 have ht:=ok.ty
 rw [ok.yb] at ht
 obtain ⟨s,hsc⟩:∃ s:Nat,scaleN y b=(s:Int):=⟨(scaleN y b).toNat,by unfold scaleN; split <;> omega⟩
 exact ⟨s,hsc,by unfold scaleN at hsc; split at hsc <;> omega⟩
theorem Do_any {w:World} {u:Value} {x y:Dn} {z tt:Int} {n:Nat} (hn:n=4∧tt=512 ∨ n=5∧tt=1024) (hu:Ag w u x y 1 z tt) (ok:AgOk x y 1 z tt) (nu:NumOk x y) (hs:signA x y=1 ∨ signA x y=-1) (y0:y.m ≠ 0) (hodd:(bareN x).m % 2=1) :
  Calls Tryz.prog 20 #[u,.pointer none] w (RetDo (PPd x y z) w):=by
 have ct:∀ b:Nat,64≤b→b≤1024→∀ w u,Ag w u x y 1 z tt→Calls Tryz.prog 45 #[u,.int .i64 (signA x y),.int .i64 (b:Int)] w (RetTry (PPd x y z) QE w):=by
  intro b h1 h2 w u h
  obtain ⟨s,hsc,hs8⟩:=scale_in ok h1 h2
  refine (try_any h ok nu hs b h1 h2 hsc).mono ?_
  rintro e w' ⟨B,f,o,n1,s1,l1,d1,e1,n2,s2,l2,d2,e2,he,hp,hi,hb⟩
  exact ⟨B,f,o,n1,s1,l1,d1,e1,n2,s2,l2,d2,e2,he,fun ho=>.inr ⟨(hp.1 ho).1,s,hs8,(hp.1 ho).2⟩,hi,hb⟩
 exact Do_g (FF:=True) (QI:=QE) hn hu ok (fun w u h=>exact_any h ok nu (by omega) y0 hodd) (fun d hd=>⟨_,_,exact_to hd z ok.hz,fun _=>.inl ⟨d,hd,rfl,rfl⟩⟩) (ct 64 (by decide) (by decide)) (fun _ _ _=>trivial) (fun _=>ct) (fun w u I hq hI=>loose_any hq.1 hq.2.1 hq.2.2 z ok.hz hI)
end Go.Proofs.YtobpioceopfkpaaGreatDoor
