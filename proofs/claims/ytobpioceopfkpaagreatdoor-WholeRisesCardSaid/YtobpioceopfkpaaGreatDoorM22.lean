/-
  Lemmas for WholeTurned and WholeGrows and WholeRises, part 22 of 36: what the program's functions do, and plain facts; without conditions.
-/
import Derived.Test.YtobpioceopfkpaaGreatDoorM21
set_option maxRecDepth 100000
set_option maxHeartbeats 4000000
namespace Go.Proofs.YtobpioceopfkpaaGreatDoor
open Go.RowKit
theorem can_w {w:World} {u:Value} {d:Dn} (hu:Ry w u d) (sd:Sw d):Calls Tryz.prog 161 #[u] w fun e w'=>e=.returned (.bool true)∧Below w.heap.size w w':=by
 have CA:=h_ (fun w (h:Ry w u d)=>Bare_w h sd)
 obtain ⟨a1,k1,c1,rfl⟩:=hu.form
 generalize bareN d=D at *
 obtain ⟨n,m,e⟩:=D
 clear sd
 go_enter Tryz.func161,Tryz.ntmps161
 have F0:=h_ (Fx.one w 42 #[.bool d.neg,.slice a1 k1 c1,.int .i64 d.e] rfl)
 have X0:=h_ (hu.alloc (.cells #[.bool d.neg,.slice a1 k1 c1,.int .i64 d.e] 42))
 clear hu
 go_upto_region 1 with (fail)
 generalize World.alloc _ _=w0 at F0 X0 ⊢
 have c0_0:=F0.out.c3 0 rfl
 go_wp2_with fail
 clear c0_0
 refine (CA.out _ X0.out).mono ?_
 rintro q w1 ⟨u,rfl,hu,hb⟩
 have F1:=h_ (F0.out.call hb)
 have X1:=h_ (X0.out.below hb)
 clear F0 X0
 have U1:=h_ (hu)
 clear hb
 have c0_1:=F1.out.c3 0 rfl
 clear X1
 obtain ⟨a3,k3,c3,rfl⟩:=U1.out.fm
 go_wp2
 go_ret
 exact ⟨rfl,(F1.out.alloc _).b⟩
theorem Right_w {w:World} {u:Value} {i:In} (hu:Iv w u i) (s1:Sw i.lo) (s2:Sw i.hi):Calls Tryz.prog 132 #[u] w fun e w'=>e=.returned (.bool (decide (CmpD i.lo i.hi≤0)))∧Below w.heap.size w w':=by
 obtain ⟨⟨n,m,e⟩,⟨n',m',e'⟩⟩:=i
 obtain ⟨a1,k1,c1,a2,k2,c2,rfl,hx,hy⟩:=hu.fm
 simp only at s1 s2
 have C1:=h_ (fun w u (h:Cy w u ⟨n,m,e⟩)=>can_w h.ry s1)
 have C2:=h_ (fun w u (h:Cy w u ⟨n',m',e'⟩)=>can_w h.ry s2)
 have CC:=h_ (fun w u v (h:Cy w u ⟨n,m,e⟩) (k:Cy w v ⟨n',m',e'⟩)=>Cmp_d h.ry k.ry)
 simp only
 generalize CmpD ⟨n,m,e⟩ ⟨n',m',e'⟩=c at *
 have HX:=h_ hx
 have HY:=h_ hy
 clear hu hx hy s1 s2
 go_enter Tryz.func132,Tryz.ntmps132
 have F0:=h_ (Fx.one w 92 #[.bool n,.slice a1 k1 c1,.int .i64 e,.bool n',.slice a2 k2 c2,.int .i64 e'] rfl)
 have X0:=h_ (HX.out.alloc (.cells #[.bool n,.slice a1 k1 c1,.int .i64 e,.bool n',.slice a2 k2 c2,.int .i64 e'] 92))
 have Y0:=h_ (HY.out.alloc (.cells #[.bool n,.slice a1 k1 c1,.int .i64 e,.bool n',.slice a2 k2 c2,.int .i64 e'] 92))
 clear HX HY
 go_upto_region 1 with (fail)
 generalize World.alloc _ _=w0 at F0 X0 Y0 ⊢
 have c0_0:=F0.out.c6 0 rfl
 go_wp2_with fail
 clear c0_0
 refine (C1.out _ _ X0.out).mono ?_
 rintro q w1 ⟨rfl,hb⟩
 have F1:=h_ (F0.out.call hb)
 have X1:=h_ (X0.out.below hb)
 have Y1:=h_ (Y0.out.below hb)
 clear F0 X0 Y0
 clear hb
 have c0_1:=F1.out.c6 0 rfl
 go_wp2_with fail
 clear c0_1
 refine (C2.out _ _ Y1.out).mono ?_
 rintro q w2 ⟨rfl,hb⟩
 have F2:=h_ (F1.out.call hb)
 have X2:=h_ (X1.out.below hb)
 have Y2:=h_ (Y1.out.below hb)
 clear F1 X1 Y1
 clear hb
 have c0_2:=F2.out.c6 0 rfl
 go_wp2_with fail
 clear c0_2
 refine (CC.out _ _ _ X2.out Y2.out).mono ?_
 rintro q w3 ⟨rfl,hb⟩
 have F3:=h_ (F2.out.call hb)
 have X3:=h_ (X2.out.below hb)
 have Y3:=h_ (Y2.out.below hb)
 clear F2 X2 Y2
 clear hb
 have c0_3:=F3.out.c6 0 rfl
 go_wp2
 go_ret
 exact ⟨rfl,F3.out.b⟩
def breakB (m:Nat) (e:Int):Bool:=if 1023 < (bl m:Int) - 1+e then (e == 1024) && ((bl m:Int) == 1) else decide (unitOf ((bl m:Int) - 1+e) - 1≤e)
theorem Break_g {w:World} {u:Value} {d:Dn} (hu:Ry w u d) (sd:Sw d) (h0:(bareN d).m ≠ 0) (ht:topN (bareN d)=(bl (bareN d).m:Int) - 1+(bareN d).e) :
  Calls Tryz.prog 119 #[u] w fun e w'=>e=.returned (.bool (breakB (bareN d).m (bareN d).e))∧Below w.heap.size w w':=by
 have CA:=h_ (fun w (h:Ry w u d)=>Bare_w h sd)
 have bd:=sd.bare
 obtain ⟨a1,k1,c1,rfl⟩:=hu.form
 unfold breakB unitOf
 generalize bareN d=D at *
 have CT:=h_ (fun w u (h:Cy w u D)=>Top_d h.ry)
 rw [ht] at CT
 obtain ⟨n,m,e⟩:=D
 simp only at h0 CT bd ⊢
 have eg:decide (m ≠ 0)=true:=decide_eq_true h0
 rw [eg] at CT
 obtain ⟨l,el⟩:∃ l,l=bl m:=⟨_,rfl⟩
 have CB:Hid (∀ w u,Dg w u m→Calls Tryz.prog 36 #[u] w fun e w'=>e=.returned (.int .i64 (l:Int))∧Below w.heap.size w w'):=fun w u h=>by
  have:=bits_r (h.rd (by omega)); rw [← el] at this; exact this
 rw [← el] at CT bd ⊢
 obtain ⟨t,et⟩:∃ t,t=(l:Int) - 1+e:=⟨_,rfl⟩
 rw [← et] at CT ⊢
 obtain ⟨un,hun⟩:∃ un,un=t - 52:=⟨_,rfl⟩
 rw [← hun]
 obtain ⟨q,hq⟩:∃ q,q=max un (-1074):=⟨_,rfl⟩
 rw [← hq]
 obtain ⟨q1,hq1⟩:∃ q1,q1=q - 1:=⟨_,rfl⟩
 rw [← hq1]
 have r1:IntKind.i64.wrap (t - 52)=un:=by rw [hun]; exact IntWalk.i64_in _ (by omega)
 have r1':t - 52=un:=hun.symm
 have r0:IntKind.i64.wrap un=un:=IntWalk.i64_in _ (by omega)
 have r2:max un (-1074)=q:=hq.symm
 have r3:IntKind.i64.wrap (q - 1)=q1:=by rw [hq1]; exact IntWalk.i64_in _ (by omega)
 have r4:q - 1=q1:=hq1.symm
 have r5:IntKind.i64.wrap q1=q1:=IntWalk.i64_in _ (by omega)
 obtain ⟨g,hg⟩:∃ g,g=decide (q1≤e):=⟨_,rfl⟩
 have z2:decide (q1≤e)=g:=hg.symm
 rw [← hg]
 have HUU:=h_ hu
 by_cases hbig:1023 < t
 ·have z1:decide ((1023:Int) < t)=true:=decide_eq_true hbig
  rw [if_pos hbig]
  obtain ⟨g1,hg1⟩:∃ g1,g1=(e == 1024):=⟨_,rfl⟩
  obtain ⟨g2,hg2⟩:∃ g2,g2=((l:Int) == 1):=⟨_,rfl⟩
  have z3:(e == 1024)=g1:=hg1.symm
  have z4:((l:Int) == 1)=g2:=hg2.symm
  have z5:(l == 1)=g2:=by
   rw [hg2]
   by_cases h:l=1
   ·subst h; rfl
   ·rw [beq_eq_false_iff_ne.2 h,beq_eq_false_iff_ne.2 (by omega:(l:Int) ≠ 1)]
  rw [← hg1,← hg2]
  clear hu sd h0 eg hun hq hq1 hbig ht et el hg hg1 hg2 bd r1 r0 r2 r3 r4 r5 r1' z2 g
  cases g1
  case false =>
   go_enter Tryz.func119,Tryz.ntmps119
   have F0:=h_ (Fx.one w 42 #[.bool d.neg,.slice a1 k1 c1,.int .i64 d.e] rfl)
   have X0:=h_ (HUU.out.alloc (.cells #[.bool d.neg,.slice a1 k1 c1,.int .i64 d.e] 42))
   clear HUU
   go_upto_region 1 with (fail)
   generalize World.alloc _ _=w0 at F0 X0 ⊢
   have c0_0:=F0.out.c3 0 rfl
   go_wp2_with fail
   clear c0_0
   refine (CA.out _ X0.out).mono ?_
   rintro q w1 ⟨u,rfl,hu,hb⟩
   have F1:=h_ (F0.out.call hb)
   have X1:=h_ (X0.out.below hb)
   clear F0 X0
   have U1:=h_ (hu)
   clear hb
   have c0_1:=F1.out.c3 0 rfl
   clear X1
   obtain ⟨a3,k3,c3,rfl⟩:=U1.out.fm
   go_upto_region 2 with (fail)
   clear c0_1
   obtain ⟨f,p⟩:=F1.out.s3 0 rfl (.bool n) (.slice a3 k3 c3) (.int .i64 e) rfl rfl rfl
   generalize (World.setCell (World.setCell (World.setCell _ _ _) _ _) _ _)=W at f p ⊢
   have F2:=h_ (f)
   have U2:=h_ (U1.out.kp p)
   clear F1 U1
   clear f p
   simp only [List.set_cons_zero] at F2
   have c0_2:=F2.out.c3 0 rfl
   go_wp2_with fail
   clear c0_2
   refine (CT.out _ _ U2.out).mono ?_
   rintro q w3 ⟨rfl,hb⟩
   have F3:=h_ (F2.out.call hb)
   have U3:=h_ (U2.out.below hb)
   clear F2 U2
   clear hb
   have c0_3:=F3.out.c3 0 rfl
   go_wp2
   go_ret
   exact ⟨rfl,F3.out.b⟩
  case true =>
   go_enter Tryz.func119,Tryz.ntmps119
   have F0:=h_ (Fx.one w 42 #[.bool d.neg,.slice a1 k1 c1,.int .i64 d.e] rfl)
   have X0:=h_ (HUU.out.alloc (.cells #[.bool d.neg,.slice a1 k1 c1,.int .i64 d.e] 42))
   clear HUU
   go_upto_region 1 with (fail)
   generalize World.alloc _ _=w0 at F0 X0 ⊢
   have c0_0:=F0.out.c3 0 rfl
   go_wp2_with fail
   clear c0_0
   refine (CA.out _ X0.out).mono ?_
   rintro q w1 ⟨u,rfl,hu,hb⟩
   have F1:=h_ (F0.out.call hb)
   have X1:=h_ (X0.out.below hb)
   clear F0 X0
   have U1:=h_ (hu)
   clear hb
   have c0_1:=F1.out.c3 0 rfl
   clear X1
   obtain ⟨a3,k3,c3,rfl⟩:=U1.out.fm
   go_upto_region 2 with (fail)
   clear c0_1
   obtain ⟨f,p⟩:=F1.out.s3 0 rfl (.bool n) (.slice a3 k3 c3) (.int .i64 e) rfl rfl rfl
   generalize (World.setCell (World.setCell (World.setCell _ _ _) _ _) _ _)=W at f p ⊢
   have F2:=h_ (f)
   have U2:=h_ (U1.out.kp p)
   clear F1 U1
   clear f p
   simp only [List.set_cons_zero] at F2
   have c0_2:=F2.out.c3 0 rfl
   go_wp2_with fail
   clear c0_2
   refine (CT.out _ _ U2.out).mono ?_
   rintro q w3 ⟨rfl,hb⟩
   have F3:=h_ (F2.out.call hb)
   have U3:=h_ (U2.out.below hb)
   clear F2 U2
   clear hb
   have c0_3:=F3.out.c3 0 rfl
   go_wp2_with fail
   clear c0_3
   refine (CB.out _ _ U3.out.dm).mono ?_
   rintro q w4 ⟨rfl,hb⟩
   have F4:=h_ (F3.out.call hb)
   have U4:=h_ (U3.out.below hb)
   clear F3 U3
   clear hb
   have c0_4:=F4.out.c3 0 rfl
   go_wp2
   go_ret
   exact ⟨rfl,F4.out.b⟩
 ·have z1:decide ((1023:Int) < t)=false:=decide_eq_false hbig
  rw [if_neg hbig]
  clear hu sd h0 eg hun hq hq1 hbig ht et el hg bd
  go_enter Tryz.func119,Tryz.ntmps119
  have F0:=h_ (Fx.one w 42 #[.bool d.neg,.slice a1 k1 c1,.int .i64 d.e] rfl)
  have X0:=h_ (HUU.out.alloc (.cells #[.bool d.neg,.slice a1 k1 c1,.int .i64 d.e] 42))
  clear HUU
  go_upto_region 1 with (fail)
  generalize World.alloc _ _=w0 at F0 X0 ⊢
  have c0_0:=F0.out.c3 0 rfl
  go_wp2_with fail
  clear c0_0
  refine (CA.out _ X0.out).mono ?_
  rintro q w1 ⟨u,rfl,hu,hb⟩
  have F1:=h_ (F0.out.call hb)
  have X1:=h_ (X0.out.below hb)
  clear F0 X0
  have U1:=h_ (hu)
  clear hb
  have c0_1:=F1.out.c3 0 rfl
  clear X1
  obtain ⟨a3,k3,c3,rfl⟩:=U1.out.fm
  go_upto_region 2 with (fail)
  clear c0_1
  obtain ⟨f,p⟩:=F1.out.s3 0 rfl (.bool n) (.slice a3 k3 c3) (.int .i64 e) rfl rfl rfl
  generalize (World.setCell (World.setCell (World.setCell _ _ _) _ _) _ _)=W at f p ⊢
  have F2:=h_ (f)
  have U2:=h_ (U1.out.kp p)
  clear F1 U1
  clear f p
  simp only [List.set_cons_zero] at F2
  have c0_2:=F2.out.c3 0 rfl
  go_wp2_with fail
  clear c0_2
  refine (CT.out _ _ U2.out).mono ?_
  rintro q w3 ⟨rfl,hb⟩
  have F3:=h_ (F2.out.call hb)
  have U3:=h_ (U2.out.below hb)
  clear F2 U2
  clear hb
  have c0_3:=F3.out.c3 0 rfl
  go_wp2
  go_ret
  exact ⟨rfl,F3.out.b⟩
theorem down_r (z:Int) (hz:0≤z∧z≤3) (w:World):Calls Tryz.prog 96 #[.bool false,.int .i64 z] w fun e w'=>e=.returned (.bool (z == 1 || z == 3))∧w=w':=by
 have R0:Calls Tryz.prog 96 #[.bool false,.int .i64 0] w fun e w'=>e=.returned (.bool false)∧w=w':=by
  clear hz
  go_enter Tryz.func96,Tryz.ntmps96
  go_wp2
  go_ret
  exact ⟨rfl,rfl⟩
 have R1:Calls Tryz.prog 96 #[.bool false,.int .i64 1] w fun e w'=>e=.returned (.bool true)∧w=w':=by
  clear hz
  go_enter Tryz.func96,Tryz.ntmps96
  go_wp2
  go_ret
  exact ⟨rfl,rfl⟩
 have R2:Calls Tryz.prog 96 #[.bool false,.int .i64 2] w fun e w'=>e=.returned (.bool false)∧w=w':=by
  clear hz
  go_enter Tryz.func96,Tryz.ntmps96
  go_wp2
  go_ret
  exact ⟨rfl,rfl⟩
 have R3:Calls Tryz.prog 96 #[.bool false,.int .i64 3] w fun e w'=>e=.returned (.bool true)∧w=w':=by
  clear hz
  go_enter Tryz.func96,Tryz.ntmps96
  go_wp2
  go_ret
  exact ⟨rfl,rfl⟩
 rcases (by omega:z=0 ∨ z=1 ∨ z=2 ∨ z=3) with rfl | rfl | rfl | rfl
 ·exact R0
 ·exact R1
 ·exact R2
 ·exact R3
theorem Dright_g {w:World} {u:Value} {i:In} (hu:Iv w u i) (s1:Sw i.lo) (s2:Sw i.hi) (hc:CmpD i.lo i.hi≤0) (z:Int) (hz:0≤z∧z≤3) {g:Bool} (hg:decide (0 < signN i.lo)=g):Calls Tryz.prog 95 #[u,.int .i64 z] w fun e w'=>e=.returned (.bool g)∧Below w.heap.size w w':=by
 have CR:=h_ (fun w u (h:Iv w u i)=>Right_w h s1 s2)
 have e1:decide (CmpD i.lo i.hi≤0)=true:=decide_eq_true hc
 rw [e1] at CR
 obtain ⟨⟨n,m,e⟩,⟨n',m',e'⟩⟩:=i
 have CS:=h_ (fun w u (h:Cy w u ⟨n,m,e⟩)=>Sign_d h.ry)
 simp only at hg
 generalize signN ⟨n,m,e⟩=sg at *
 have t2:decide ((0:Int)≤z)=true:=decide_eq_true hz.1
 have t3:decide (z≤3)=true:=decide_eq_true hz.2
 obtain ⟨a1,k1,c1,a2,k2,c2,rfl,hx,hy⟩:=hu.fm
 have HX:=h_ hu
 have HY:=h_ hx
 clear hu hx hy s1 s2 hc hz e1
 go_enter Tryz.func95,Tryz.ntmps95
 have F0:=h_ (Fx.one w 92 #[.bool n,.slice a1 k1 c1,.int .i64 e,.bool n',.slice a2 k2 c2,.int .i64 e'] rfl)
 have X0:=h_ (HX.out.alloc (.cells #[.bool n,.slice a1 k1 c1,.int .i64 e,.bool n',.slice a2 k2 c2,.int .i64 e'] 92))
 have Y0:=h_ (HY.out.alloc (.cells #[.bool n,.slice a1 k1 c1,.int .i64 e,.bool n',.slice a2 k2 c2,.int .i64 e'] 92))
 clear HX HY
 go_upto_region 1 with (fail)
 generalize World.alloc _ _=w0 at F0 X0 Y0 ⊢
 have c0_0:=F0.out.c6 0 rfl
 go_wp2_with fail
 clear c0_0
 refine (CR.out _ _ X0.out).mono ?_
 rintro q w1 ⟨rfl,hb⟩
 have F1:=h_ (F0.out.call hb)
 have X1:=h_ (X0.out.below hb)
 have Y1:=h_ (Y0.out.below hb)
 clear F0 X0 Y0
 clear hb
 have c0_1:=F1.out.c6 0 rfl
 go_wp2_with fail
 clear c0_1
 refine (CS.out _ _ Y1.out).mono ?_
 rintro q w2 ⟨rfl,hb⟩
 have F2:=h_ (F1.out.call hb)
 have X2:=h_ (X1.out.below hb)
 have Y2:=h_ (Y1.out.below hb)
 clear F1 X1 Y1
 clear hb
 have c0_2:=F2.out.c6 0 rfl
 cases g <;> (go_wp2; go_ret; exact ⟨rfl,F2.out.b⟩)
theorem Round_no {w:World} {u:Value} {i:In} (hu:Iv w u i) (z:Int) {g b1 b2:Bool} (cr:∀ w u,Iv w u i→Calls Tryz.prog 95 #[u,.int .i64 z] w fun e w'=>e=.returned (.bool g)∧Below w.heap.size w w')
  (c1:∀ w u,Cy w u i.lo→Calls Tryz.prog 119 #[u] w fun e w'=>e=.returned (.bool b1)∧Below w.heap.size w w')
  (c2:∀ w u,Cy w u i.hi→Calls Tryz.prog 119 #[u] w fun e w'=>e=.returned (.bool b2)∧Below w.heap.size w w') (h:g=true→b1=true ∨ b2=true) :
  Calls Tryz.prog 94 #[u,.bool false,.int .i64 z] w fun e w'=>e=.returned (.tuple #[.int .u64 0,.int .u8 0,.bool false])∧Below w.heap.size w w':=by
 obtain ⟨⟨n,m,e⟩,⟨n',m',e'⟩⟩:=i
 have CR:=h_ cr
 have B1:=h_ c1
 have B2:=h_ c2
 obtain ⟨a1,k1,c1',a2,k2,c2',rfl,hx,hy⟩:=hu.fm
 have HX:=h_ hu
 have HY:=h_ hx
 have HZ:=h_ hy
 clear hu hx hy cr c1 c2
 cases g
 case false =>
  go_enter Tryz.func94,Tryz.ntmps94
  have F0:=h_ (Fx.one w 92 #[.bool n,.slice a1 k1 c1',.int .i64 e,.bool n',.slice a2 k2 c2',.int .i64 e'] rfl)
  have X0:=h_ (HX.out.alloc (.cells #[.bool n,.slice a1 k1 c1',.int .i64 e,.bool n',.slice a2 k2 c2',.int .i64 e'] 92))
  have Y0:=h_ (HY.out.alloc (.cells #[.bool n,.slice a1 k1 c1',.int .i64 e,.bool n',.slice a2 k2 c2',.int .i64 e'] 92))
  have Z0:=h_ (HZ.out.alloc (.cells #[.bool n,.slice a1 k1 c1',.int .i64 e,.bool n',.slice a2 k2 c2',.int .i64 e'] 92))
  clear HX HY HZ
  go_upto_region 1 with (fail)
  generalize World.alloc _ _=w0 at F0 X0 Y0 Z0 ⊢
  have c0_0:=F0.out.c6 0 rfl
  go_wp2_with fail
  clear c0_0
  refine (CR.out _ _ X0.out).mono ?_
  rintro q w1 ⟨rfl,hb⟩
  have F1:=h_ (F0.out.call hb)
  have X1:=h_ (X0.out.below hb)
  have Y1:=h_ (Y0.out.below hb)
  have Z1:=h_ (Z0.out.below hb)
  clear F0 X0 Y0 Z0
  clear hb
  have c0_1:=F1.out.c6 0 rfl
  go_wp2
  refine bodyPost_ret (v:=.tuple #[.int .u64 0,.int .u8 0,.bool false]) (by simp [results,Tryz.results94,go_sem]) rfl ?_
  exact ⟨rfl,F1.out.b⟩
 case true =>
  cases b1
  case true =>
   go_enter Tryz.func94,Tryz.ntmps94
   have F0:=h_ (Fx.one w 92 #[.bool n,.slice a1 k1 c1',.int .i64 e,.bool n',.slice a2 k2 c2',.int .i64 e'] rfl)
   have X0:=h_ (HX.out.alloc (.cells #[.bool n,.slice a1 k1 c1',.int .i64 e,.bool n',.slice a2 k2 c2',.int .i64 e'] 92))
   have Y0:=h_ (HY.out.alloc (.cells #[.bool n,.slice a1 k1 c1',.int .i64 e,.bool n',.slice a2 k2 c2',.int .i64 e'] 92))
   have Z0:=h_ (HZ.out.alloc (.cells #[.bool n,.slice a1 k1 c1',.int .i64 e,.bool n',.slice a2 k2 c2',.int .i64 e'] 92))
   clear HX HY HZ
   go_upto_region 1 with (fail)
   generalize World.alloc _ _=w0 at F0 X0 Y0 Z0 ⊢
   have c0_0:=F0.out.c6 0 rfl
   go_wp2_with fail
   clear c0_0
   refine (CR.out _ _ X0.out).mono ?_
   rintro q w1 ⟨rfl,hb⟩
   have F1:=h_ (F0.out.call hb)
   have X1:=h_ (X0.out.below hb)
   have Y1:=h_ (Y0.out.below hb)
   have Z1:=h_ (Z0.out.below hb)
   clear F0 X0 Y0 Z0
   clear hb
   have c0_1:=F1.out.c6 0 rfl
   go_wp2_with fail
   clear c0_1
   refine (B1.out _ _ Y1.out).mono ?_
   rintro q w2 ⟨rfl,hb⟩
   have F2:=h_ (F1.out.call hb)
   have X2:=h_ (X1.out.below hb)
   have Y2:=h_ (Y1.out.below hb)
   have Z2:=h_ (Z1.out.below hb)
   clear F1 X1 Y1 Z1
   clear hb
   have c0_2:=F2.out.c6 0 rfl
   go_wp2
   refine bodyPost_ret (v:=.tuple #[.int .u64 0,.int .u8 0,.bool false]) (by simp [results,Tryz.results94,go_sem]) rfl ?_
   exact ⟨rfl,F2.out.b⟩
  case false =>
   obtain rfl:b2=true:=by simpa using h rfl
   go_enter Tryz.func94,Tryz.ntmps94
   have F0:=h_ (Fx.one w 92 #[.bool n,.slice a1 k1 c1',.int .i64 e,.bool n',.slice a2 k2 c2',.int .i64 e'] rfl)
   have X0:=h_ (HX.out.alloc (.cells #[.bool n,.slice a1 k1 c1',.int .i64 e,.bool n',.slice a2 k2 c2',.int .i64 e'] 92))
   have Y0:=h_ (HY.out.alloc (.cells #[.bool n,.slice a1 k1 c1',.int .i64 e,.bool n',.slice a2 k2 c2',.int .i64 e'] 92))
   have Z0:=h_ (HZ.out.alloc (.cells #[.bool n,.slice a1 k1 c1',.int .i64 e,.bool n',.slice a2 k2 c2',.int .i64 e'] 92))
   clear HX HY HZ
   go_upto_region 1 with (fail)
   generalize World.alloc _ _=w0 at F0 X0 Y0 Z0 ⊢
   have c0_0:=F0.out.c6 0 rfl
   go_wp2_with fail
   clear c0_0
   refine (CR.out _ _ X0.out).mono ?_
   rintro q w1 ⟨rfl,hb⟩
   have F1:=h_ (F0.out.call hb)
   have X1:=h_ (X0.out.below hb)
   have Y1:=h_ (Y0.out.below hb)
   have Z1:=h_ (Z0.out.below hb)
   clear F0 X0 Y0 Z0
   clear hb
   have c0_1:=F1.out.c6 0 rfl
   go_wp2_with fail
   clear c0_1
   refine (B1.out _ _ Y1.out).mono ?_
   rintro q w2 ⟨rfl,hb⟩
   have F2:=h_ (F1.out.call hb)
   have X2:=h_ (X1.out.below hb)
   have Y2:=h_ (Y1.out.below hb)
   have Z2:=h_ (Z1.out.below hb)
   clear F1 X1 Y1 Z1
   clear hb
   have c0_2:=F2.out.c6 0 rfl
   go_wp2_with fail
   clear c0_2
   refine (B2.out _ _ Z2.out).mono ?_
   rintro q w3 ⟨rfl,hb⟩
   have F3:=h_ (F2.out.call hb)
   have X3:=h_ (X2.out.below hb)
   have Y3:=h_ (Y2.out.below hb)
   have Z3:=h_ (Z2.out.below hb)
   clear F2 X2 Y2 Z2
   clear hb
   have c0_3:=F3.out.c6 0 rfl
   go_wp2
   refine bodyPost_ret (v:=.tuple #[.int .u64 0,.int .u8 0,.bool false]) (by simp [results,Tryz.results94,go_sem]) rfl ?_
   exact ⟨rfl,F3.out.b⟩
theorem Round_two {w:World} {u:Value} {i:In} (hu:Iv w u i) (z:Int) {g b1 b2:Bool} (cr:∀ w u,Iv w u i→Calls Tryz.prog 95 #[u,.int .i64 z] w fun e w'=>e=.returned (.bool g)∧Below w.heap.size w w')
  (c1:∀ w u,Cy w u i.lo→Calls Tryz.prog 119 #[u] w fun e w'=>e=.returned (.bool b1)∧Below w.heap.size w w')
  (c2:∀ w u,Cy w u i.hi→Calls Tryz.prog 119 #[u] w fun e w'=>e=.returned (.bool b2)∧Below w.heap.size w w') (hg:g=true) (h1:b1=false) (h2:b2=false) {B C:Nat} {f k:Int}
  (t1:∀ w u,Cy w u i.lo→Calls Tryz.prog 40 #[u,.bool false,.int .i64 z] w fun e w'=>e=.returned (.tuple #[.int .u64 (B:Int),.int .u8 f,.int .i64 0])∧Below w.heap.size w w')
  (t2:∀ w u,Cy w u i.hi→Calls Tryz.prog 40 #[u,.bool false,.int .i64 z] w fun e w'=>e=.returned (.tuple #[.int .u64 (C:Int),.int .u8 k,.int .i64 0])∧Below w.heap.size w w') :
  Calls Tryz.prog 94 #[u,.bool false,.int .i64 z] w fun e w'=>e=.returned (.tuple (if B=C∧f=k then #[.int .u64 (B:Int),.int .u8 f,.bool true] else #[.int .u64 0,.int .u8 0,.bool false]))∧Below w.heap.size w w':=by
 subst hg h1 h2
 obtain ⟨⟨n,m,e⟩,⟨n',m',e'⟩⟩:=i
 have CR:=h_ cr
 have B1:=h_ c1
 have B2:=h_ c2
 have T1:=h_ t1
 have T2:=h_ t2
 obtain ⟨a1,k1,c1',a2,k2,c2',rfl,hx,hy⟩:=hu.fm
 have HX:=h_ hu
 have HY:=h_ hx
 have HZ:=h_ hy
 obtain ⟨R,hR⟩:∃ R,R=(if B=C∧f=k then #[Value.int .u64 (B:Int),Value.int .u8 f,Value.bool true] else #[Value.int .u64 0,Value.int .u8 0,Value.bool false]):=⟨_,rfl⟩
 rw [← hR]
 have HR:=h_ hR
 clear hu hx hy cr c1 c2 t1 t2 hR
 by_cases hB:B=C
 ·have zb:((B:Int) == (C:Int))=true:=by rw [beq_iff_eq]; omega
  have zb':(B == C)=true:=by rw [beq_iff_eq]; exact hB
  have zc:((B:Int) != (C:Int))=false:=by rw [bne,zb]; rfl
  have zc':(B != C)=false:=by rw [bne,zb']; rfl
  by_cases hf:f=k
  ·have zf:(f == k)=true:=by rw [beq_iff_eq]; exact hf
   have zg:(f != k)=false:=by rw [bne,zf]; rfl
   have HE:Hid (R=#[.int .u64 (B:Int),.int .u8 f,.bool true]):=by rw [Hid,HR.out,if_pos ⟨hB,hf⟩]
   clear hB hf HR
   go_enter Tryz.func94,Tryz.ntmps94
   have F0:=h_ (Fx.one w 92 #[.bool n,.slice a1 k1 c1',.int .i64 e,.bool n',.slice a2 k2 c2',.int .i64 e'] rfl)
   have X0:=h_ (HX.out.alloc (.cells #[.bool n,.slice a1 k1 c1',.int .i64 e,.bool n',.slice a2 k2 c2',.int .i64 e'] 92))
   have Y0:=h_ (HY.out.alloc (.cells #[.bool n,.slice a1 k1 c1',.int .i64 e,.bool n',.slice a2 k2 c2',.int .i64 e'] 92))
   have Z0:=h_ (HZ.out.alloc (.cells #[.bool n,.slice a1 k1 c1',.int .i64 e,.bool n',.slice a2 k2 c2',.int .i64 e'] 92))
   clear HX HY HZ
   go_upto_region 1 with (fail)
   generalize World.alloc _ _=w0 at F0 X0 Y0 Z0 ⊢
   have c0_0:=F0.out.c6 0 rfl
   go_wp2_with fail
   clear c0_0
   refine (CR.out _ _ X0.out).mono ?_
   rintro q w1 ⟨rfl,hb⟩
   have F1:=h_ (F0.out.call hb)
   have X1:=h_ (X0.out.below hb)
   have Y1:=h_ (Y0.out.below hb)
   have Z1:=h_ (Z0.out.below hb)
   clear F0 X0 Y0 Z0
   clear hb
   have c0_1:=F1.out.c6 0 rfl
   go_wp2_with fail
   clear c0_1
   refine (B1.out _ _ Y1.out).mono ?_
   rintro q w2 ⟨rfl,hb⟩
   have F2:=h_ (F1.out.call hb)
   have X2:=h_ (X1.out.below hb)
   have Y2:=h_ (Y1.out.below hb)
   have Z2:=h_ (Z1.out.below hb)
   clear F1 X1 Y1 Z1
   clear hb
   have c0_2:=F2.out.c6 0 rfl
   go_wp2_with fail
   clear c0_2
   refine (B2.out _ _ Z2.out).mono ?_
   rintro q w3 ⟨rfl,hb⟩
   have F3:=h_ (F2.out.call hb)
   have X3:=h_ (X2.out.below hb)
   have Y3:=h_ (Y2.out.below hb)
   have Z3:=h_ (Z2.out.below hb)
   clear F2 X2 Y2 Z2
   clear hb
   have c0_3:=F3.out.c6 0 rfl
   go_wp2_with fail
   clear c0_3
   refine (Signed_r Y3.out).mono ?_
   rintro q w4 ⟨u,rfl,hu,hb⟩
   have F4:=h_ (F3.out.call hb)
   have X4:=h_ (X3.out.below hb)
   have Y4:=h_ (Y3.out.below hb)
   have Z4:=h_ (Z3.out.below hb)
   clear F3 X3 Y3 Z3
   have U4:=h_ (hu)
   clear hb
   have c0_4:=F4.out.c6 0 rfl
   obtain ⟨a3,k3,c3,rfl⟩:=U4.out.fm
   go_wp2_with fail
   clear c0_4
   refine (T1.out _ _ U4.out).mono ?_
   rintro q w5 ⟨rfl,hb⟩
   have F5:=h_ (F4.out.call hb)
   have X5:=h_ (X4.out.below hb)
   have Y5:=h_ (Y4.out.below hb)
   have Z5:=h_ (Z4.out.below hb)
   have U5:=h_ (U4.out.below hb)
   clear F4 X4 Y4 Z4 U4
   clear hb
   have c0_5:=F5.out.c6 0 rfl
   go_wp2_with fail
   clear c0_5
   refine (Signed_r Z5.out).mono ?_
   rintro q w6 ⟨u,rfl,hu,hb⟩
   have F6:=h_ (F5.out.call hb)
   have X6:=h_ (X5.out.below hb)
   have Y6:=h_ (Y5.out.below hb)
   have Z6:=h_ (Z5.out.below hb)
   have U6:=h_ (U5.out.below hb)
   clear F5 X5 Y5 Z5 U5
   have V6:=h_ (hu)
   clear hb
   have c0_6:=F6.out.c6 0 rfl
   obtain ⟨a4,k4,c4,rfl⟩:=V6.out.fm
   go_wp2_with fail
   clear c0_6
   refine (T2.out _ _ V6.out).mono ?_
   rintro q w7 ⟨rfl,hb⟩
   have F7:=h_ (F6.out.call hb)
   have X7:=h_ (X6.out.below hb)
   have Y7:=h_ (Y6.out.below hb)
   have Z7:=h_ (Z6.out.below hb)
   have U7:=h_ (U6.out.below hb)
   have V7:=h_ (V6.out.below hb)
   clear F6 X6 Y6 Z6 U6 V6
   clear hb
   have c0_7:=F7.out.c6 0 rfl
   go_wp2
   refine bodyPost_ret (v:=.tuple #[.int .u64 (B:Int),.int .u8 f,.bool true]) (by simp [results,Tryz.results94,go_sem]) rfl ?_
   exact ⟨by rw [HE.out],F7.out.b⟩
  ·have zf:(f == k)=false:=by rw [beq_eq_false_iff_ne]; exact hf
   have zg:(f != k)=true:=by rw [bne,zf]; rfl
   have HE:Hid (R=#[.int .u64 0,.int .u8 0,.bool false]):=by rw [Hid,HR.out,if_neg (fun h=>hf h.2)]
   clear hB hf HR
   go_enter Tryz.func94,Tryz.ntmps94
   have F0:=h_ (Fx.one w 92 #[.bool n,.slice a1 k1 c1',.int .i64 e,.bool n',.slice a2 k2 c2',.int .i64 e'] rfl)
   have X0:=h_ (HX.out.alloc (.cells #[.bool n,.slice a1 k1 c1',.int .i64 e,.bool n',.slice a2 k2 c2',.int .i64 e'] 92))
   have Y0:=h_ (HY.out.alloc (.cells #[.bool n,.slice a1 k1 c1',.int .i64 e,.bool n',.slice a2 k2 c2',.int .i64 e'] 92))
   have Z0:=h_ (HZ.out.alloc (.cells #[.bool n,.slice a1 k1 c1',.int .i64 e,.bool n',.slice a2 k2 c2',.int .i64 e'] 92))
   clear HX HY HZ
   go_upto_region 1 with (fail)
   generalize World.alloc _ _=w0 at F0 X0 Y0 Z0 ⊢
   have c0_0:=F0.out.c6 0 rfl
   go_wp2_with fail
   clear c0_0
   refine (CR.out _ _ X0.out).mono ?_
   rintro q w1 ⟨rfl,hb⟩
   have F1:=h_ (F0.out.call hb)
   have X1:=h_ (X0.out.below hb)
   have Y1:=h_ (Y0.out.below hb)
   have Z1:=h_ (Z0.out.below hb)
   clear F0 X0 Y0 Z0
   clear hb
   have c0_1:=F1.out.c6 0 rfl
   go_wp2_with fail
   clear c0_1
   refine (B1.out _ _ Y1.out).mono ?_
   rintro q w2 ⟨rfl,hb⟩
   have F2:=h_ (F1.out.call hb)
   have X2:=h_ (X1.out.below hb)
   have Y2:=h_ (Y1.out.below hb)
   have Z2:=h_ (Z1.out.below hb)
   clear F1 X1 Y1 Z1
   clear hb
   have c0_2:=F2.out.c6 0 rfl
   go_wp2_with fail
   clear c0_2
   refine (B2.out _ _ Z2.out).mono ?_
   rintro q w3 ⟨rfl,hb⟩
   have F3:=h_ (F2.out.call hb)
   have X3:=h_ (X2.out.below hb)
   have Y3:=h_ (Y2.out.below hb)
   have Z3:=h_ (Z2.out.below hb)
   clear F2 X2 Y2 Z2
   clear hb
   have c0_3:=F3.out.c6 0 rfl
   go_wp2_with fail
   clear c0_3
   refine (Signed_r Y3.out).mono ?_
   rintro q w4 ⟨u,rfl,hu,hb⟩
   have F4:=h_ (F3.out.call hb)
   have X4:=h_ (X3.out.below hb)
   have Y4:=h_ (Y3.out.below hb)
   have Z4:=h_ (Z3.out.below hb)
   clear F3 X3 Y3 Z3
   have U4:=h_ (hu)
   clear hb
   have c0_4:=F4.out.c6 0 rfl
   obtain ⟨a3,k3,c3,rfl⟩:=U4.out.fm
   go_wp2_with fail
   clear c0_4
   refine (T1.out _ _ U4.out).mono ?_
   rintro q w5 ⟨rfl,hb⟩
   have F5:=h_ (F4.out.call hb)
   have X5:=h_ (X4.out.below hb)
   have Y5:=h_ (Y4.out.below hb)
   have Z5:=h_ (Z4.out.below hb)
   have U5:=h_ (U4.out.below hb)
   clear F4 X4 Y4 Z4 U4
   clear hb
   have c0_5:=F5.out.c6 0 rfl
   go_wp2_with fail
   clear c0_5
   refine (Signed_r Z5.out).mono ?_
   rintro q w6 ⟨u,rfl,hu,hb⟩
   have F6:=h_ (F5.out.call hb)
   have X6:=h_ (X5.out.below hb)
   have Y6:=h_ (Y5.out.below hb)
   have Z6:=h_ (Z5.out.below hb)
   have U6:=h_ (U5.out.below hb)
   clear F5 X5 Y5 Z5 U5
   have V6:=h_ (hu)
   clear hb
   have c0_6:=F6.out.c6 0 rfl
   obtain ⟨a4,k4,c4,rfl⟩:=V6.out.fm
   go_wp2_with fail
   clear c0_6
   refine (T2.out _ _ V6.out).mono ?_
   rintro q w7 ⟨rfl,hb⟩
   have F7:=h_ (F6.out.call hb)
   have X7:=h_ (X6.out.below hb)
   have Y7:=h_ (Y6.out.below hb)
   have Z7:=h_ (Z6.out.below hb)
   have U7:=h_ (U6.out.below hb)
   have V7:=h_ (V6.out.below hb)
   clear F6 X6 Y6 Z6 U6 V6
   clear hb
   have c0_7:=F7.out.c6 0 rfl
   go_wp2
   refine bodyPost_ret (v:=.tuple #[.int .u64 0,.int .u8 0,.bool false]) (by simp [results,Tryz.results94,go_sem]) rfl ?_
   exact ⟨by rw [HE.out],F7.out.b⟩
 ·have zb:((B:Int) == (C:Int))=false:=by rw [beq_eq_false_iff_ne]; omega
  have zb':(B == C)=false:=by rw [beq_eq_false_iff_ne]; exact hB
  have zc:((B:Int) != (C:Int))=true:=by rw [bne,zb]; rfl
  have zc':(B != C)=true:=by rw [bne,zb']; rfl
  have HE:Hid (R=#[.int .u64 0,.int .u8 0,.bool false]):=by rw [Hid,HR.out,if_neg (fun h=>hB h.1)]
  clear hB HR
  go_enter Tryz.func94,Tryz.ntmps94
  have F0:=h_ (Fx.one w 92 #[.bool n,.slice a1 k1 c1',.int .i64 e,.bool n',.slice a2 k2 c2',.int .i64 e'] rfl)
  have X0:=h_ (HX.out.alloc (.cells #[.bool n,.slice a1 k1 c1',.int .i64 e,.bool n',.slice a2 k2 c2',.int .i64 e'] 92))
  have Y0:=h_ (HY.out.alloc (.cells #[.bool n,.slice a1 k1 c1',.int .i64 e,.bool n',.slice a2 k2 c2',.int .i64 e'] 92))
  have Z0:=h_ (HZ.out.alloc (.cells #[.bool n,.slice a1 k1 c1',.int .i64 e,.bool n',.slice a2 k2 c2',.int .i64 e'] 92))
  clear HX HY HZ
  go_upto_region 1 with (fail)
  generalize World.alloc _ _=w0 at F0 X0 Y0 Z0 ⊢
  have c0_0:=F0.out.c6 0 rfl
  go_wp2_with fail
  clear c0_0
  refine (CR.out _ _ X0.out).mono ?_
  rintro q w1 ⟨rfl,hb⟩
  have F1:=h_ (F0.out.call hb)
  have X1:=h_ (X0.out.below hb)
  have Y1:=h_ (Y0.out.below hb)
  have Z1:=h_ (Z0.out.below hb)
  clear F0 X0 Y0 Z0
  clear hb
  have c0_1:=F1.out.c6 0 rfl
  go_wp2_with fail
  clear c0_1
  refine (B1.out _ _ Y1.out).mono ?_
  rintro q w2 ⟨rfl,hb⟩
  have F2:=h_ (F1.out.call hb)
  have X2:=h_ (X1.out.below hb)
  have Y2:=h_ (Y1.out.below hb)
  have Z2:=h_ (Z1.out.below hb)
  clear F1 X1 Y1 Z1
  clear hb
  have c0_2:=F2.out.c6 0 rfl
  go_wp2_with fail
  clear c0_2
  refine (B2.out _ _ Z2.out).mono ?_
  rintro q w3 ⟨rfl,hb⟩
  have F3:=h_ (F2.out.call hb)
  have X3:=h_ (X2.out.below hb)
  have Y3:=h_ (Y2.out.below hb)
  have Z3:=h_ (Z2.out.below hb)
  clear F2 X2 Y2 Z2
  clear hb
  have c0_3:=F3.out.c6 0 rfl
  go_wp2_with fail
  clear c0_3
  refine (Signed_r Y3.out).mono ?_
  rintro q w4 ⟨u,rfl,hu,hb⟩
  have F4:=h_ (F3.out.call hb)
  have X4:=h_ (X3.out.below hb)
  have Y4:=h_ (Y3.out.below hb)
  have Z4:=h_ (Z3.out.below hb)
  clear F3 X3 Y3 Z3
  have U4:=h_ (hu)
  clear hb
  have c0_4:=F4.out.c6 0 rfl
  obtain ⟨a3,k3,c3,rfl⟩:=U4.out.fm
  go_wp2_with fail
  clear c0_4
  refine (T1.out _ _ U4.out).mono ?_
  rintro q w5 ⟨rfl,hb⟩
  have F5:=h_ (F4.out.call hb)
  have X5:=h_ (X4.out.below hb)
  have Y5:=h_ (Y4.out.below hb)
  have Z5:=h_ (Z4.out.below hb)
  have U5:=h_ (U4.out.below hb)
  clear F4 X4 Y4 Z4 U4
  clear hb
  have c0_5:=F5.out.c6 0 rfl
  go_wp2_with fail
  clear c0_5
  refine (Signed_r Z5.out).mono ?_
  rintro q w6 ⟨u,rfl,hu,hb⟩
  have F6:=h_ (F5.out.call hb)
  have X6:=h_ (X5.out.below hb)
  have Y6:=h_ (Y5.out.below hb)
  have Z6:=h_ (Z5.out.below hb)
  have U6:=h_ (U5.out.below hb)
  clear F5 X5 Y5 Z5 U5
  have V6:=h_ (hu)
  clear hb
  have c0_6:=F6.out.c6 0 rfl
  obtain ⟨a4,k4,c4,rfl⟩:=V6.out.fm
  go_wp2_with fail
  clear c0_6
  refine (T2.out _ _ V6.out).mono ?_
  rintro q w7 ⟨rfl,hb⟩
  have F7:=h_ (F6.out.call hb)
  have X7:=h_ (X6.out.below hb)
  have Y7:=h_ (Y6.out.below hb)
  have Z7:=h_ (Z6.out.below hb)
  have U7:=h_ (U6.out.below hb)
  have V7:=h_ (V6.out.below hb)
  clear F6 X6 Y6 Z6 U6 V6
  clear hb
  have c0_7:=F7.out.c6 0 rfl
  go_wp2
  refine bodyPost_ret (v:=.tuple #[.int .u64 0,.int .u8 0,.bool false]) (by simp [results,Tryz.results94,go_sem]) rfl ?_
  exact ⟨by rw [HE.out],F7.out.b⟩
theorem Loose_g {w:World} {u:Value} {i:In} (hu:Iv w u i) (z:Int) (hz:0≤z∧z≤3) {g:Bool} (cr:∀ w u,Iv w u i→Calls Tryz.prog 95 #[u,.int .i64 z] w fun e w'=>e=.returned (.bool g)∧Below w.heap.size w w') {B C:Nat} {f k:Int}
  (t1:g=true→∀ w u,Cy w u i.lo→Calls Tryz.prog 40 #[u,.bool true,.int .i64 z] w fun e w'=>e=.returned (.tuple #[.int .u64 (B:Int),.int .u8 f,.int .i64 0])∧Below w.heap.size w w')
  (t2:g=true→∀ w u,Cy w u i.hi→Calls Tryz.prog 40 #[u,.bool true,.int .i64 z] w fun e w'=>e=.returned (.tuple #[.int .u64 (C:Int),.int .u8 k,.int .i64 0])∧Below w.heap.size w w') :
  Calls Tryz.prog 46 #[u,.bool false,.int .i64 z] w fun e w'=>e=.returned (.tuple (if g then (if z=1 ∨ z=3 then #[.int .u64 (C:Int),.int .u8 k,.bool true] else #[.int .u64 (B:Int),.int .u8 f,.bool true]) else #[.int .u64 0,.int .u8 0,.bool false]))∧Below w.heap.size w w':=by
 obtain ⟨⟨n,m,e⟩,⟨n',m',e'⟩⟩:=i
 have CR:=h_ cr
 have CD:=h_ (fun w=>down_r z hz w)
 obtain ⟨dn,hdn⟩:∃ dn,dn=(z == 1 || z == 3):=⟨_,rfl⟩
 rw [← hdn] at CD
 have hdz:dn=true ↔ (z=1 ∨ z=3):=by rw [hdn]; simp
 obtain ⟨a1,k1,c1',a2,k2,c2',rfl,hx,hy⟩:=hu.fm
 have HX:=h_ hu
 have HY:=h_ hx
 have HZ:=h_ hy
 cases g
 case false =>
  clear hu hx hy cr hz t1 t2 hdn hdz
  go_enter Tryz.func46,Tryz.ntmps46
  have F0:=h_ (Fx.one w 92 #[.bool n,.slice a1 k1 c1',.int .i64 e,.bool n',.slice a2 k2 c2',.int .i64 e'] rfl)
  have X0:=h_ (HX.out.alloc (.cells #[.bool n,.slice a1 k1 c1',.int .i64 e,.bool n',.slice a2 k2 c2',.int .i64 e'] 92))
  have Y0:=h_ (HY.out.alloc (.cells #[.bool n,.slice a1 k1 c1',.int .i64 e,.bool n',.slice a2 k2 c2',.int .i64 e'] 92))
  have Z0:=h_ (HZ.out.alloc (.cells #[.bool n,.slice a1 k1 c1',.int .i64 e,.bool n',.slice a2 k2 c2',.int .i64 e'] 92))
  clear HX HY HZ
  go_upto_region 1 with (fail)
  generalize World.alloc _ _=w0 at F0 X0 Y0 Z0 ⊢
  have c0_0:=F0.out.c6 0 rfl
  go_wp2_with fail
  clear c0_0
  refine (CR.out _ _ X0.out).mono ?_
  rintro q w1 ⟨rfl,hb⟩
  have F1:=h_ (F0.out.call hb)
  have X1:=h_ (X0.out.below hb)
  have Y1:=h_ (Y0.out.below hb)
  have Z1:=h_ (Z0.out.below hb)
  clear F0 X0 Y0 Z0
  clear hb
  have c0_1:=F1.out.c6 0 rfl
  go_wp2
  refine bodyPost_ret (v:=.tuple #[.int .u64 0,.int .u8 0,.bool false]) (by simp [results,Tryz.results46,go_sem]) rfl ?_
  exact ⟨rfl,F1.out.b⟩
 case true =>
  have T1:=h_ (t1 rfl)
  have T2:=h_ (t2 rfl)
  cases dn
  case false =>
   have hz13:¬ (z=1 ∨ z=3):=fun h=>by have:=hdz.2 h; simp at this
   simp only [if_true]
   rw [if_neg hz13]
   clear hu hx hy cr hz t1 t2 hdn hdz hz13
   go_enter Tryz.func46,Tryz.ntmps46
   have F0:=h_ (Fx.one w 92 #[.bool n,.slice a1 k1 c1',.int .i64 e,.bool n',.slice a2 k2 c2',.int .i64 e'] rfl)
   have X0:=h_ (HX.out.alloc (.cells #[.bool n,.slice a1 k1 c1',.int .i64 e,.bool n',.slice a2 k2 c2',.int .i64 e'] 92))
   have Y0:=h_ (HY.out.alloc (.cells #[.bool n,.slice a1 k1 c1',.int .i64 e,.bool n',.slice a2 k2 c2',.int .i64 e'] 92))
   have Z0:=h_ (HZ.out.alloc (.cells #[.bool n,.slice a1 k1 c1',.int .i64 e,.bool n',.slice a2 k2 c2',.int .i64 e'] 92))
   clear HX HY HZ
   go_upto_region 1 with (fail)
   generalize World.alloc _ _=w0 at F0 X0 Y0 Z0 ⊢
   have c0_0:=F0.out.c6 0 rfl
   go_wp2_with fail
   clear c0_0
   refine (CR.out _ _ X0.out).mono ?_
   rintro q w1 ⟨rfl,hb⟩
   have F1:=h_ (F0.out.call hb)
   have X1:=h_ (X0.out.below hb)
   have Y1:=h_ (Y0.out.below hb)
   have Z1:=h_ (Z0.out.below hb)
   clear F0 X0 Y0 Z0
   clear hb
   have c0_1:=F1.out.c6 0 rfl
   go_upto_region 4 with (fail)
   clear c0_1
   have F2:=h_ (F1.out.new 42 #[.bool n,.slice a1 k1 c1',.int .i64 e] rfl)
   have X2:=h_ (X1.out.alloc (.cells #[.bool n,.slice a1 k1 c1',.int .i64 e] 42))
   have Y2:=h_ (Y1.out.alloc (.cells #[.bool n,.slice a1 k1 c1',.int .i64 e] 42))
   have Z2:=h_ (Z1.out.alloc (.cells #[.bool n,.slice a1 k1 c1',.int .i64 e] 42))
   clear F1 X1 Y1 Z1
   obtain ⟨g1,hg1⟩:∃ g,g=(World.heap w1).size:=⟨_,rfl⟩
   rw [← hg1] at F2 ⊢
   clear hg1
   simp only [List.nil_append,List.cons_append] at F2
   generalize World.alloc w1 _=W2 at F2 X2 Y2 Z2 ⊢
   have c0_2:=F2.out.c6 0 rfl
   have c1_2:=F2.out.c3 1 rfl
   go_wp2_with fail
   refine (CD.out _).mono ?_
   rintro q w3 ⟨rfl,rfl⟩
   go_wp2_with fail
   clear c0_2 c1_2
   refine (Signed_r Y2.out).mono ?_
   rintro q w3 ⟨u,rfl,hu,hb⟩
   have F3:=h_ (F2.out.call hb)
   have X3:=h_ (X2.out.below hb)
   have Y3:=h_ (Y2.out.below hb)
   have Z3:=h_ (Z2.out.below hb)
   clear F2 X2 Y2 Z2
   have U3:=h_ (hu)
   clear hb
   have c0_3:=F3.out.c6 0 rfl
   have c1_3:=F3.out.c3 1 rfl
   obtain ⟨a3,k3,c3,rfl⟩:=U3.out.fm
   go_wp2_with fail
   clear c0_3 c1_3
   refine (T1.out _ _ U3.out).mono ?_
   rintro q w4 ⟨rfl,hb⟩
   have F4:=h_ (F3.out.call hb)
   have X4:=h_ (X3.out.below hb)
   have Y4:=h_ (Y3.out.below hb)
   have Z4:=h_ (Z3.out.below hb)
   have U4:=h_ (U3.out.below hb)
   clear F3 X3 Y3 Z3 U3
   clear hb
   have c0_4:=F4.out.c6 0 rfl
   have c1_4:=F4.out.c3 1 rfl
   go_wp2
   refine bodyPost_ret (v:=.tuple #[.int .u64 (B:Int),.int .u8 f,.bool true]) (by simp [results,Tryz.results46,go_sem]) rfl ?_
   exact ⟨rfl,F4.out.b⟩
  case true =>
   have hz13:z=1 ∨ z=3:=hdz.1 rfl
   simp only [if_true]
   rw [if_pos hz13]
   clear hu hx hy cr hz t1 t2 hdn hdz hz13
   go_enter Tryz.func46,Tryz.ntmps46
   have F0:=h_ (Fx.one w 92 #[.bool n,.slice a1 k1 c1',.int .i64 e,.bool n',.slice a2 k2 c2',.int .i64 e'] rfl)
   have X0:=h_ (HX.out.alloc (.cells #[.bool n,.slice a1 k1 c1',.int .i64 e,.bool n',.slice a2 k2 c2',.int .i64 e'] 92))
   have Y0:=h_ (HY.out.alloc (.cells #[.bool n,.slice a1 k1 c1',.int .i64 e,.bool n',.slice a2 k2 c2',.int .i64 e'] 92))
   have Z0:=h_ (HZ.out.alloc (.cells #[.bool n,.slice a1 k1 c1',.int .i64 e,.bool n',.slice a2 k2 c2',.int .i64 e'] 92))
   clear HX HY HZ
   go_upto_region 1 with (fail)
   generalize World.alloc _ _=w0 at F0 X0 Y0 Z0 ⊢
   have c0_0:=F0.out.c6 0 rfl
   go_wp2_with fail
   clear c0_0
   refine (CR.out _ _ X0.out).mono ?_
   rintro q w1 ⟨rfl,hb⟩
   have F1:=h_ (F0.out.call hb)
   have X1:=h_ (X0.out.below hb)
   have Y1:=h_ (Y0.out.below hb)
   have Z1:=h_ (Z0.out.below hb)
   clear F0 X0 Y0 Z0
   clear hb
   have c0_1:=F1.out.c6 0 rfl
   go_upto_region 4 with (fail)
   clear c0_1
   have F2:=h_ (F1.out.new 42 #[.bool n,.slice a1 k1 c1',.int .i64 e] rfl)
   have X2:=h_ (X1.out.alloc (.cells #[.bool n,.slice a1 k1 c1',.int .i64 e] 42))
   have Y2:=h_ (Y1.out.alloc (.cells #[.bool n,.slice a1 k1 c1',.int .i64 e] 42))
   have Z2:=h_ (Z1.out.alloc (.cells #[.bool n,.slice a1 k1 c1',.int .i64 e] 42))
   clear F1 X1 Y1 Z1
   obtain ⟨g1,hg1⟩:∃ g,g=(World.heap w1).size:=⟨_,rfl⟩
   rw [← hg1] at F2 ⊢
   clear hg1
   simp only [List.nil_append,List.cons_append] at F2
   generalize World.alloc w1 _=W2 at F2 X2 Y2 Z2 ⊢
   have c0_2:=F2.out.c6 0 rfl
   have c1_2:=F2.out.c3 1 rfl
   go_wp2_with fail
   refine (CD.out _).mono ?_
   rintro q w3 ⟨rfl,rfl⟩
   go_upto_region 6 with (fail)
   clear c0_2 c1_2
   obtain ⟨f,p⟩:=F2.out.s3 1 rfl (.bool n') (.slice a2 k2 c2') (.int .i64 e') rfl rfl rfl
   generalize (World.setCell (World.setCell (World.setCell _ _ _) _ _) _ _)=W at f p ⊢
   have F3:=h_ (f)
   have X3:=h_ (X2.out.kp p)
   have Y3:=h_ (Y2.out.kp p)
   have Z3:=h_ (Z2.out.kp p)
   clear F2 X2 Y2 Z2
   clear f p
   simp only [List.set_cons_zero,List.set_cons_succ] at F3
   have c0_3:=F3.out.c6 0 rfl
   have c1_3:=F3.out.c3 1 rfl
   go_wp2_with fail
   clear c0_3 c1_3
   refine (Signed_r Z3.out).mono ?_
   rintro q w4 ⟨u,rfl,hu,hb⟩
   have F4:=h_ (F3.out.call hb)
   have X4:=h_ (X3.out.below hb)
   have Y4:=h_ (Y3.out.below hb)
   have Z4:=h_ (Z3.out.below hb)
   clear F3 X3 Y3 Z3
   have U4:=h_ (hu)
   clear hb
   have c0_4:=F4.out.c6 0 rfl
   have c1_4:=F4.out.c3 1 rfl
   obtain ⟨a3,k3,c3,rfl⟩:=U4.out.fm
   go_wp2_with fail
   clear c0_4 c1_4
   refine (T2.out _ _ U4.out).mono ?_
   rintro q w5 ⟨rfl,hb⟩
   have F5:=h_ (F4.out.call hb)
   have X5:=h_ (X4.out.below hb)
   have Y5:=h_ (Y4.out.below hb)
   have Z5:=h_ (Z4.out.below hb)
   have U5:=h_ (U4.out.below hb)
   clear F4 X4 Y4 Z4 U4
   clear hb
   have c0_5:=F5.out.c6 0 rfl
   have c1_5:=F5.out.c3 1 rfl
   go_wp2
   refine bodyPost_ret (v:=.tuple #[.int .u64 (C:Int),.int .u8 k,.bool true]) (by simp [results,Tryz.results46,go_sem]) rfl ?_
   exact ⟨rfl,F5.out.b⟩
end Go.Proofs.YtobpioceopfkpaaGreatDoor
