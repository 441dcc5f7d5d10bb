/-
  Lemmas for WholeTurned and WholeGrows and WholeRises, part 30 of 36: what the program's functions do, and plain facts; without conditions.
-/
import Derived.Test.YtobpioceopfkpaaGreatDoorM29
import Derived.Test.YtobpioceopfkpaaGreatDoorM27
set_option maxRecDepth 100000
set_option maxHeartbeats 4000000
namespace Go.Proofs.YtobpioceopfkpaaGreatDoor
open Go.RowKit
theorem Xright_g {w:World} {u:Value} {d:Dn} (hu:Ry w u d) (sd:Sd d) {g:Bool} (hg:decide (topN (bareN d) < 12)=g) :
  Calls Tryz.prog 162 #[u] w fun e w'=>e=.returned (.bool g)∧Below w.heap.size w w':=by
 have CA:=h_ (fun w (h:Ry w u d)=>Bare_s h sd)
 have bd:=sd.bare
 obtain ⟨a1,k1,c1,rfl⟩:=hu.form
 generalize bareN d=D at *
 have CT:=h_ (fun w u (h:Cy w u D)=>Top_d h.ry)
 generalize topN D=t at *
 obtain ⟨n,m,e⟩:=D
 simp only at bd CT
 have CB:=h_ (fun w u (h:Dg w u m)=>bits_r (h.rd (by omega)))
 generalize bl m=l at *
 generalize decide (m ≠ 0)=g0 at *
 have z1:decide ((l:Int)≤20000)=true:=decide_eq_true (by omega)
 have z2:decide ((-20000:Int)≤e)=true:=decide_eq_true (by omega)
 have z4:decide (l≤20000)=true:=decide_eq_true (by omega)
 have HUU:=h_ hu
 clear hu sd bd
 go_enter Tryz.func162,Tryz.ntmps162
 have F0:=h_ (Fx.one w 42 #[.bool d.neg,.slice a1 k1 c1,.int .i64 d.e] rfl)
 have X0:=h_ (HUU.out.alloc (.cells #[.bool d.neg,.slice a1 k1 c1,.int .i64 d.e] 42))
 clear HUU
 go_upto_region 1 with (fail)
 generalize World.alloc _ _=w0 at F0 X0 ⊢
 have c0_0:=F0.out.c3 0 rfl
 go_wp2_with fail
 clear c0_0
 refine (CA.out _ X0.out).mono ?_
 rintro q w1 ⟨u,rfl,hu,hb⟩
 have F1:=h_ (F0.out.call hb)
 have X1:=h_ (X0.out.below hb)
 clear F0 X0
 have U1:=h_ (hu)
 clear hb
 have c0_1:=F1.out.c3 0 rfl
 clear X1
 obtain ⟨a3,k3,c3,rfl⟩:=U1.out.fm
 go_upto_region 2 with (fail)
 clear c0_1
 obtain ⟨f,p⟩:=F1.out.s3 0 rfl (.bool n) (.slice a3 k3 c3) (.int .i64 e) rfl rfl rfl
 generalize (World.setCell (World.setCell (World.setCell _ _ _) _ _) _ _)=W at f p ⊢
 have F2:=h_ (f)
 have U2:=h_ (U1.out.kp p)
 clear F1 U1
 clear f p
 simp only [List.set_cons_zero] at F2
 have c0_2:=F2.out.c3 0 rfl
 go_wp2_with fail
 clear c0_2
 refine (CT.out _ _ U2.out).mono ?_
 rintro q w3 ⟨rfl,hb⟩
 have F3:=h_ (F2.out.call hb)
 have U3:=h_ (U2.out.below hb)
 clear F2 U2
 clear hb
 have c0_3:=F3.out.c3 0 rfl
 go_wp2_with fail
 clear c0_3
 refine (CB.out _ _ U3.out.dm).mono ?_
 rintro q w4 ⟨rfl,hb⟩
 have F4:=h_ (F3.out.call hb)
 have U4:=h_ (U3.out.below hb)
 clear F3 U3
 clear hb
 have c0_4:=F4.out.c3 0 rfl
 cases g <;> (go_wp2; go_ret; exact ⟨rfl,F4.out.b⟩)
theorem Split_no {w:World} {u:Value} {i:In} (hu:Iv w u i) (s1:Sd i.lo) (s2:Sd i.hi) {g1 g2:Bool} (h1:decide (topN (bareN i.lo) < 12)=g1) (h2:decide (topN (bareN i.hi) < 12)=g2) (hg:(g1 && g2)=false)
  (s:Nat) (hs:8≤s∧s≤8900) :
  Calls Tryz.prog 133 #[u,.int .i64 (s:Int)] w fun e w'=>e=.returned (.tuple #[.int .i64 0,.slice none 0 0,.slice none 0 0,.int .i64 1])∧Below w.heap.size w w':=by
 obtain ⟨⟨n,m,e⟩,⟨n',m',e'⟩⟩:=i
 simp only at s1 s2 h1 h2
 have CX:=h_ (fun w u (h:Cy w u ⟨n,m,e⟩)=>Xright_g h.ry s1 h1)
 have CY:=h_ (fun w u (h:Cy w u ⟨n',m',e'⟩)=>Xright_g h.ry s2 h2)
 have z1:decide ((s:Int) < 8)=false:=decide_eq_false (by omega)
 have z2:decide ((8900:Int) < (s:Int))=false:=decide_eq_false (by omega)
 have z5:decide (s < 8)=false:=decide_eq_false (by omega)
 have z6:decide (8900 < s)=false:=decide_eq_false (by omega)
 obtain ⟨a1,k1,c1,a2,k2,c2,rfl,hx1,hy1⟩:=hu.fm
 have HX:=h_ hx1
 have HY:=h_ hy1
 clear hu hx1 hy1 s1 s2 hs h1 h2
 go_enter Tryz.func133,Tryz.ntmps133
 have F0:=h_ (Fx.one w 92 #[.bool n,.slice a1 k1 c1,.int .i64 e,.bool n',.slice a2 k2 c2,.int .i64 e'] rfl)
 have X0:=h_ (HX.out.alloc (.cells #[.bool n,.slice a1 k1 c1,.int .i64 e,.bool n',.slice a2 k2 c2,.int .i64 e'] 92))
 have Y0:=h_ (HY.out.alloc (.cells #[.bool n,.slice a1 k1 c1,.int .i64 e,.bool n',.slice a2 k2 c2,.int .i64 e'] 92))
 clear HX HY
 go_upto_region 1 with (fail)
 generalize World.alloc _ _=w0 at F0 X0 Y0 ⊢
 have c0_0:=F0.out.c6 0 rfl
 go_wp2_with fail
 clear c0_0
 refine (CX.out _ _ X0.out).mono ?_
 rintro q w1 ⟨rfl,hb⟩
 have F1:=h_ (F0.out.call hb)
 have X1:=h_ (X0.out.below hb)
 have Y1:=h_ (Y0.out.below hb)
 clear F0 X0 Y0
 clear hb
 have c0_1:=F1.out.c6 0 rfl
 cases g1
 case false =>
  go_wp2
  refine bodyPost_ret (v:=.tuple #[.int .i64 0,.slice none 0 0,.slice none 0 0,.int .i64 1]) (by simp [results,Tryz.results133,go_sem]) rfl ?_
  exact ⟨rfl,F1.out.b⟩
 case true =>
  obtain rfl:g2=false:=hg
  go_wp2_with fail
  clear c0_1
  refine (CY.out _ _ Y1.out).mono ?_
  rintro q w2 ⟨rfl,hb⟩
  have F2:=h_ (F1.out.call hb)
  have X2:=h_ (X1.out.below hb)
  have Y2:=h_ (Y1.out.below hb)
  clear F1 X1 Y1
  clear hb
  have c0_2:=F2.out.c6 0 rfl
  go_wp2
  refine bodyPost_ret (v:=.tuple #[.int .i64 0,.slice none 0 0,.slice none 0 0,.int .i64 1]) (by simp [results,Tryz.results133,go_sem]) rfl ?_
  exact ⟨rfl,F2.out.b⟩
theorem XExp_ok {w:World} {u:Value} {i:In} (hu:Iv w u i) (s:Nat) (hs:8≤s∧s≤8900) {l h:Nat} {k:Int} (hk:-20000≤k∧k≤20000)
  (cs:∀ w u,Iv w u i→Calls Tryz.prog 133 #[u,.int .i64 (s:Int)] w fun e w'=>∃ x y,e=.returned (.tuple #[.int .i64 k,x,y,.int .i64 0])∧Dg w' x l∧Dg w' y h∧Below w.heap.size w w')
  (hlh:l≤h) (hho:h≤2^s) (b1:bl (expP l h s).lo≤30000) (b2:bl (expP l h s).hi≤30000) :
  Calls Tryz.prog 93 #[u,.int .i64 (s:Int)] w fun e w'=>∃ r,e=.returned (.tuple #[r,.int .i64 0])∧Iv w' r (withinN (expP l h s).lo (expP l h s).hi (k - (s:Int)) false)∧Below w.heap.size w w':=by
 have bh:bl h≤10000:=Nat.le_trans (bl_pow_le (s:=s) (k:=1) (by omega) (by decide)) (by omega)
 have bl':bl l≤10000:=Nat.le_trans (bl_mono hlh) bh
 obtain ⟨sk,hsk⟩:∃ sk,sk=(s:Int) - k:=⟨_,rfl⟩
 have CS:=h_ cs
 have CE:=h_ (fun w u v (hu:Dg w u l) (hv:Dg w v h)=>SExp_r (hu.rd (Nat.le_trans bl' (by decide))) (hv.rd (Nat.le_trans bh (by decide))) s (by omega) hlh hho)
 have CW:=h_ (fun w u v (hu:Dg w u (expP l h s).lo) (hv:Dg w v (expP l h s).hi)=>Within_r (hu.rd (Nat.le_trans b1 (by decide))) (hv.rd (Nat.le_trans b2 (by decide))) false sk (k - (s:Int)) (by omega) (by omega) b1 b2)
 generalize withinN (expP l h s).lo (expP l h s).hi (k - (s:Int)) false=I at *
 generalize (expP l h s).lo=lo at *
 generalize (expP l h s).hi=hi at *
 have q1:(s:Int) - k=sk:=hsk.symm
 have q2:IntKind.i64.wrap sk=sk:=IntWalk.i64_in sk (by omega)
 obtain ⟨⟨tn,tm,te⟩,⟨tn',tm',te'⟩⟩:=I
 obtain ⟨⟨n,m,e⟩,⟨n',m',e'⟩⟩:=i
 obtain ⟨a1,k1,c1,a2,k2,c2,rfl,hx,hy⟩:=hu.fm
 have HU:=h_ hu
 clear hu hx hy cs hlh hho b1 b2 bh bl' hs hsk hk
 go_enter Tryz.func93,Tryz.ntmps93
 have F0:=h_ (Fx.two w 92 #[.bool n,.slice a1 k1 c1,.int .i64 e,.bool n',.slice a2 k2 c2,.int .i64 e'] 92 #[.bool false,.slice none 0 0,.int .i64 0,.bool false,.slice none 0 0,.int .i64 0] rfl rfl)
 have U0:=h_ ((HU.out.alloc (.cells #[.bool n,.slice a1 k1 c1,.int .i64 e,.bool n',.slice a2 k2 c2,.int .i64 e'] 92)).alloc (.cells #[.bool false,.slice none 0 0,.int .i64 0,.bool false,.slice none 0 0,.int .i64 0] 92))
 clear HU
 go_upto_region 1 with (fail)
 generalize World.alloc (World.alloc _ _) _=w0 at F0 U0 ⊢
 have c0_0:=F0.out.c6 0 rfl
 have c1_0:=F0.out.c6 1 rfl
 go_wp2_with fail
 clear c0_0 c1_0
 refine (CS.out _ _ U0.out).mono ?_
 rintro q w1 ⟨x,y,rfl,hx,hy,hb⟩
 have F1:=h_ (F0.out.call hb)
 have U1:=h_ (U0.out.below hb)
 clear F0 U0
 have P1:=h_ (hx)
 have Q1:=h_ (hy)
 clear hb
 have c0_1:=F1.out.c6 0 rfl
 have c1_1:=F1.out.c6 1 rfl
 obtain ⟨a5,k5,c5,rfl⟩:=P1.out.form
 obtain ⟨a6,k6,c6,rfl⟩:=Q1.out.form
 clear U1
 go_wp2_with fail
 clear c0_1 c1_1
 refine (CE.out _ _ _ P1.out Q1.out).mono ?_
 rintro q w2 ⟨x,y,rfl,hx,hy,hb⟩
 have F2:=h_ (F1.out.call hb)
 have P2:=h_ (P1.out.below hb)
 have Q2:=h_ (Q1.out.below hb)
 clear F1 P1 Q1
 have V2:=h_ (hx)
 have Y2:=h_ (hy)
 clear hb
 have c0_2:=F2.out.c6 0 rfl
 have c1_2:=F2.out.c6 1 rfl
 obtain ⟨a7,k7,c7,rfl⟩:=V2.out.form
 obtain ⟨a8,k8,c8,rfl⟩:=Y2.out.form
 clear P2 Q2
 go_wp2_with fail
 clear c0_2 c1_2
 refine (CW.out _ _ _ V2.out Y2.out).mono ?_
 rintro q w3 ⟨u,rfl,hu,hb⟩
 have F3:=h_ (F2.out.call hb)
 have V3:=h_ (V2.out.below hb)
 have Y3:=h_ (Y2.out.below hb)
 clear F2 V2 Y2
 have J3:=h_ (hu)
 clear hb
 have c0_3:=F3.out.c6 0 rfl
 have c1_3:=F3.out.c6 1 rfl
 clear V3 Y3
 obtain ⟨b9,e9,d9,b0,e0,d0,rfl,h1,h2⟩:=J3.out.fm
 clear h1 h2
 go_upto_region 6 with (fail)
 clear c0_3 c1_3
 have F4:=h_ (F3.out.new 92 #[.bool tn,.slice b9 e9 d9,.int .i64 te,.bool tn',.slice b0 e0 d0,.int .i64 te'] rfl)
 have J4:=h_ (J3.out.alloc (.cells #[.bool tn,.slice b9 e9 d9,.int .i64 te,.bool tn',.slice b0 e0 d0,.int .i64 te'] 92))
 clear F3 J3
 obtain ⟨g2,hg2⟩:∃ g,g=(World.heap w3).size:=⟨_,rfl⟩
 rw [← hg2] at F4 ⊢
 clear hg2
 simp only [List.nil_append,List.cons_append] at F4
 generalize World.alloc w3 _=W4 at F4 J4 ⊢
 have c0_4:=F4.out.c6 0 rfl
 have c1_4:=F4.out.c6 1 rfl
 have c2_4:=F4.out.c6 2 rfl
 go_wp2
 obtain ⟨f0,p0⟩:=F4.out.s6 1 rfl (.bool tn) (.slice b9 e9 d9) (.int .i64 te) (.bool tn') (.slice b0 e0 d0) (.int .i64 te') rfl rfl rfl rfl rfl rfl
 have p:=p0
 have f:=f0
 clear f0 p0
 generalize (World.setCell (World.setCell (World.setCell (World.setCell (World.setCell (World.setCell _ _ _) _ _) _ _) _ _) _ _) _ _)=W at f p ⊢
 have g1:=f.c6 1 rfl
 refine bodyPost_ret (v:=.tuple #[.agg #[.bool tn,.slice b9 e9 d9,.int .i64 te,.bool tn',.slice b0 e0 d0,.int .i64 te'],.int .i64 0]) (by simp [results,Tryz.results93,go_sem,g1]) rfl ?_
 exact ⟨_,rfl,J4.out.kp p,f.b⟩
theorem XExp_no {w:World} {u:Value} {i:In} (hu:Iv w u i) (s:Nat)
  (cs:∀ w u,Iv w u i→Calls Tryz.prog 133 #[u,.int .i64 (s:Int)] w fun e w'=>e=.returned (.tuple #[.int .i64 0,.slice none 0 0,.slice none 0 0,.int .i64 1])∧Below w.heap.size w w') :
  Calls Tryz.prog 93 #[u,.int .i64 (s:Int)] w fun e w'=>e=.returned (.tuple #[.agg #[.bool false,.slice none 0 0,.int .i64 0,.bool false,.slice none 0 0,.int .i64 0],.int .i64 1])∧Below w.heap.size w w':=by
 have CS:=h_ cs
 obtain ⟨⟨n,m,e⟩,⟨n',m',e'⟩⟩:=i
 obtain ⟨a1,k1,c1,a2,k2,c2,rfl,hx,hy⟩:=hu.fm
 have HU:=h_ hu
 clear hu hx hy cs
 go_enter Tryz.func93,Tryz.ntmps93
 have F0:=h_ (Fx.two w 92 #[.bool n,.slice a1 k1 c1,.int .i64 e,.bool n',.slice a2 k2 c2,.int .i64 e'] 92 #[.bool false,.slice none 0 0,.int .i64 0,.bool false,.slice none 0 0,.int .i64 0] rfl rfl)
 have U0:=h_ ((HU.out.alloc (.cells #[.bool n,.slice a1 k1 c1,.int .i64 e,.bool n',.slice a2 k2 c2,.int .i64 e'] 92)).alloc (.cells #[.bool false,.slice none 0 0,.int .i64 0,.bool false,.slice none 0 0,.int .i64 0] 92))
 clear HU
 go_upto_region 1 with (fail)
 generalize World.alloc (World.alloc _ _) _=w0 at F0 U0 ⊢
 have c0_0:=F0.out.c6 0 rfl
 have c1_0:=F0.out.c6 1 rfl
 go_wp2_with fail
 clear c0_0 c1_0
 refine (CS.out _ _ U0.out).mono ?_
 rintro q w1 ⟨rfl,hb⟩
 have F1:=h_ (F0.out.call hb)
 have U1:=h_ (U0.out.below hb)
 clear F0 U0
 clear hb
 have c0_1:=F1.out.c6 0 rfl
 have c1_1:=F1.out.c6 1 rfl
 go_wp2
 obtain ⟨f0,p0⟩:=F1.out.s6 1 rfl (.bool false) (.slice none 0 0) (.int .i64 0) (.bool false) (.slice none 0 0) (.int .i64 0) rfl rfl rfl rfl rfl rfl
 have p:=p0
 have f:=f0
 clear f0 p0
 generalize (World.setCell (World.setCell (World.setCell (World.setCell (World.setCell (World.setCell _ _ _) _ _) _ _) _ _) _ _) _ _)=W at f p ⊢
 have g1:=f.c6 1 rfl
 refine bodyPost_ret (v:=.tuple #[.agg #[.bool false,.slice none 0 0,.int .i64 0,.bool false,.slice none 0 0,.int .i64 0],.int .i64 1]) (by simp [results,Tryz.results93,go_sem,g1]) rfl ?_
 exact ⟨rfl,f.b⟩
theorem units_floor {d:Dn} {s K:Nat} (h1:-(K:Int)≤(bareN d).e) (h2:s≤K):unitsN d s false * 2^(K - s)≤mz K (bareN d):=by
 unfold unitsN mz
 generalize bareN d=D at *
 obtain ⟨n,m,e⟩:=D
 simp only at h1 ⊢
 by_cases h:0≤e+(s:Int)
 ·rw [if_pos h,Nat.mul_assoc,← Nat.pow_add,show (e+(s:Int)).toNat+(K - s)=(e+(K:Int)).toNat by omega]
  exact Nat.le_refl _
 ·rw [if_neg h,if_neg (by simp)]
  rw [show K - s=(-e - (s:Int)).toNat+(e+(K:Int)).toNat by omega,Nat.pow_add,← Nat.mul_assoc]
  exact Nat.mul_le_mul_right _ (Nat.div_mul_le_self _ _)
theorem units_ceil {d:Dn} {s K:Nat} (h1:-(K:Int)≤(bareN d).e) (h2:s≤K):mz K (bareN d)≤unitsN d s true * 2^(K - s):=by
 unfold unitsN mz
 generalize bareN d=D at *
 obtain ⟨n,m,e⟩:=D
 simp only at h1 ⊢
 by_cases h:0≤e+(s:Int)
 ·rw [if_pos h,Nat.mul_assoc,← Nat.pow_add,show (e+(s:Int)).toNat+(K - s)=(e+(K:Int)).toNat by omega]
  exact Nat.le_refl _
 ·rw [if_neg h,show K - s=(-e - (s:Int)).toNat+(e+(K:Int)).toNat by omega,Nat.pow_add,← Nat.mul_assoc]
  refine Nat.mul_le_mul_right _ ?_
  have hd:=Nat.div_add_mod m (2^(-e - (s:Int)).toNat)
  have hp:=Nat.mod_lt m (Nat.two_pow_pos (-e - (s:Int)).toNat)
  generalize 2^(-e - (s:Int)).toNat=P at *
  by_cases hz:m % P=0
  ·rw [if_neg (by simp [hz])]
   rw [Nat.mul_comm]; omega
  ·rw [if_pos (by simp [hz]),Nat.add_mul,Nat.one_mul,Nat.mul_comm]; omega
theorem bare_bare {d:Dn} (he:-100000≤d.e∧d.e≤100000) (hb:bl d.m≤50000):bareN (bareN d)=bareN d:=by
 obtain ⟨n,m,e⟩:=d
 simp only at he hb
 by_cases h0:m=0
 ·subst h0
  rw [bareN_zero (d:=⟨n,0,e⟩) rfl]; exact bareN_zero rfl
 ·obtain ⟨k,j,hw,hd,hl⟩:=bareN_full (n:=n) h0 he
  rw [hd]
  exact bareN_odd (by omega)
theorem units_le {d:Dn} {s:Nat} {a:Bool} (sd:Sd d) (ht:topN (bareN d) < 12):unitsN d s a≤2^(12+s):=by
 have hbb:=bare_bare (d:=d) ⟨by have:=sd.2.1; omega,by have:=sd.2.2; omega⟩ (Nat.le_trans sd.1 (by decide))
 unfold topN at ht
 rw [hbb] at ht
 unfold unitsN
 generalize bareN d=D at *
 obtain ⟨n,m,e⟩:=D
 simp only at ht ⊢
 by_cases h0:m=0
 ·subst h0
  have hp:=Nat.two_pow_pos (12+s)
  split
  ·simp
  ·simp
 rw [if_neg h0] at ht
 have hlt:=lt_bl m
 have key:∀ k:Nat,(bl m:Int)+e+s≤(12+s:Nat):=fun _=>by omega
 by_cases h:0≤e+(s:Int)
 ·rw [if_pos h]
  have h1:m * 2^(e+(s:Int)).toNat < 2^bl m * 2^(e+(s:Int)).toNat:=Nat.mul_lt_mul_of_pos_right hlt (Nat.two_pow_pos _)
  rw [← Nat.pow_add] at h1
  have h2:2^(bl m+(e+(s:Int)).toNat)≤2^(12+s):=Nat.pow_le_pow_right (by decide) (by omega)
  exact Nat.le_trans (Nat.le_of_lt h1) h2
 ·rw [if_neg h]
  have h3:m / 2^(-e - (s:Int)).toNat < 2^(12+s):=by
   refine Nat.div_lt_of_lt_mul ?_
   rw [← Nat.pow_add]
   exact Nat.lt_of_lt_of_le hlt (Nat.pow_le_pow_right (by decide) (by omega))
  split
  ·exact h3
  ·exact Nat.le_of_lt h3
structure ExpOf (Z:In) (s:Nat) (I:In) (n1 n2:Bool) (l h c d q x y:Nat):Prop where
 hn1:decide (signN Z.lo < 0)=n1
 hn2:decide (signN Z.hi < 0)=n2
 hl:unitsN Z.lo s n1=l
 hh:unitsN Z.hi s (!n2)=h
 ec:(atanhP 1 3 s).lo+(atanhP 1 3 s).lo=c
 ed:(atanhP 1 3 s).hi+(atanhP 1 3 s).hi=d
 hq:spQ n1 l c d=q
 hx:spX n1 l c d q=x
 hy:spY n1 n2 h c d q=y
 hy2:y≤2^s
 hxy:x≤y
 hk:-8193≤spK n1 q∧spK n1 q≤8193
 hI:I=withinN (expP x y s).lo (expP x y s).hi (spK n1 q - (s:Int)) false
theorem within_qe {lo hi:Nat} {e:Int} (h1:bl lo≤4000) (h2:bl hi≤4000) (he:-19000≤e∧e≤15000):QE (withinN lo hi e false):=by
 have a1:=EndI.of h1 he
 have a2:=EndI.of h2 he
 obtain ⟨p1,p2⟩:=withinN_all (P:=EndI) a1 a2
 refine ⟨p1,p2,?_⟩
 unfold withinN
 have hc:=CmpD_zk (K:=20000) (by decide) a1.zk a2.zk
 have hc2:=CmpD_zk (K:=20000) (by decide) a2.zk a1.zk
 split
 ·rename_i h
  rw [hc,cmpI_pos_iff] at h
  show CmpD _ _≤0
  rw [hc2]
  apply Int.not_lt.1
  rw [cmpI_pos_iff]
  omega
 ·rename_i h
  exact Int.not_lt.1 h
def eN (d:Dn):Bool:=decide (signN d < 0)
def eQ (Z:In) (s:Nat):Nat:=spQ (eN Z.lo) (unitsN Z.lo s (eN Z.lo)) ((atanhP 1 3 s).lo+(atanhP 1 3 s).lo) ((atanhP 1 3 s).hi+(atanhP 1 3 s).hi)
def eX (Z:In) (s:Nat):Nat:=spX (eN Z.lo) (unitsN Z.lo s (eN Z.lo)) ((atanhP 1 3 s).lo+(atanhP 1 3 s).lo) ((atanhP 1 3 s).hi+(atanhP 1 3 s).hi) (eQ Z s)
def eY (Z:In) (s:Nat):Nat:=spY (eN Z.lo) (eN Z.hi) (unitsN Z.hi s (!eN Z.hi)) ((atanhP 1 3 s).lo+(atanhP 1 3 s).lo) ((atanhP 1 3 s).hi+(atanhP 1 3 s).hi) (eQ Z s)
def expI (Z:In) (s:Nat):In:=withinN (expP (eX Z s) (eY Z s) s).lo (expP (eX Z s) (eY Z s) s).hi (spK (eN Z.lo) (eQ Z s) - (s:Int)) false
def fitsE (Z:In) (s:Nat):Bool:=decide (topN (bareN Z.lo) < 12) && decide (topN (bareN Z.hi) < 12) && decide (eY Z s≤2^s)
theorem ExpOf.is {Z I:In} {s:Nat} {n1 n2:Bool} {l h c d q x y:Nat} (E:ExpOf Z s I n1 n2 l h c d q x y):I=expI Z s:=by
 obtain ⟨rfl,rfl,rfl,rfl,rfl,rfl,rfl,rfl,rfl,-,-,-,hI⟩:=E
 exact hI
theorem exp_any {Z:In} (s1:Sd Z.lo) (s2:Sd Z.hi) (hc:CmpD Z.lo Z.hi≤0) (s:Nat) (hs:8≤s∧s≤3000) :
  (∃ I,QE I∧(∃ n1 n2 l h c d q x y,ExpOf Z s I n1 n2 l h c d q x y)∧∀ w u,Iv w u Z→Calls Tryz.prog 93 #[u,.int .i64 (s:Int)] w fun e w'=>∃ r,e=.returned (.tuple #[r,.int .i64 0])∧Iv w' r I∧Below w.heap.size w w') ∨
  fitsE Z s=false∧(∀ w u,Iv w u Z→Calls Tryz.prog 93 #[u,.int .i64 (s:Int)] w fun e w'=>e=.returned (.tuple #[.agg #[.bool false,.slice none 0 0,.int .i64 0,.bool false,.slice none 0 0,.int .i64 0],.int .i64 1])∧Below w.heap.size w w'):=by
 have hcc:=hc
 by_cases hg:(decide (topN (bareN Z.lo) < 12) && decide (topN (bareN Z.hi) < 12))=false
 ·exact .inr ⟨by unfold fitsE; rw [hg,Bool.false_and],fun w u hu=>XExp_no hu s fun w u h=>Split_no h s1 s2 rfl rfl hg s (by omega)⟩
 have t1:topN (bareN Z.lo) < 12:=by apply Classical.byContradiction; intro h; exact hg (by simp [h])
 have t2:topN (bareN Z.hi) < 12:=by apply Classical.byContradiction; intro h; exact hg (by simp [h])
 clear hg
 obtain ⟨n1,hn1⟩:∃ n1,decide (signN Z.lo < 0)=n1:=⟨_,rfl⟩
 obtain ⟨n2,hn2⟩:∃ n2,decide (signN Z.hi < 0)=n2:=⟨_,rfl⟩
 obtain ⟨l,hl⟩:∃ l,unitsN Z.lo s n1=l:=⟨_,rfl⟩
 obtain ⟨h,hh⟩:∃ h,unitsN Z.hi s (!n2)=h:=⟨_,rfl⟩
 obtain ⟨c,ec⟩:∃ c,(atanhP 1 3 s).lo+(atanhP 1 3 s).lo=c:=⟨_,rfl⟩
 obtain ⟨d,ed⟩:∃ d,(atanhP 1 3 s).hi+(atanhP 1 3 s).hi=d:=⟨_,rfl⟩
 obtain ⟨q,hq⟩:∃ q,spQ n1 l c d=q:=⟨_,rfl⟩
 obtain ⟨x,hx⟩:∃ x,spX n1 l c d q=x:=⟨_,rfl⟩
 obtain ⟨y,hy⟩:∃ y,spY n1 n2 h c d q=y:=⟨_,rfl⟩
 have cl:=ln2_low hs.1
 have co:=ln2_ord s
 have ct:=ln2_top hs.2
 have l1:=units_le (s:=s) (a:=n1) s1 t1
 have h1:=units_le (s:=s) (a:=!n2) s2 t2
 rw [hl] at l1
 rw [hh] at h1
 have sb1:=s1.bare
 have sb2:=s2.bare
 have f1:=units_floor (d:=Z.lo) (s:=s) (K:=8000) (by omega) (by omega)
 have f2:=units_floor (d:=Z.hi) (s:=s) (K:=8000) (by omega) (by omega)
 have g1:=units_ceil (d:=Z.lo) (s:=s) (K:=8000) (by omega) (by omega)
 have g2:=units_ceil (d:=Z.hi) (s:=s) (K:=8000) (by omega) (by omega)
 have zk1:Zk (8000:Nat) Z.lo:=⟨by have:=s1.2.1; omega,by have:=s1.2.1; omega,by have:=s1.2.2; omega⟩
 have zk2:Zk (8000:Nat) Z.hi:=⟨by have:=s2.2.1; omega,by have:=s2.2.1; omega,by have:=s2.2.2; omega⟩
 rw [mz_bareN (by decide) zk1.1 zk1.2] at f1 g1
 rw [mz_bareN (by decide) zk2.1 zk2.2] at f2 g2
 rw [CmpD_zk (K:=(8000:Nat)) (by decide) zk1 zk2] at hc
 have hz:zv (8000:Nat) Z.lo≤zv (8000:Nat) Z.hi:=by
  apply Int.not_lt.1; intro hlt; have:=cmpI_pos_iff.2 hlt; omega
 have m1:=mz_abs (8000:Nat) Z.lo
 have m2:=mz_abs (8000:Nat) Z.hi
 have n1z:n1=true ↔ zv (8000:Nat) Z.lo < 0:=by
  rw [← hn1,decide_eq_true_iff,signN_is (K:=(8000:Nat)),cmpI_neg_iff]
 have n2z:n2=true ↔ zv (8000:Nat) Z.hi < 0:=by
  rw [← hn2,decide_eq_true_iff,signN_is (K:=(8000:Nat)),cmpI_neg_iff]
 have hP:=Nat.two_pow_pos (8000 - s)
 have hord:(n1=true→n2=true→h≤l)∧(n1=false→n2=false∧l≤h):=by
  constructor
  ·intro e1 e2
   have z1:=n1z.1 e1
   have z2:=n2z.1 e2
   rw [e1] at hl
   rw [e2] at hh
   rw [hl] at g1
   rw [show (!true)=false from rfl] at hh
   rw [hh] at f2
   exact Nat.le_of_mul_le_mul_right (c:=2^(8000 - s)) (by omega) hP
  ·intro e1
   have z1:¬ zv (8000:Nat) Z.lo < 0:=fun hlt=>by have:=n1z.2 hlt; rw [e1] at this; cases this
   have e2:n2=false:=by
    cases n2
    ·rfl
    ·have:=n2z.1 rfl; omega
   refine ⟨e2,?_⟩
   rw [e1] at hl
   rw [e2] at hh
   rw [hl] at f1
   rw [show (!false)=true from rfl] at hh
   rw [hh] at g2
   exact Nat.le_of_mul_le_mul_right (c:=2^(8000 - s)) (by omega) hP
 clear f1 f2 g1 g2 m1 m2 n1z n2z hz hP zk1 zk2 sb1 sb2
 rw [ec] at cl
 have e12:2^(12+s)=4096 * 2^s:=Nat.pow_add 2 12 s
 have hcd:c≤d:=by rw [← ec,← ed]; exact Nat.add_le_add co co
 have c0:0 < c:=by have:=Nat.two_pow_pos s; omega
 have hl8:l≤8192 * c:=by omega
 have hq8:q≤8193:=by
  rw [← hq]
  unfold spQ
  split
  ·have h3:l / c≤8192:=by
    have:=Nat.div_le_of_le_mul (m:=l) (k:=c) (n:=8192) (by rw [Nat.mul_comm]; exact hl8)
    exact this
   split <;> omega
  ·have h3:l / d≤8192:=Nat.div_le_of_le_mul (by rw [Nat.mul_comm]; exact Nat.le_trans hl8 (Nat.mul_le_mul_left _ hcd))
   omega
 have hlq:n1=true→l≤q * c:=by
  intro e1
  rw [← hq,e1]
  unfold spQ
  rw [if_pos rfl]
  have hd:=Nat.div_add_mod l c
  have hm:=Nat.mod_lt l c0
  split
  ·rw [Nat.mul_comm]; omega
  ·rw [Nat.add_mul,Nat.one_mul,Nat.mul_comm]; omega
 have hqcd:q * c≤q * d:=Nat.mul_le_mul_left _ hcd
 have hql:n1=false→q * d≤l∧l % d=l - q * d:=by
  intro e1
  have e2:q=l / d:=by rw [← hq,e1]; rfl
  have hd:=Nat.div_add_mod l d
  rw [e2,Nat.mul_comm]
  omega
 have bs:∀ v:Nat,v≤2^(12+s)→bl v≤4000:=fun v hv=>Nat.le_trans (bl_le (k:=12+s+1) (Nat.lt_of_le_of_lt hv (Nat.pow_lt_pow_right (by decide) (by omega)))) (by omega)
 have bt:∀ v:Nat,v≤2^(s+12)→bl v≤4000:=fun v hv=>bs v (by rw [Nat.add_comm]; exact hv)
 have b1:bl (atanhP 1 3 s).lo≤4000:=bt _ (Nat.le_trans co ct)
 have b2:bl (atanhP 1 3 s).hi≤4000:=bt _ ct
 have bc:bl c≤4001:=by rw [← ec]; exact bl_sum b1 b1
 have bd:bl d≤4001:=by rw [← ed]; exact bl_sum b2 b2
 have bq:bl q≤64:=bl64 (by omega)
 have hxy:x≤y:=by
  rw [← hx,← hy]
  unfold spX spY
  cases n1
  ·obtain ⟨e2,h3⟩:=hord.2 rfl
   obtain ⟨h4,h5⟩:=hql rfl
   rw [if_neg (by simp),if_neg (by simp),h5]
   omega
  ·rw [if_pos rfl,if_pos rfl]
   have h3:=hlq rfl
   unfold plusN
   cases n2
   ·rw [if_neg (by simp)]; omega
   ·have h4:=hord.1 rfl rfl
    rw [if_pos rfl]; omega
 have hk:-8193≤spK n1 q∧spK n1 q≤8193:=by
  unfold spK
  split <;> omega
 have hmn:∀ PP:Ending→World→Prop,∀ w u,Iv w u Z→(∀ w' u v,y≤2^s→Dg w' u x→Dg w' v y→Below w.heap.size w w'→PP (.returned (.tuple #[.int .i64 (spK n1 q),u,v,.int .i64 0])) w') →
   (∀ w',2^s < y→Below w.heap.size w w'→PP (.returned (.tuple #[.int .i64 0,.slice none 0 0,.slice none 0 0,.int .i64 1])) w')→Calls Tryz.prog 133 #[u,.int .i64 (s:Int)] w PP:=by
  intro PP w u hu ok bad
  refine Split_g hu s1 s2 ?_ t1 t2 hn1 hn2 s (by omega) hl hh ec ed (Nat.le_trans b1 (by decide)) (Nat.le_trans b2 (by decide)) (Nat.le_trans (bs _ l1) (by decide)) (Nat.le_trans (bs _ h1) (by decide)) (by omega) (by omega) c0 (by omega) hq (by omega) hx hy hlq ?_ ?_ (Nat.le_trans (bl_mul q c) (by omega)) (Nat.le_trans (bl_mul q d) (by omega)) ok bad
  ·exact hcc
  ·intro e1 e2
   exact Nat.le_trans (hord.1 e1 e2) (Nat.le_trans (hlq e1) hqcd)
  ·intro e1
   exact ⟨(hord.2 e1).1,Nat.le_trans hqcd (Nat.le_trans (hql e1).1 (hord.2 e1).2)⟩
 by_cases hy2:y≤2^s
 ·left
  have hx2:x≤2^s:=Nat.le_trans hxy hy2
  have he:=expP_le hx2 hy2
  have hp:=pow12' hs.2
  have x1:=bt _ (Nat.le_trans he.1 hp)
  have x2:=bt _ (Nat.le_trans he.2 hp)
  refine ⟨_,within_qe x1 x2 (by omega),⟨n1,n2,l,h,c,d,q,x,y,hn1,hn2,hl,hh,ec,ed,hq,hx,hy,hy2,hxy,hk,rfl⟩,fun w u hu=>?_⟩
  exact XExp_ok hu s (by omega) (by omega) (fun w u hu=>hmn _ w u hu (fun w' u v _ h1 h2 h3=>⟨u,v,rfl,h1,h2,h3⟩) (fun w' hlt _=>absurd hy2 (by omega))) hxy hy2 (Nat.le_trans x1 (by decide)) (Nat.le_trans x2 (by decide))
 ·right
  have ey:eY Z s=y:=by unfold eY eQ eN; rw [hn1,hn2,hl,hh,ec,ed,hq,hy]
  refine ⟨by unfold fitsE; rw [ey,decide_eq_false hy2,Bool.and_false],?_⟩
  exact fun w u hu=>XExp_no hu s fun w u hu=>hmn _ w u hu (fun w' u v hle _ _ _=>absurd hle hy2) (fun w' _ hb=>⟨rfl,hb⟩)
end Go.Proofs.YtobpioceopfkpaaGreatDoor
