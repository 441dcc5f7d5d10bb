/-
  Lemmas for WholeTurned and WholeGrows and WholeRises, part 35 of 36: what the program's functions do, and plain facts; without conditions.
-/
import Derived.Test.YtobpioceopfkpaaGreatDoorM18
import Derived.Test.YtobpioceopfkpaaGreatDoorM17
import Derived.BigQuiet
import Derived.Test.YtobpioceopfkpaaGreatDoorM33
import Derived.Deep.RegionHeld3
import Derived.Test.YtobpioceopfkpaaGreatDoorM34
set_option maxRecDepth 100000
set_option maxHeartbeats 4000000
namespace Go.Proofs.YtobpioceopfkpaaGreatDoor
open Go.RowKit
theorem dyad_r {b:Nat} (hb:b < 18446744073709551616) (hf:fld b < 2047) {w:World} (t:Tab w):Calls Tryz.prog 15 #[.int .u64 (b:Int)] w fun e w'=>∃ u,e=.returned (.tuple #[u,.bool true])∧Cy w' u (dyD b)∧Below w.heap.size w w':=by
 have C1:=h_ (fun w=>finite_r hb w)
 have C2:=h_ (fun w=>field_r hb w)
 have C3:=h_ (fun w=>neg_r hb w)
 rw [decide_eq_true hf] at C1
 have h1:=and_frac hb
 have h3:b % 4503599627370496=frc b:=rfl
 rw [h3] at h1
 have hr:frc b < 4503599627370496:=Nat.mod_lt _ (by decide)
 have h5:=or_hidden hr
 have hml:=mant_lt b
 have hm:mant b=if fld b=0 then frc b else frc b+4503599627370496:=rfl
 obtain ⟨e,he⟩:∃ e,e=dyE b:=⟨_,rfl⟩
 have he2:e=max (fld b:Int) 1 - 1075:=he
 have heb:-1074≤e∧e≤1000:=by omega
 obtain ⟨mx,hmx⟩:∃ x,x=max (fld b:Int) 1:=⟨_,rfl⟩
 have q1:max (fld b:Int) 1=mx:=hmx.symm
 have q2:IntKind.i64.wrap (mx - 1075)=e:=by rw [IntWalk.i64_in _ (by omega)]; omega
 have CM:=h_ (fun w (h:Rd w (.slice (some ⟨w.heap.size - 1,0,none⟩) 1 1) (mant b))=>h)
 have HD:dyD b=bareN ⟨sgn b,mant b,e⟩:=by rw [he]; rfl
 rw [HD]
 have CK:=h_ (fun w u (h:Rd w u (mant b))=>Make_s (neg:=sgn b) (e:=e) h (Nat.le_trans (bl64 (by omega)) (by decide)) (by omega))
 generalize bareN ⟨sgn b,mant b,e⟩=R at *
 obtain ⟨rn,rm,re⟩:=R
 generalize fld b=f at *
 generalize frc b=r at *
 generalize sgn b=g at *
 generalize mant b=m at *
 have HT:=h_ t
 have HM:=h_ hm
 have HML:=h_ hml
 have HE:=h_ he2
 clear h3 he he2 heb hmx HD CM t hm hml
 by_cases hf0:f=0
 ·subst hf0
  obtain rfl:m=r:=HM.out
  obtain rfl:e=-1074:=by have:=HE.out; omega
  clear q1 q2 HE
  go_enter Tryz.func15,Tryz.ntmps15
  go_upto_region 1 with (fail)
  have F0:=h_ (Fx.one w 42 #[.bool false,.slice none 0 0,.int .i64 0] rfl)
  have T0:=h_ (HT.out.alloc (.cells #[.bool false,.slice none 0 0,.int .i64 0] 42))
  generalize World.alloc _ _=w0 at F0 T0 ⊢
  have c0:=F0.out.c3 0 rfl
  go_wp2_with fail
  refine (C1.out _).mono ?_
  rintro q w1 ⟨rfl,rfl⟩
  go_wp2_with fail
  refine (C2.out _).mono ?_
  rintro q w1 ⟨rfl,rfl⟩
  go_wp2_with fail
  refine (C3.out _).mono ?_
  rintro q w1 ⟨rfl,rfl⟩
  go_wp2_with fail
  have hR:=raw_rd (raw_one T0.out (n:=m) (by have:=HML.out; omega))
  have F1:=h_ (F0.out.alloc (.cells #[.int .u64 (m:Int)] 22))
  clear c0
  refine (CK.out _ _ hR).mono ?_
  rintro q w2 ⟨u,rfl,hu,hb⟩
  have F2:=h_ (F1.out.call hb)
  have U2:=h_ hu
  clear hb hR F1
  obtain ⟨a3,k3,c3,rfl⟩:=U2.out.fm
  go_upto_region 7 with (fail)
  have F3:=h_ (F2.out.new 42 #[.bool rn,.slice a3 k3 c3,.int .i64 re] rfl)
  have U3:=h_ (U2.out.alloc (.cells #[.bool rn,.slice a3 k3 c3,.int .i64 re] 42))
  clear F2 U2
  obtain ⟨g1,hg1⟩:∃ g,g=(World.heap w2).size:=⟨_,rfl⟩
  rw [← hg1] at F3 ⊢
  clear hg1
  simp only [List.nil_append,List.cons_append] at F3
  generalize World.alloc w2 _=W3 at F3 U3 ⊢
  have c0_3:=F3.out.c3 0 rfl
  have c1_3:=F3.out.c3 1 rfl
  go_wp2
  obtain ⟨f0,p0⟩:=F3.out.s3 0 rfl (.bool rn) (.slice a3 k3 c3) (.int .i64 re) rfl rfl rfl
  have p:=p0
  have f:=f0
  clear f0 p0
  generalize (World.setCell (World.setCell (World.setCell _ _ _) _ _) _ _)=W at f p ⊢
  have g0:=f.c3 0 rfl
  refine bodyPost_ret (v:=.tuple #[.agg #[.bool rn,.slice a3 k3 c3,.int .i64 re],.bool true]) (by simp [results,Tryz.results15,go_sem,g0]) rfl ?_
  exact ⟨_,rfl,U3.out.kp p,f.b⟩
 ·have z0:decide (0 < (f:Int))=true:=decide_eq_true (by omega)
  have z0':decide (0 < f)=true:=decide_eq_true (by omega)
  have hmr:r+4503599627370496=m:=by rw [HM.out,if_neg hf0]
  rw [hmr] at h5
  clear hf0
  go_enter Tryz.func15,Tryz.ntmps15
  go_upto_region 1 with (fail)
  have F0:=h_ (Fx.one w 42 #[.bool false,.slice none 0 0,.int .i64 0] rfl)
  have T0:=h_ (HT.out.alloc (.cells #[.bool false,.slice none 0 0,.int .i64 0] 42))
  generalize World.alloc _ _=w0 at F0 T0 ⊢
  have c0:=F0.out.c3 0 rfl
  go_wp2_with fail
  refine (C1.out _).mono ?_
  rintro q w1 ⟨rfl,rfl⟩
  go_wp2_with fail
  refine (C2.out _).mono ?_
  rintro q w1 ⟨rfl,rfl⟩
  go_wp2_with fail
  refine (C3.out _).mono ?_
  rintro q w1 ⟨rfl,rfl⟩
  go_wp2_with fail
  have hR:=raw_rd (raw_one T0.out (n:=m) (by have:=HML.out; omega))
  have F1:=h_ (F0.out.alloc (.cells #[.int .u64 (m:Int)] 22))
  clear c0
  refine (CK.out _ _ hR).mono ?_
  rintro q w2 ⟨u,rfl,hu,hb⟩
  have F2:=h_ (F1.out.call hb)
  have U2:=h_ hu
  clear hb hR F1
  obtain ⟨a3,k3,c3,rfl⟩:=U2.out.fm
  go_upto_region 7 with (fail)
  have F3:=h_ (F2.out.new 42 #[.bool rn,.slice a3 k3 c3,.int .i64 re] rfl)
  have U3:=h_ (U2.out.alloc (.cells #[.bool rn,.slice a3 k3 c3,.int .i64 re] 42))
  clear F2 U2
  obtain ⟨g1,hg1⟩:∃ g,g=(World.heap w2).size:=⟨_,rfl⟩
  rw [← hg1] at F3 ⊢
  clear hg1
  simp only [List.nil_append,List.cons_append] at F3
  generalize World.alloc w2 _=W3 at F3 U3 ⊢
  have c0_3:=F3.out.c3 0 rfl
  have c1_3:=F3.out.c3 1 rfl
  go_wp2
  obtain ⟨f0,p0⟩:=F3.out.s3 0 rfl (.bool rn) (.slice a3 k3 c3) (.int .i64 re) rfl rfl rfl
  have p:=p0
  have f:=f0
  clear f0 p0
  generalize (World.setCell (World.setCell (World.setCell _ _ _) _ _) _ _)=W at f p ⊢
  have g0:=f.c3 0 rfl
  refine bodyPost_ret (v:=.tuple #[.agg #[.bool rn,.slice a3 k3 c3,.int .i64 re],.bool true]) (by simp [results,Tryz.results15,go_sem,g0]) rfl ?_
  exact ⟨_,rfl,U3.out.kp p,f.b⟩
theorem whole_f {b:Nat} (hb:b < 18446744073709551616) (hf:fld b < 2047) (he:(dyD b).e < 0) {w:World} (t:Tab w):Calls Tryz.prog 28 #[.int .u64 (b:Int)] w fun e w'=>e=.returned (.tuple #[.bool false,.bool false])∧Below w.heap.size w w':=by
 have C:=h_ (fun w (t:Tab w)=>dyad_r hb hf t)
 generalize dyD b=D at *
 obtain ⟨n,m,e⟩:=D
 simp only at he
 have z1:decide ((0:Int)≤e)=false:=decide_eq_false (by omega)
 have z2:(e == 0)=false:=beq_eq_false_iff_ne.2 (by omega)
 have HT:=h_ t
 clear t
 go_enter Tryz.func28,Tryz.ntmps28
 have F0:=h_ (Fx.nil w)
 go_wp2_with fail
 refine (C.out _ HT.out).mono ?_
 rintro q w1 ⟨u,rfl,hu,hb⟩
 have F1:=h_ (F0.out.call hb)
 clear F0
 have U1:=h_ (hu)
 clear hb
 obtain ⟨a3,k3,c3,rfl⟩:=U1.out.fm
 go_upto_region 2 with (fail)
 have F2:=h_ (F1.out.new 42 #[.bool n,.slice a3 k3 c3,.int .i64 e] rfl)
 have U2:=h_ (U1.out.alloc (.cells #[.bool n,.slice a3 k3 c3,.int .i64 e] 42))
 clear F1 U1
 obtain ⟨g1,hg1⟩:∃ g,g=(World.heap w1).size:=⟨_,rfl⟩
 rw [← hg1] at F2 ⊢
 clear hg1
 simp only [List.nil_append] at F2
 generalize World.alloc w1 _=W2 at F2 U2 ⊢
 have c0_2:=F2.out.c3 0 rfl
 clear he
 go_quiet (fail)
 go_wp2
 refine bodyPost_ret (v:=.tuple #[.bool false,.bool false]) (by simp [results,Tryz.results28,go_sem]) rfl ?_
 exact ⟨rfl,(F2.out.drewN _).b⟩
theorem signals_r {b:Nat} (hb:b < 18446744073709551616) (hf:fld b < 2047) (h0:¬ (fld b=0∧frc b=0)) (w:World):Calls Tryz.prog 59 #[.int .u64 (b:Int)] w fun e w'=>e=.returned (.bool false)∧w=w':=by
 have C:=h_ (fun w=>kind_r hb hf h0 w)
 have hk:(if fld b=0 then (1:Int) else 2)=1 ∨ (if fld b=0 then (1:Int) else 2)=2:=by split <;> simp
 generalize (if fld b=0 then (1:Int) else 2)=k at *
 clear hf h0
 rcases hk with rfl | rfl
 ·go_enter Tryz.func59,Tryz.ntmps59
  go_wp2_with fail
  refine (C.out _).mono ?_
  rintro q w1 ⟨rfl,rfl⟩
  go_wp2
  exact bodyPost_ret (v:=.bool false) (by simp [results,Tryz.results59,go_sem]) rfl ⟨rfl,rfl⟩
 ·go_enter Tryz.func59,Tryz.ntmps59
  go_wp2_with fail
  refine (C.out _).mono ?_
  rintro q w1 ⟨rfl,rfl⟩
  go_wp2
  exact bodyPost_ret (v:=.bool false) (by simp [results,Tryz.results59,go_sem]) rfl ⟨rfl,rfl⟩
theorem nought_r {b:Nat} (hb:b < 18446744073709551616) (hf:fld b < 2047) (h0:¬ (fld b=0∧frc b=0)) (w:World):Calls Tryz.prog 61 #[.int .u64 (b:Int)] w fun e w'=>e=.returned (.bool false)∧w=w':=by
 have C:=h_ (fun w=>kind_r hb hf h0 w)
 have hk:(if fld b=0 then (1:Int) else 2)=1 ∨ (if fld b=0 then (1:Int) else 2)=2:=by split <;> simp
 generalize (if fld b=0 then (1:Int) else 2)=k at *
 clear hf h0
 rcases hk with rfl | rfl
 ·go_enter Tryz.func61,Tryz.ntmps61
  go_wp2_with fail
  refine (C.out _).mono ?_
  rintro q w1 ⟨rfl,rfl⟩
  go_wp2
  exact bodyPost_ret (v:=.bool false) (by simp [results,Tryz.results61,go_sem]) rfl ⟨rfl,rfl⟩
 ·go_enter Tryz.func61,Tryz.ntmps61
  go_wp2_with fail
  refine (C.out _).mono ?_
  rintro q w1 ⟨rfl,rfl⟩
  go_wp2
  exact bodyPost_ret (v:=.bool false) (by simp [results,Tryz.results61,go_sem]) rfl ⟨rfl,rfl⟩
theorem nan_r {b:Nat} (hb:b < 18446744073709551616) (hf:fld b < 2047) (h0:¬ (fld b=0∧frc b=0)) (w:World):Calls Tryz.prog 63 #[.int .u64 (b:Int)] w fun e w'=>e=.returned (.bool false)∧w=w':=by
 have C:=h_ (fun w=>kind_r hb hf h0 w)
 have hk:(if fld b=0 then (1:Int) else 2)=1 ∨ (if fld b=0 then (1:Int) else 2)=2:=by split <;> simp
 generalize (if fld b=0 then (1:Int) else 2)=k at *
 clear hf h0
 rcases hk with rfl | rfl
 ·go_enter Tryz.func63,Tryz.ntmps63
  go_wp2_with fail
  refine (C.out _).mono ?_
  rintro q w1 ⟨rfl,rfl⟩
  go_wp2
  exact bodyPost_ret (v:=.bool false) (by simp [results,Tryz.results63,go_sem]) rfl ⟨rfl,rfl⟩
 ·go_enter Tryz.func63,Tryz.ntmps63
  go_wp2_with fail
  refine (C.out _).mono ?_
  rintro q w1 ⟨rfl,rfl⟩
  go_wp2
  exact bodyPost_ret (v:=.bool false) (by simp [results,Tryz.results63,go_sem]) rfl ⟨rfl,rfl⟩
theorem inf_r {b:Nat} (hb:b < 18446744073709551616) (hf:fld b < 2047) (h0:¬ (fld b=0∧frc b=0)) (w:World):Calls Tryz.prog 64 #[.int .u64 (b:Int)] w fun e w'=>e=.returned (.bool false)∧w=w':=by
 have C:=h_ (fun w=>kind_r hb hf h0 w)
 have hk:(if fld b=0 then (1:Int) else 2)=1 ∨ (if fld b=0 then (1:Int) else 2)=2:=by split <;> simp
 generalize (if fld b=0 then (1:Int) else 2)=k at *
 clear hf h0
 rcases hk with rfl | rfl
 ·go_enter Tryz.func64,Tryz.ntmps64
  go_wp2_with fail
  refine (C.out _).mono ?_
  rintro q w1 ⟨rfl,rfl⟩
  go_wp2
  exact bodyPost_ret (v:=.bool false) (by simp [results,Tryz.results64,go_sem]) rfl ⟨rfl,rfl⟩
 ·go_enter Tryz.func64,Tryz.ntmps64
  go_wp2_with fail
  refine (C.out _).mono ?_
  rintro q w1 ⟨rfl,rfl⟩
  go_wp2
  exact bodyPost_ret (v:=.bool false) (by simp [results,Tryz.results64,go_sem]) rfl ⟨rfl,rfl⟩
def howV (z tt:Int):Value:=.agg #[.int .i64 z,.int .i64 64,.int .i64 tt,.pointer none]
def RetA (x y:Dn) (z tt:Int) (w:World) (e:Ending) (w':World):Prop:=∃ r,e=.returned r∧Ak w' r x y z tt∧Below w.heap.size w w'
theorem ask_r {w:World} {u v:Value} {x y:Dn} (hu:Cy w u x) (hv:Cy w v y) (z tt:Int):Calls Tryz.prog 69 #[u,v,.int .u64 1,.bool false,howV z tt] w (RetA x y z tt w):=by
 obtain ⟨xn,xm,xe⟩:=x
 obtain ⟨yn,ym,ye⟩:=y
 obtain ⟨a1,k1,c1,rfl⟩:=hu.fm
 obtain ⟨a2,k2,c2,rfl⟩:=hv.fm
 have HU:=h_ hu
 have HV:=h_ hv
 clear hu hv
 unfold howV
 go_enter Tryz.func69,Tryz.ntmps69
 have F0:=h_ (Fz.four w 42 #[.bool xn,.slice a1 k1 c1,.int .i64 xe] 42 #[.bool yn,.slice a2 k2 c2,.int .i64 ye] 28 #[.int .i64 z,.int .i64 64,.int .i64 tt,.pointer none] 58 #[.bool false,.slice none 0 0,.int .i64 0,.bool false,.slice none 0 0,.int .i64 0,.int .u64 0,.bool false,.int .i64 0,.int .i64 0,.int .i64 0])
 go_upto_region 1 with (fail)
 generalize World.alloc (World.alloc (World.alloc (World.alloc _ _) _) _) _=w0 at F0 ⊢
 have c0_0:=F0.out.c3 0 rfl
 have c1_0:=F0.out.c3 1 rfl
 have c2_0:=F0.out.c4 2 rfl
 have c3_0:=F0.out.c11 3 rfl
 go_wp2
 have hw1:IntKind.u64.wrap 1=1:=rfl
 try rw [hw1]
 have f:=F0.out.s11 3 rfl (.bool xn) (.slice a1 k1 c1) (.int .i64 xe) (.bool yn) (.slice a2 k2 c2) (.int .i64 ye) (.int .u64 1) (.bool false) (.int .i64 z) (.int .i64 64) (.int .i64 tt)
 generalize (World.setCell (World.setCell (World.setCell (World.setCell (World.setCell (World.setCell (World.setCell (World.setCell (World.setCell (World.setCell (World.setCell _ _ _) _ _) _ _) _ _) _ _) _ _) _ _) _ _) _ _) _ _) _ _)=W at f ⊢
 have g1:=f.c11 3 rfl
 refine bodyPost_ret (v:=.agg #[.bool xn,.slice a1 k1 c1,.int .i64 xe,.bool yn,.slice a2 k2 c2,.int .i64 ye,.int .u64 1,.bool false,.int .i64 z,.int .i64 64,.int .i64 tt]) (by simp [results,Tryz.results69,go_sem,g1]) rfl ?_
 exact ⟨_,rfl,⟨_,_,_,_,_,_,rfl,Cy.below HU.out f.b,Cy.below HV.out f.b⟩,f.b⟩
theorem andNot_sign {x:Nat} (hx:x < 9223372036854775808):bits .andNot .u64 (x:Int) 9223372036854775808=(x:Int):=by
 rw [u64_andNot _ _ (Int.natCast_nonneg _) (by omega) (by decide) (by decide),Int.toNat_natCast]
 congr 1
 have h:=Nat.and_two_pow_sub_one_eq_mod x 63
 rw [Nat.mod_eq_of_lt hx] at h
 exact h
theorem asked_r {w:World} {v:Value} {b:Nat} {y:Dn} (hb:b < 9223372036854775808) (hf:fld b < 2047) (hv:Cy w v y) (z tt:Int):Calls Tryz.prog 29 #[.int .u64 (b:Int),v,.int .u64 1,.bool false,howV z tt] w (RetA (dyD b) y z tt w):=by
 have CD:=h_ (fun w (t:Tab w)=>dyad_r (show b < 18446744073709551616 by omega) hf t)
 have q1:=andNot_sign hb
 generalize dyD b=x at *
 have CA:=h_ (fun w u v (h:Cy w u x) (k:Cy w v y)=>ask_r h k z tt)
 obtain ⟨xn,xm,xe⟩:=x
 obtain ⟨yn,ym,ye⟩:=y
 obtain ⟨a2,k2,c2,rfl⟩:=hv.fm
 have HV:=h_ hv
 clear hv hf hb
 unfold howV at *
 go_enter Tryz.func29,Tryz.ntmps29
 have F0:=h_ (Fz.three w 42 #[.bool yn,.slice a2 k2 c2,.int .i64 ye] 28 #[.int .i64 z,.int .i64 64,.int .i64 tt,.pointer none] 58 #[.bool false,.slice none 0 0,.int .i64 0,.bool false,.slice none 0 0,.int .i64 0,.int .u64 0,.bool false,.int .i64 0,.int .i64 0,.int .i64 0])
 have Y0:=h_ (((HV.out.alloc (.cells #[.bool yn,.slice a2 k2 c2,.int .i64 ye] 42)).alloc (.cells #[.int .i64 z,.int .i64 64,.int .i64 tt,.pointer none] 28)).alloc (.cells #[.bool false,.slice none 0 0,.int .i64 0,.bool false,.slice none 0 0,.int .i64 0,.int .u64 0,.bool false,.int .i64 0,.int .i64 0,.int .i64 0] 58))
 go_upto_region 1 with (fail)
 generalize World.alloc (World.alloc (World.alloc _ _) _) _=w0 at F0 Y0 ⊢
 have c0_0:=F0.out.c3 0 rfl
 have c1_0:=F0.out.c4 1 rfl
 have c2_0:=F0.out.c11 2 rfl
 go_wp2_with fail
 clear c0_0 c1_0 c2_0
 refine (CD.out _ Y0.out.tab).mono ?_
 rintro q w1 ⟨u,rfl,hu,hb⟩
 have F1:=h_ (F0.out.call hb)
 have Y1:=h_ (Y0.out.below hb)
 clear F0 Y0
 have U1:=h_ (hu)
 clear hb
 have c0_1:=F1.out.c3 0 rfl
 have c1_1:=F1.out.c4 1 rfl
 have c2_1:=F1.out.c11 2 rfl
 obtain ⟨a1,k1,c1,rfl⟩:=U1.out.fm
 go_upto_region 2 with (fail)
 clear c0_1 c1_1 c2_1
 have F2:=h_ (F1.out.new 42 #[.bool xn,.slice a1 k1 c1,.int .i64 xe])
 have Y2:=h_ (Y1.out.alloc (.cells #[.bool xn,.slice a1 k1 c1,.int .i64 xe] 42))
 have U2:=h_ (U1.out.alloc (.cells #[.bool xn,.slice a1 k1 c1,.int .i64 xe] 42))
 clear F1 Y1 U1
 obtain ⟨g1,hg1⟩:∃ g,g=(World.heap w1).size:=⟨_,rfl⟩
 rw [← hg1] at F2 ⊢
 clear hg1
 simp only [List.nil_append,List.cons_append] at F2
 generalize World.alloc w1 _=W2 at F2 Y2 U2 ⊢
 have c0_2:=F2.out.c3 0 rfl
 have c1_2:=F2.out.c4 1 rfl
 have c2_2:=F2.out.c11 2 rfl
 have c3_2:=F2.out.c3 3 rfl
 go_wp2_with fail
 clear c0_2 c1_2 c2_2 c3_2
 refine (CA.out _ _ _ U2.out Y2.out).mono ?_
 rintro q w3 ⟨u,rfl,hu,hb⟩
 have F3:=h_ (F2.out.call hb)
 have Y3:=h_ (Y2.out.below hb)
 have U3:=h_ (U2.out.below hb)
 clear F2 Y2 U2
 have R3:=h_ (hu)
 clear hb
 have c0_3:=F3.out.c3 0 rfl
 have c1_3:=F3.out.c4 1 rfl
 have c2_3:=F3.out.c11 2 rfl
 have c3_3:=F3.out.c3 3 rfl
 obtain ⟨b1,l1,m1,b2,l2,m2,rfl,h1,h2⟩:=R3.out
 have C1:=h1.tab
 simp only
 go_wp2
 have f:=F3.out.s11 2 rfl (.bool xn) (.slice b1 l1 m1) (.int .i64 xe) (.bool yn) (.slice b2 l2 m2) (.int .i64 ye) (.int .u64 1) (.bool false) (.int .i64 z) (.int .i64 64) (.int .i64 tt)
 have e1:=h1.setz HV.out.tab f.b (F3.out.box 2 _ _ _ rfl) rfl (fun k _ hk=>(Below.heap_setCell _ _ _ k hk).trans ((Below.heap_setCell _ _ _ k hk).trans ((Below.heap_setCell _ _ _ k hk).trans ((Below.heap_setCell _ _ _ k hk).trans ((Below.heap_setCell _ _ _ k hk).trans ((Below.heap_setCell _ _ _ k hk).trans ((Below.heap_setCell _ _ _ k hk).trans ((Below.heap_setCell _ _ _ k hk).trans ((Below.heap_setCell _ _ _ k hk).trans ((Below.heap_setCell _ _ _ k hk).trans (Below.heap_setCell _ _ _ k hk)))))))))))
 have e2:=h2.setz HV.out.tab f.b (F3.out.box 2 _ _ _ rfl) rfl (fun k _ hk=>(Below.heap_setCell _ _ _ k hk).trans ((Below.heap_setCell _ _ _ k hk).trans ((Below.heap_setCell _ _ _ k hk).trans ((Below.heap_setCell _ _ _ k hk).trans ((Below.heap_setCell _ _ _ k hk).trans ((Below.heap_setCell _ _ _ k hk).trans ((Below.heap_setCell _ _ _ k hk).trans ((Below.heap_setCell _ _ _ k hk).trans ((Below.heap_setCell _ _ _ k hk).trans ((Below.heap_setCell _ _ _ k hk).trans (Below.heap_setCell _ _ _ k hk)))))))))))
 generalize (World.setCell (World.setCell (World.setCell (World.setCell (World.setCell (World.setCell (World.setCell (World.setCell (World.setCell (World.setCell (World.setCell _ _ _) _ _) _ _) _ _) _ _) _ _) _ _) _ _) _ _) _ _) _ _)=W at f e1 e2 ⊢
 have g1':=f.c11 2 rfl
 refine bodyPost_ret (v:=.agg #[.bool xn,.slice b1 l1 m1,.int .i64 xe,.bool yn,.slice b2 l2 m2,.int .i64 ye,.int .u64 1,.bool false,.int .i64 z,.int .i64 64,.int .i64 tt]) (by simp [results,Tryz.results29,go_sem,g1']) rfl ?_
 exact ⟨_,rfl,⟨_,_,_,_,_,_,rfl,e1,e2⟩,f.b⟩
theorem Plain_r (w:World):Calls Tryz.prog 14 #[] w fun e w'=>e=.returned (howV 0 1024)∧Below w.heap.size w w':=by
 unfold howV
 go_enter Tryz.func14,Tryz.ntmps14
 have F0:=h_ (Fz.one w 28 #[.int .i64 0,.int .i64 0,.int .i64 0,.pointer none])
 go_upto_region 1 with (fail)
 generalize World.alloc _ _=w0 at F0 ⊢
 have c0:=F0.out.c4 0 rfl
 go_wp2
 have f:=F0.out.s4 0 rfl (.int .i64 0) (.int .i64 64) (.int .i64 1024) (.pointer none)
 generalize (World.setCell (World.setCell (World.setCell (World.setCell _ _ _) _ _) _ _) _ _)=W at f ⊢
 have g1:=f.c4 0 rfl
 refine bodyPost_ret (v:=.agg #[.int .i64 0,.int .i64 64,.int .i64 1024,.pointer none]) (by simp [results,Tryz.results14,go_sem,g1]) rfl ?_
 exact ⟨rfl,f.b⟩
theorem quiet_same {P:Program} {f:FuncId} {args:Array Value} {w:World} {m:Nat} {v:Value} (h:Calls P f args (w.drewN m) fun e w'=>e=.returned v∧w.drewN m=w'):Calls P f args (w.drewN m) fun e w''=>e=.returned v∧∃ k,w''=w.drewN k :=
 h.mono fun _ _ ⟨he,hw⟩=>⟨he,m,hw.symm⟩
theorem whole_p {b:Nat} (hb:b < 18446744073709551616) (hf:fld b < 2047) (he:0 < (dyD b).e) {w:World} (t:Tab w):Calls Tryz.prog 28 #[.int .u64 (b:Int)] w fun e w'=>e=.returned (.tuple #[.bool true,.bool false])∧Below w.heap.size w w':=by
 have C:=h_ (fun w (t:Tab w)=>dyad_r hb hf t)
 generalize dyD b=D at *
 obtain ⟨n,m,e⟩:=D
 simp only at he
 have z1:decide ((0:Int)≤e)=true:=decide_eq_true (by omega)
 have z2:(e == 0)=false:=beq_eq_false_iff_ne.2 (by omega)
 have HT:=h_ t
 clear t
 go_enter Tryz.func28,Tryz.ntmps28
 have F0:=h_ (Fx.nil w)
 go_wp2_with fail
 refine (C.out _ HT.out).mono ?_
 rintro q w1 ⟨u,rfl,hu,hb⟩
 have F1:=h_ (F0.out.call hb)
 clear F0
 have U1:=h_ (hu)
 clear hb
 obtain ⟨a3,k3,c3,rfl⟩:=U1.out.fm
 go_upto_region 2 with (fail)
 have F2:=h_ (F1.out.new 42 #[.bool n,.slice a3 k3 c3,.int .i64 e] rfl)
 have U2:=h_ (U1.out.alloc (.cells #[.bool n,.slice a3 k3 c3,.int .i64 e] 42))
 clear F1 U1
 obtain ⟨g1,hg1⟩:∃ g,g=(World.heap w1).size:=⟨_,rfl⟩
 rw [← hg1] at F2 ⊢
 clear hg1
 simp only [List.nil_append] at F2
 generalize World.alloc w1 _=W2 at F2 U2 ⊢
 have c0_2:=F2.out.c3 0 rfl
 clear he
 go_quiet (fail)
 go_wp2
 refine bodyPost_ret (v:=.tuple #[.bool true,.bool false]) (by simp [results,Tryz.results28,go_sem]) rfl ?_
 exact ⟨rfl,(F2.out.drewN _).b⟩
theorem whole_z {b:Nat} (hb:b < 18446744073709551616) (hf:fld b < 2047) (he:(dyD b).e=0) {w:World} (t:Tab w) (hbl:bl (dyD b).m≤60):Calls Tryz.prog 28 #[.int .u64 (b:Int)] w fun e w'=>e=.returned (.tuple #[.bool true,.bool ((dyD b).m % 2 == 1)])∧Below w.heap.size w w':=by
 have C:=h_ (fun w (t:Tab w)=>dyad_r hb hf t)
 generalize dyD b=D at *
 obtain ⟨n,m,e⟩:=D
 simp only at he hbl ⊢
 subst he
 have bm:bl m≤60:=hbl
 have CO:=h_ (fun w v (h:Dg w v m)=>odd_r (h.rd (by omega)))
 have HT:=h_ t
 clear t hbl
 go_enter Tryz.func28,Tryz.ntmps28
 have F0:=h_ (Fx.nil w)
 go_wp2_with fail
 refine (C.out _ HT.out).mono ?_
 rintro q w1 ⟨u,rfl,hu,hb⟩
 have F1:=h_ (F0.out.call hb)
 clear F0
 have U1:=h_ (hu)
 clear hb
 obtain ⟨a3,k3,c3,rfl⟩:=U1.out.fm
 go_upto_region 2 with (fail)
 have F2:=h_ (F1.out.new 42 #[.bool n,.slice a3 k3 c3,.int .i64 0] rfl)
 have U2:=h_ (U1.out.alloc (.cells #[.bool n,.slice a3 k3 c3,.int .i64 0] 42))
 clear F1 U1
 obtain ⟨g1,hg1⟩:∃ g,g=(World.heap w1).size:=⟨_,rfl⟩
 rw [← hg1] at F2 ⊢
 clear hg1
 simp only [List.nil_append] at F2
 generalize World.alloc w1 _=W2 at F2 U2 ⊢
 have c0_2:=F2.out.c3 0 rfl
 have D:=h_ U2.out.dm
 have CO2:=h_ (fun n=>quiet_same (CO.out (World.drewN W2 n) _ (D.out.drewN n)))
 go_quiet ((go_at_call 68; exact CO2.out _))
 go_wp2
 refine bodyPost_ret (v:=.tuple #[.bool true,.bool (m % 2 == 1)]) (by simp [results,Tryz.results28,go_sem]) rfl ?_
 exact ⟨rfl,(F2.out.drewN _).b⟩
theorem whole_any {b:Nat} (hb:b < 18446744073709551616) (hf:fld b < 2047) (hbl:bl (dyD b).m≤60):∃ wh od:Bool,∀ w,Tab w→Calls Tryz.prog 28 #[.int .u64 (b:Int)] w fun e w'=>e=.returned (.tuple #[.bool wh,.bool od])∧Below w.heap.size w w':=by
 rcases (by omega:(dyD b).e < 0 ∨ (dyD b).e=0 ∨ 0 < (dyD b).e) with h | h | h
 ·exact ⟨false,false,fun w t=>whole_f hb hf h t⟩
 ·exact ⟨true,_,fun w t=>whole_z hb hf h t hbl⟩
 ·exact ⟨true,false,fun w t=>whole_p hb hf h t⟩
theorem special_g {x y:Nat} (hx:x < 9223372036854775808) (hy:y < 18446744073709551616) (fx:fld x < 2047) (fy:fld y < 2047) (nx:¬ (fld x=0∧frc x=0)) (ny:¬ (fld y=0∧frc y=0)) (h1:x ≠ 4607182418800017408) {wh od:Bool} (cw:∀ w,Tab w→Calls Tryz.prog 28 #[.int .u64 (y:Int)] w fun e w'=>e=.returned (.tuple #[.bool wh,.bool od])∧Below w.heap.size w w') {w:World} (t:Tab w) :
  Calls Tryz.prog 25 #[.int .u64 (x:Int),.int .u64 (y:Int)] w fun e w'=>e=.returned (.tuple #[.agg #[.int .u64 0,.int .u8 0,.int .i64 0],.bool false])∧Below w.heap.size w w':=by
 have hx2:x < 18446744073709551616:=by omega
 have CW:=h_ cw
 have CN:=h_ (fun w=>neg_r hy w)
 have CNx:=h_ (fun w=>neg_r hx2 w)
 have hsx:sgn x=false:=decide_eq_false (by omega)
 rw [hsx] at CNx
 have Csx:=h_ (fun w=>signals_r hx2 fx nx w)
 have Csy:=h_ (fun w=>signals_r hy fy ny w)
 have C0x:=h_ (fun w=>nought_r hx2 fx nx w)
 have C0y:=h_ (fun w=>nought_r hy fy ny w)
 have Cnx:=h_ (fun w=>nan_r hx2 fx nx w)
 have Cny:=h_ (fun w=>nan_r hy fy ny w)
 have Cix:=h_ (fun w=>inf_r hx2 fx nx w)
 have Ciy:=h_ (fun w=>inf_r hy fy ny w)
 have z1:((x:Int) == 4607182418800017408)=false:=by rw [beq_eq_false_iff_ne]; omega
 have z2:(x == 4607182418800017408)=false:=by rw [beq_eq_false_iff_ne]; omega
 generalize sgn y=g at *
 have HT:=h_ t
 clear hx hy fx fy nx ny h1 cw hx2 hsx t
 go_enter Tryz.func25,Tryz.ntmps25
 have F0:=h_ (Fz.one w 32 #[.int .u64 0,.int .u8 0,.int .i64 0])
 have T0:=h_ (HT.out.alloc (.cells #[.int .u64 0,.int .u8 0,.int .i64 0] 32))
 go_upto_region 1 with (fail)
 generalize World.alloc _ _=w0 at F0 T0 ⊢
 have c0:=F0.out.c3 0 rfl
 go_wp2_with fail
 clear c0
 refine (CW.out _ T0.out).mono ?_
 rintro q w1 ⟨rfl,hb⟩
 have F1:=h_ (F0.out.call hb)
 clear hb
 have c0:=F1.out.c3 0 rfl
 go_wp2_with fail
 refine (CN.out _).mono ?_
 rintro q w2 ⟨rfl,rfl⟩
 go_wp2_with fail
 refine (Csx.out _).mono ?_
 rintro q w2 ⟨rfl,rfl⟩
 go_wp2_with fail
 refine (Csy.out _).mono ?_
 rintro q w2 ⟨rfl,rfl⟩
 go_wp2_with fail
 refine (C0y.out _).mono ?_
 rintro q w2 ⟨rfl,rfl⟩
 go_wp2_with fail
 refine (Cnx.out _).mono ?_
 rintro q w2 ⟨rfl,rfl⟩
 go_wp2_with fail
 refine (Cny.out _).mono ?_
 rintro q w2 ⟨rfl,rfl⟩
 go_wp2_with fail
 refine (C0x.out _).mono ?_
 rintro q w2 ⟨rfl,rfl⟩
 go_wp2_with fail
 refine (C0x.out _).mono ?_
 rintro q w2 ⟨rfl,rfl⟩
 go_wp2_with fail
 refine (C0x.out _).mono ?_
 rintro q w2 ⟨rfl,rfl⟩
 go_wp2_with fail
 refine (Ciy.out _).mono ?_
 rintro q w2 ⟨rfl,rfl⟩
 go_wp2_with fail
 refine (Ciy.out _).mono ?_
 rintro q w2 ⟨rfl,rfl⟩
 go_wp2_with fail
 refine (Ciy.out _).mono ?_
 rintro q w2 ⟨rfl,rfl⟩
 go_wp2_with fail
 refine (Cix.out _).mono ?_
 rintro q w2 ⟨rfl,rfl⟩
 go_wp2_with fail
 refine (Cix.out _).mono ?_
 rintro q w2 ⟨rfl,rfl⟩
 go_wp2_with fail
 refine (CNx.out _).mono ?_
 rintro q w2 ⟨rfl,rfl⟩
 go_wp2
 have f:=F1.out.s3 0 rfl (.int .u64 0) (.int .u8 0) (.int .i64 0)
 generalize World.setCell (World.setCell (World.setCell _ _ _) _ _) _ _=W at f ⊢
 have g1:=f.c3 0 rfl
 refine bodyPost_ret (v:=.tuple #[.agg #[.int .u64 0,.int .u8 0,.int .i64 0],.bool false]) (by simp [results,Tryz.results25,go_sem,g1]) rfl ?_
 exact ⟨rfl,f.b⟩
theorem hright_g (w:World) (z tt:Int) (hz:0≤z∧z≤3) (ht:tt=64 ∨ tt=512 ∨ tt=1024):Calls Tryz.prog 67 #[howV z tt] w fun e w'=>e=.returned (.bool true)∧Below w.heap.size w w':=by
 have CP:=h_ (fun w=>Plan_any3 w tt ht)
 have z1:decide ((0:Int)≤z)=true:=decide_eq_true hz.1
 have z2:decide (z≤(3:Int))=true:=decide_eq_true hz.2
 clear hz ht
 unfold howV
 go_enter Tryz.func67,Tryz.ntmps67
 have F0:=h_ (Fz.one w 28 #[.int .i64 z,.int .i64 64,.int .i64 tt,.pointer none])
 go_upto_region 1 with (fail)
 generalize World.alloc _ _=w0 at F0 ⊢
 have c0_0:=F0.out.c4 0 rfl
 go_wp2_with fail
 clear c0_0
 refine (CP.out _).mono ?_
 rintro q w1 ⟨u,rfl,hb⟩
 have F1:=h_ (F0.out.call hb)
 clear F0
 clear hb
 have c0_1:=F1.out.c4 0 rfl
 go_wp2
 go_ret
 exact ⟨rfl,F1.out.b⟩
theorem Pow1_g {w:World} {x y gy gx gh:Nat} {z tt:Int} (hx:x < 9223372036854775808) (hy:y < 18446744073709551616) (fx:fld x < 2047) (fy:fld y < 2047) {wh od:Bool} (cw:∀ w,Tab w→Calls Tryz.prog 28 #[.int .u64 (y:Int)] w fun e w'=>e=.returned (.tuple #[.bool wh,.bool od])∧Below w.heap.size w w') (t:Tab w)
  (by':Blk w gy 22 #[.int .u64 (y:Int)]) (bx:Blk w gx 22 #[.int .u64 (x:Int)]) (bh:Blk w gh 28 #[.int .i64 z,.int .i64 64,.int .i64 tt,.pointer none]) :
  Calls Tryz.prog 27 #[.pointer (some ⟨gy,0,none⟩),.pointer (some ⟨gx,0,none⟩),.pointer (some ⟨gh,0,none⟩)] w (RetA (dyD x) (dyD y) z tt w):=by
 have CW:=h_ cw
 have CD:=h_ (fun w (t:Tab w)=>dyad_r hy fy t)
 have CN:=h_ (fun w=>(neg_r (show x < 18446744073709551616 by omega) w).mono (fun e w' (h:e=_∧w=w')=>(show e=.returned (.bool (sgn x))∧Below w.heap.size w w' from ⟨h.1,h.2 ▸ Below.refl _ _⟩)))
 have hs:sgn x=false:=decide_eq_false (by omega)
 rw [hs] at CN
 generalize dyD y=yy at *
 have CA:=h_ (fun w v (h:Cy w v yy)=>asked_r hx fx h z tt)
 generalize dyD x=xx at *
 obtain ⟨yn,ym,ye⟩:=yy
 obtain ⟨xn,xm,xe⟩:=xx
 have HT:=h_ t
 have BY:=h_ by'
 have BX:=h_ bx
 have BH:=h_ bh
 have F0:=h_ (Fz.one w 58 #[.bool false,.slice none 0 0,.int .i64 0,.bool false,.slice none 0 0,.int .i64 0,.int .u64 0,.bool false,.int .i64 0,.int .i64 0,.int .i64 0])
 clear hx hy fx fy cw hs t by' bx bh
 unfold howV at *
 go_enter Tryz.func27,Tryz.ntmps27
 go_upto_region 1 with (fail)
 generalize World.alloc _ _=w0 at F0 ⊢
 have y0:=(BY.out.below F0.out.b).at 0 _ rfl
 have T0:=h_ (HT.out.below F0.out.b)
 go_wp2_with fail
 clear y0
 refine (CW.out _ T0.out).mono ?_
 rintro q w1 ⟨rfl,hb⟩
 have F1:=h_ (F0.out.call hb)
 have T1:=h_ (T0.out.below hb)
 clear F0 T0
 clear hb
 have c0_1:=F1.out.c11 0 rfl
 have y0:=(BY.out.below F1.out.b).at 0 _ rfl
 go_wp2_with fail
 clear y0
 clear c0_1
 refine (CD.out _ T1.out).mono ?_
 rintro q w2 ⟨u,rfl,hu,hb⟩
 have F2:=h_ (F1.out.call hb)
 have T2:=h_ (T1.out.below hb)
 clear F1 T1
 have U2:=h_ (hu)
 clear hb
 have c0_2:=F2.out.c11 0 rfl
 obtain ⟨a2,k2,c2,rfl⟩:=U2.out.fm
 go_upto_region 3 with (fail)
 clear T2
 clear c0_2
 have F3:=h_ (F2.out.new 42 #[.bool yn,.slice a2 k2 c2,.int .i64 ye])
 have U3:=h_ (U2.out.alloc (.cells #[.bool yn,.slice a2 k2 c2,.int .i64 ye] 42))
 clear F2 U2
 obtain ⟨g1,hg1⟩:∃ g,g=(World.heap w2).size:=⟨_,rfl⟩
 rw [← hg1] at F3 ⊢
 clear hg1
 simp only [List.nil_append,List.cons_append] at F3
 generalize World.alloc w2 _=W3 at F3 U3 ⊢
 have c0_3:=F3.out.c11 0 rfl
 have c1_3:=F3.out.c3 1 rfl
 clear c0_3 c1_3
 have FCD:Hid ((fun w'=>w'.cell? ⟨gx,0,none⟩=some (.int .u64 (x:Int))∧(w'.cell? ⟨g1,0,none⟩=some (.bool yn)∧w'.cell? ⟨g1,1,none⟩=some (.slice a2 k2 c2)∧w'.cell? ⟨g1,2,none⟩=some (.int .i64 ye))∧(w'.cell? ⟨gh,0,none⟩=some (.int .i64 z)∧w'.cell? ⟨gh,1,none⟩=some (.int .i64 64)∧w'.cell? ⟨gh,2,none⟩=some (.int .i64 tt)∧w'.cell? ⟨gh,3,none⟩=some (.pointer none))) (World.drew W3)):=And.intro ((BX.out.below F3.out.drew.b).at 0 _ rfl) (And.intro (F3.out.drew.c3 1 rfl).1 (And.intro ((BH.out.below F3.out.drew.b).at 0 _ rfl) (And.intro ((BH.out.below F3.out.drew.b).at 1 _ rfl) (And.intro ((BH.out.below F3.out.drew.b).at 2 _ rfl) ((BH.out.below F3.out.drew.b).at 3 _ rfl)))))
 refine wp_region_held_drew (S:=fun w'=>w'.cell? ⟨gx,0,none⟩=some (.int .u64 (x:Int))∧(w'.cell? ⟨g1,0,none⟩=some (.bool yn)∧w'.cell? ⟨g1,1,none⟩=some (.slice a2 k2 c2)∧w'.cell? ⟨g1,2,none⟩=some (.int .i64 ye))∧(w'.cell? ⟨gh,0,none⟩=some (.int .i64 z)∧w'.cell? ⟨gh,1,none⟩=some (.int .i64 64)∧w'.cell? ⟨gh,2,none⟩=some (.int .i64 tt)∧w'.cell? ⟨gh,3,none⟩=some (.pointer none))) (by kernel_rfl) FCD.out (fun hHeld=>?_)
 refine wpAnyH_take (i:=0) (oi:=⟨some 18,_,_,_,_,_⟩) (v:=?_) rfl (by kernel_rfl) (by kernel_rfl) (by kernel_rfl) (fun _ _ _ h=>h) (Or.inl ⟨by rfl,?_⟩) (by assumption) ?_
 rotate_left
 ·(intro w hSw; (try dsimp only at hSw); go_simp); try with_reducible rfl
 try simp only [Act.put,List.setIfInBounds_toArray,List.set_cons_zero,List.set_cons_succ]
 refine wpAnyH_take (i:=1) (oi:=⟨some 19,_,_,_,_,_⟩) (v:=?_) rfl (by kernel_rfl) (by kernel_rfl) (by kernel_rfl) (fun _ _ _ h=>h) (Or.inl ⟨by rfl,?_⟩) (by assumption) ?_
 rotate_left
 ·(intro w hSw; (try dsimp only at hSw); go_simp); try with_reducible rfl
 try simp only [Act.put,List.setIfInBounds_toArray,List.set_cons_zero,List.set_cons_succ]
 refine wpAnyH_take (i:=2) (oi:=⟨some 20,_,_,_,_,_⟩) (v:=?_) rfl (by kernel_rfl) (by kernel_rfl) (by kernel_rfl) (fun _ _ _ h=>h) (Or.inl ⟨by rfl,?_⟩) (by assumption) ?_
 rotate_left
 ·(intro w hSw; (try dsimp only at hSw); go_simp); try with_reducible rfl
 try simp only [Act.put,List.setIfInBounds_toArray,List.set_cons_zero,List.set_cons_succ]
 refine wpAnyH_take (i:=7) (oi:=⟨some 25,_,_,_,_,_⟩) (v:=?_) rfl (by kernel_rfl) (by kernel_rfl) (by kernel_rfl) (fun _ _ _ h=>h) (Or.inl ⟨by rfl,?_⟩) (by assumption) ?_
 rotate_left
 ·(intro w hSw; (try dsimp only at hSw); go_simp); try with_reducible rfl
 try simp only [Act.put,List.setIfInBounds_toArray,List.set_cons_zero,List.set_cons_succ]
 refine wpAnyH_ready (rs:=[3]) (by kernel_rfl) (by simp) ?_
 refine AllReadyH.cons (o:=_) rfl (fun K hK=>?_) AllReadyH.nil
 go_simp
 (go_at_call 10; (with_reducible refine (CN.out _).mono ?_); rintro q ww4 ⟨rfl,hb⟩; have F4:=h_ (F3.out.drew.call hb); have U4:=h_ (U3.out.drew.below hb); have FC:Hid ((fun w'=>w'.cell? ⟨gx,0,none⟩=some (.int .u64 (x:Int))∧(w'.cell? ⟨g1,0,none⟩=some (.bool yn)∧w'.cell? ⟨g1,1,none⟩=some (.slice a2 k2 c2)∧w'.cell? ⟨g1,2,none⟩=some (.int .i64 ye))∧(w'.cell? ⟨gh,0,none⟩=some (.int .i64 z)∧w'.cell? ⟨gh,1,none⟩=some (.int .i64 64)∧w'.cell? ⟨gh,2,none⟩=some (.int .i64 tt)∧w'.cell? ⟨gh,3,none⟩=some (.pointer none))) ww4):=And.intro ((BX.out.below F4.out.b).at 0 _ rfl) (And.intro (F4.out.c3 1 rfl).1 (And.intro ((BH.out.below F4.out.b).at 0 _ rfl) (And.intro ((BH.out.below F4.out.b).at 1 _ rfl) (And.intro ((BH.out.below F4.out.b).at 2 _ rfl) ((BH.out.below F4.out.b).at 3 _ rfl))))); clear hb)
 go_wp2_with fail
 refine hK.out _ _ FC.out (fun hHeld'=>?_)
 clear hK K hHeld
 have hHeld:=hHeld'
 clear hHeld'
 try simp only [Act.put,List.setIfInBounds_toArray,List.set_cons_zero,List.set_cons_succ]
 refine wpAnyH_take (i:=4) (oi:=⟨some 22,_,_,_,_,_⟩) (v:=?_) rfl (by kernel_rfl) (by kernel_rfl) (by kernel_rfl) (fun _ _ _ h=>h) (Or.inl ⟨by rfl,?_⟩) (by assumption) ?_
 rotate_left
 ·(intro w hSw; (try dsimp only at hSw); go_simp); try with_reducible rfl
 try simp only [Act.put,List.setIfInBounds_toArray,List.set_cons_zero,List.set_cons_succ]
 refine wpAnyH_take (i:=5) (oi:=⟨some 23,_,_,_,_,_⟩) (v:=undef) rfl (by kernel_rfl) (by kernel_rfl) (by kernel_rfl) (fun _ _ _ h=>h) (Or.inr ⟨by rfl,rfl⟩) (by assumption) ?_
 try simp only [Act.put,List.setIfInBounds_toArray,List.set_cons_zero,List.set_cons_succ]
 refine wpAnyH_take (i:=6) (oi:=⟨some 24,_,_,_,_,_⟩) (v:=?_) rfl (by kernel_rfl) (by kernel_rfl) (by kernel_rfl) (fun _ _ _ h=>h) (Or.inl ⟨by rfl,?_⟩) (by assumption) ?_
 rotate_left
 ·(intro w hSw; (try dsimp only at hSw); go_simp); try with_reducible rfl
 try simp only [Act.put,List.setIfInBounds_toArray,List.set_cons_zero,List.set_cons_succ]
 refine wpAnyH_ready (rs:=[8]) (by kernel_rfl) (by simp) ?_
 refine AllReadyH.cons (o:=_) rfl (fun K hK=>?_) AllReadyH.nil
 go_simp
 (go_at_call 29; (with_reducible refine (CA.out _ _ U4.out).mono ?_); rintro q ww5 ⟨r,rfl,hR,hb⟩; have F5:=h_ (F4.out.call hb); obtain ⟨b1,l1,m1,b2,l2,m2,rfl,h1,h2⟩:=hR; have H1:=h_ h1; have H2:=h_ h2; have FC:Hid ((fun w'=>w'.cell? ⟨gx,0,none⟩=some (.int .u64 (x:Int))∧(w'.cell? ⟨g1,0,none⟩=some (.bool yn)∧w'.cell? ⟨g1,1,none⟩=some (.slice a2 k2 c2)∧w'.cell? ⟨g1,2,none⟩=some (.int .i64 ye))∧(w'.cell? ⟨gh,0,none⟩=some (.int .i64 z)∧w'.cell? ⟨gh,1,none⟩=some (.int .i64 64)∧w'.cell? ⟨gh,2,none⟩=some (.int .i64 tt)∧w'.cell? ⟨gh,3,none⟩=some (.pointer none))) ww5):=And.intro ((BX.out.below F5.out.b).at 0 _ rfl) (And.intro (F5.out.c3 1 rfl).1 (And.intro ((BH.out.below F5.out.b).at 0 _ rfl) (And.intro ((BH.out.below F5.out.b).at 1 _ rfl) (And.intro ((BH.out.below F5.out.b).at 2 _ rfl) ((BH.out.below F5.out.b).at 3 _ rfl))))); have c0:=F5.out.c11 0 rfl; clear hb h1 h2)
 go_wp2_with fail
 refine hK.out _ _ FC.out (fun hHeld'=>?_)
 clear hK K hHeld
 have hHeld:=hHeld'
 clear hHeld'
 try simp only [Act.put,List.setIfInBounds_toArray,List.set_cons_zero,List.set_cons_succ]
 refine wpAnyH_ready (rs:=[9]) (by kernel_rfl) (by simp) ?_
 refine AllReadyH.cons (o:=_) rfl (fun K hK=>?_) AllReadyH.nil
 go_simp
 refine hK.out _ _ (And.intro ((BX.out.below (F5.out.s11 0 rfl (.bool xn) (.slice b1 l1 m1) (.int .i64 xe) (.bool yn) (.slice b2 l2 m2) (.int .i64 ye) (.int .u64 1) (.bool false) (.int .i64 z) (.int .i64 64) (.int .i64 tt)).b).at 0 _ rfl) (And.intro ((F5.out.s11 0 rfl (.bool xn) (.slice b1 l1 m1) (.int .i64 xe) (.bool yn) (.slice b2 l2 m2) (.int .i64 ye) (.int .u64 1) (.bool false) (.int .i64 z) (.int .i64 64) (.int .i64 tt)).c3 1 rfl).1 (And.intro ((BH.out.below (F5.out.s11 0 rfl (.bool xn) (.slice b1 l1 m1) (.int .i64 xe) (.bool yn) (.slice b2 l2 m2) (.int .i64 ye) (.int .u64 1) (.bool false) (.int .i64 z) (.int .i64 64) (.int .i64 tt)).b).at 0 _ rfl) (And.intro ((BH.out.below (F5.out.s11 0 rfl (.bool xn) (.slice b1 l1 m1) (.int .i64 xe) (.bool yn) (.slice b2 l2 m2) (.int .i64 ye) (.int .u64 1) (.bool false) (.int .i64 z) (.int .i64 64) (.int .i64 tt)).b).at 1 _ rfl) (And.intro ((BH.out.below (F5.out.s11 0 rfl (.bool xn) (.slice b1 l1 m1) (.int .i64 xe) (.bool yn) (.slice b2 l2 m2) (.int .i64 ye) (.int .u64 1) (.bool false) (.int .i64 z) (.int .i64 64) (.int .i64 tt)).b).at 2 _ rfl) ((BH.out.below (F5.out.s11 0 rfl (.bool xn) (.slice b1 l1 m1) (.int .i64 xe) (.bool yn) (.slice b2 l2 m2) (.int .i64 ye) (.int .u64 1) (.bool false) (.int .i64 z) (.int .i64 64) (.int .i64 tt)).b).at 3 _ rfl)))))) (fun hHeld'=>?_)
 clear hK K hHeld
 have hHeld:=hHeld'
 clear hHeld'
 try simp only [Act.put,List.setIfInBounds_toArray,List.set_cons_zero,List.set_cons_succ]
 refine wpAnyH_done (by kernel_rfl) ?_ _
 go_wp2
 have f:=F5.out.s11 0 rfl (.bool xn) (.slice b1 l1 m1) (.int .i64 xe) (.bool yn) (.slice b2 l2 m2) (.int .i64 ye) (.int .u64 1) (.bool false) (.int .i64 z) (.int .i64 64) (.int .i64 tt)
 have e1:=H1.out.setz HT.out f.b (F5.out.box 0 _ _ _ rfl) rfl (fun k _ hk=>(Below.heap_setCell _ _ _ k hk).trans ((Below.heap_setCell _ _ _ k hk).trans ((Below.heap_setCell _ _ _ k hk).trans ((Below.heap_setCell _ _ _ k hk).trans ((Below.heap_setCell _ _ _ k hk).trans ((Below.heap_setCell _ _ _ k hk).trans ((Below.heap_setCell _ _ _ k hk).trans ((Below.heap_setCell _ _ _ k hk).trans ((Below.heap_setCell _ _ _ k hk).trans ((Below.heap_setCell _ _ _ k hk).trans (Below.heap_setCell _ _ _ k hk)))))))))))
 have e2:=H2.out.setz HT.out f.b (F5.out.box 0 _ _ _ rfl) rfl (fun k _ hk=>(Below.heap_setCell _ _ _ k hk).trans ((Below.heap_setCell _ _ _ k hk).trans ((Below.heap_setCell _ _ _ k hk).trans ((Below.heap_setCell _ _ _ k hk).trans ((Below.heap_setCell _ _ _ k hk).trans ((Below.heap_setCell _ _ _ k hk).trans ((Below.heap_setCell _ _ _ k hk).trans ((Below.heap_setCell _ _ _ k hk).trans ((Below.heap_setCell _ _ _ k hk).trans ((Below.heap_setCell _ _ _ k hk).trans (Below.heap_setCell _ _ _ k hk)))))))))))
 generalize (World.setCell (World.setCell (World.setCell (World.setCell (World.setCell (World.setCell (World.setCell (World.setCell (World.setCell (World.setCell (World.setCell _ _ _) _ _) _ _) _ _) _ _) _ _) _ _) _ _) _ _) _ _) _ _)=W at f e1 e2 ⊢
 have g1':=f.c11 0 rfl
 refine bodyPost_ret (v:=.agg #[.bool xn,.slice b1 l1 m1,.int .i64 xe,.bool yn,.slice b2 l2 m2,.int .i64 ye,.int .u64 1,.bool false,.int .i64 z,.int .i64 64,.int .i64 tt]) (by simp [results,Tryz.results27,go_sem,g1']) rfl ?_
 exact ⟨_,rfl,⟨_,_,_,_,_,_,rfl,e1,e2⟩,f.b⟩
theorem does_g {w:World} {x y:Dn} {z tt:Int} {PP:Nat→Int→Bool→Prop} (hz:0≤z∧z≤3) (ht:tt=64 ∨ tt=512 ∨ tt=1024) (p1 p2 p3:Addr)
  (hcl:∀ w':World,Below w.heap.size w w'→Calls Tryz.prog 27 #[.pointer (some p1),.pointer (some p2),.pointer (some p3)] w' (RetA x y z tt w'))
  (hdo:∀ (w':World) (r:Value),Ak w' r x y z tt→Calls Tryz.prog 20 #[r,.pointer none] w' (RetDo PP w')) :
  Calls Tryz.prog 26 #[howV z tt,.agg #[.int .u64 0,.int .u8 0,.int .i64 0],.bool false,.func (.func 27) #[] #[.pointer (some p1),.pointer (some p2),.pointer (some p3)]] w (RetDo PP w):=by
 have CR:=h_ (fun w=>hright_g w z tt hz ht)
 have CL:=h_ hcl
 have CD:=h_ hdo
 clear hz ht hcl hdo
 unfold howV at *
 unfold RetA at CL
 go_enter Tryz.func26,Tryz.ntmps26
 have F0:=h_ (Fz.three w 28 #[.int .i64 z,.int .i64 64,.int .i64 tt,.pointer none] 32 #[.int .u64 0,.int .u8 0,.int .i64 0] 32 #[.int .u64 0,.int .u8 0,.int .i64 0])
 go_upto_region 1 with (fail)
 generalize World.alloc (World.alloc (World.alloc _ _) _) _=w0 at F0 ⊢
 have c0_0:=F0.out.c4 0 rfl
 have c1_0:=F0.out.c3 1 rfl
 have c2_0:=F0.out.c3 2 rfl
 go_wp2_with fail
 clear c0_0 c1_0 c2_0
 refine (CR.out _).mono ?_
 rintro q w1 ⟨rfl,hb⟩
 have F1:=h_ (F0.out.call hb)
 clear F0
 clear hb
 have c0_1:=F1.out.c4 0 rfl
 have c1_1:=F1.out.c3 1 rfl
 have c2_1:=F1.out.c3 2 rfl
 go_upto_region 5 with (fail)
 clear c0_1 c1_1 c2_1
 have FCD:=h_ (((F1.out.drew).c4 0 rfl).1)
 go_region_held3 (fun w'=>(w'.cell? ⟨w.heap.size,0,none⟩=some (.int .i64 z)∧w'.cell? ⟨w.heap.size,1,none⟩=some (.int .i64 64)∧w'.cell? ⟨w.heap.size,2,none⟩=some (.int .i64 tt)∧w'.cell? ⟨w.heap.size,3,none⟩=some (.pointer none))) (first | with_reducible exact FCD.out | with_reducible exact FC.out | exact ((F3.out.s3 2 rfl (.int .u64 Bq) (.int .u8 fq) (.int .i64 sq)).c4 0 rfl).1) (first | (go_at_call 20; (with_reducible refine (CD.out _ _ R2.out).mono ?_); rintro q ww3 ⟨Bq,fq,sq,nq,rfl,hp,hb⟩; have F3:=h_ (F2.out.call hb); have R3:=h_ (R2.out.below hb); have P3:=h_ (hp); have FC:=h_ ((F3.out.c4 0 rfl).1); have c0_3:=F3.out.c4 0 rfl; have c1_3:=F3.out.c3 1 rfl; have c2_3:=F3.out.c3 2 rfl; clear hb) | (go_at_call 27; (with_reducible refine (CL.out _ (F1.out.drew).b).mono ?_); rintro q ww2 ⟨r,rfl,hR,hb⟩; have F2:=h_ ((F1.out.drew).call hb); have R2:=h_ (hR); have FC:=h_ ((F2.out.c4 0 rfl).1); have c0_2:=F2.out.c4 0 rfl; have c1_2:=F2.out.c3 1 rfl; have c2_2:=F2.out.c3 2 rfl; clear hb))
 go_wp2
 have f:=F3.out.s3 2 rfl (.int .u64 Bq) (.int .u8 fq) (.int .i64 sq)
 generalize World.setCell (World.setCell (World.setCell _ _ _) _ _) _ _=W at f ⊢
 have g1:=f.c3 2 rfl
 refine bodyPost_ret (v:=.tuple #[.agg #[.int .u64 Bq,.int .u8 fq,.int .i64 sq],.int .i64 nq,.int .i64 0]) (by simp [results,Tryz.results26,go_sem,g1]) rfl ?_
 exact ⟨Bq,fq,sq,nq,rfl,hp,f.b⟩
theorem Pow_g {w:World} {x y:Nat} {z tt:Int} (hx:x < 9223372036854775808) (hy:y < 18446744073709551616) (fx:fld x < 2047) (fy:fld y < 2047) (nx:¬ (fld x=0∧frc x=0)) (ny:¬ (fld y=0∧frc y=0)) (h1:x ≠ 4607182418800017408) {wh od:Bool} (cw:∀ w,Tab w→Calls Tryz.prog 28 #[.int .u64 (y:Int)] w fun e w'=>e=.returned (.tuple #[.bool wh,.bool od])∧Below w.heap.size w w') (t:Tab w)
  (hz:0≤z∧z≤3) (htt:tt=64 ∨ tt=512 ∨ tt=1024) {PP:Nat→Int→Bool→Prop}
  (hdo:∀ (w':World) (r:Value),Ak w' r (dyD x) (dyD y) z tt→Calls Tryz.prog 20 #[r,.pointer none] w' (RetDo PP w')) :
  Calls Tryz.prog 11 #[.int .u64 (x:Int),.int .u64 (y:Int),howV z tt] w (RetDo PP w):=by
 have CS:=h_ (fun w (t:Tab w)=>special_g hx hy fx fy nx ny h1 cw t)
 have C1:=h_ (fun w gy gx gh (t:Tab w) b1 b2 b3=>Pow1_g (w:=w) (gy:=gy) (gx:=gx) (gh:=gh) (z:=z) (tt:=tt) hx hy fx fy cw t b1 b2 b3)
 have CDO:=h_ hdo
 have CE:=h_ (fun (w:World) p1 p2 p3 hcl=>does_g (w:=w) (x:=dyD x) (y:=dyD y) (z:=z) (tt:=tt) (PP:=PP) hz htt p1 p2 p3 hcl CDO.out)
 generalize dyD x=dx at *
 generalize dyD y=dy at *
 have HT:=h_ t
 clear hx hy fx fy nx ny h1 cw t hdo CDO hz htt
 unfold howV at *
 go_enter Tryz.func11,Tryz.ntmps11
 have F0:=h_ (Fz.four w 22 #[.int .u64 (x:Int)] 22 #[.int .u64 (y:Int)] 28 #[.int .i64 z,.int .i64 64,.int .i64 tt,.pointer none] 32 #[.int .u64 0,.int .u8 0,.int .i64 0])
 have T0:=h_ (HT.out.below F0.out.b)
 go_upto_region 1 with (fail)
 generalize World.alloc (World.alloc (World.alloc (World.alloc _ _) _) _) _=w0 at F0 T0 ⊢
 have c0_0:=F0.out.c1 0 rfl
 have c1_0:=F0.out.c1 1 rfl
 have c2_0:=F0.out.c4 2 rfl
 have c3_0:=F0.out.c3 3 rfl
 go_wp2_with fail
 clear c0_0 c1_0 c2_0 c3_0
 refine (CS.out _ T0.out).mono ?_
 rintro q w1 ⟨rfl,hb⟩
 have F1:=h_ (F0.out.call hb)
 have T1:=h_ (T0.out.below hb)
 clear F0 T0
 clear hb
 have c0_1:=F1.out.c1 0 rfl
 have c1_1:=F1.out.c1 1 rfl
 have c2_1:=F1.out.c4 2 rfl
 have c3_1:=F1.out.c3 3 rfl
 go_upto_region 2 with (fail)
 clear c0_1 c1_1 c2_1 c3_1
 have F2:=h_ (F1.out.new 32 #[.int .u64 0,.int .u8 0,.int .i64 0])
 have T2:=h_ (T1.out.alloc (.cells #[.int .u64 0,.int .u8 0,.int .i64 0] 32))
 clear F1 T1
 obtain ⟨g1,hg1⟩:∃ g,g=(World.heap w1).size:=⟨_,rfl⟩
 rw [← hg1] at F2 ⊢
 clear hg1
 simp only [List.nil_append,List.cons_append] at F2
 generalize World.alloc w1 _=W2 at F2 T2 ⊢
 have c0_2:=F2.out.c1 0 rfl
 have c1_2:=F2.out.c1 1 rfl
 have c2_2:=F2.out.c4 2 rfl
 have c3_2:=F2.out.c3 3 rfl
 have c4_2:=F2.out.c3 4 rfl
 go_wp2_with fail
 have CG:=h_ (CE.out W2 ⟨w.heap.size+1,0,none⟩ ⟨w.heap.size,0,none⟩ ⟨w.heap.size+1+1,0,none⟩ (fun w' hb=>C1.out w' (w.heap.size+1) w.heap.size (w.heap.size+1+1) (T2.out.below hb) ((F2.out.box 1 _ _ _ rfl).below hb) ((F2.out.box 0 _ _ _ rfl).below hb) ((F2.out.box 2 _ _ _ rfl).below hb)))
 clear c0_2 c1_2 c2_2 c3_2 c4_2
 refine (CG.out).mono ?_
 rintro q w3 ⟨Bq,fq,sq,nq,rfl,hp,hb⟩
 have F3:=h_ (F2.out.call hb)
 have T3:=h_ (T2.out.below hb)
 clear F2 T2
 clear hb
 have c0_3:=F3.out.c1 0 rfl
 have c1_3:=F3.out.c1 1 rfl
 have c2_3:=F3.out.c4 2 rfl
 have c3_3:=F3.out.c3 3 rfl
 have c4_3:=F3.out.c3 4 rfl
 clear T3
 go_wp2
 have f:=F3.out.s3 3 rfl (.int .u64 Bq) (.int .u8 fq) (.int .i64 sq)
 generalize World.setCell (World.setCell (World.setCell _ _ _) _ _) _ _=W at f ⊢
 have g1':=f.c3 3 rfl
 refine bodyPost_ret (v:=.tuple #[.agg #[.int .u64 Bq,.int .u8 fq,.int .i64 sq],.int .i64 nq,.int .i64 0]) (by simp [results,Tryz.results11,go_sem,g1']) rfl ?_
 exact ⟨Bq,fq,sq,nq,rfl,hp,f.b⟩
end Go.Proofs.YtobpioceopfkpaaGreatDoor
