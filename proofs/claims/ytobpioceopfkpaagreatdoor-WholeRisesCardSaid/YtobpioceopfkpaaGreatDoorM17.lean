/-
  Lemmas for WholeTurned and WholeGrows and WholeRises, part 17 of 36: what the program's functions do, and plain facts; without conditions.
-/
import Derived.Test.YtobpioceopfkpaaGreatDoorM16
import Derived.Test.YtobpioceopfkpaaGreatDoorM08
set_option maxRecDepth 100000
set_option maxHeartbeats 4000000
namespace Go.Proofs.YtobpioceopfkpaaGreatDoor
open Go.RowKit
theorem To_r {w:World} {u:Value} {d:Dn} (hu:Ry w u d) (sd:Sd d) (hneg:(bareN d).neg=false) (h0:(bareN d).m ≠ 0) (more:Bool) (z:Int) (hz:0≤z∧z≤3)
  (t:Int) (ht:t=topN (bareN d)) (htb:-900≤t∧t≤900) (n:Int) (hn:n=t - 52 - (bareN d).e) (hnb:-9000≤n∧n≤9000)
  (wm:Nat) (ix:Bool) (hw:wholeN (bareN d).m n z more=(wm,ix)) (hwb:bl wm≤3000)
  (t2:Int) (ht2:t2=topN (bareN ⟨false,wm,t - 52⟩)) (ht2b:-1000≤t2∧t2≤1000) (hwm:wm ≠ 0) (hn2:(bareN (bareN ⟨false,wm,t - 52⟩)).neg=false)
  (k:Nat) (hk:(k:Int)=(bareN (bareN ⟨false,wm,t - 52⟩)).e - (t2 - 52)) (x:Nat) (hx:x=(bareN (bareN ⟨false,wm,t - 52⟩)).m * 2^k) (hx1:4503599627370496≤x) (hx2:x < 9007199254740992)
  (b:Nat) (hb2:exactB x (t2 - 52)=(b:Int)) :
  Calls Tryz.prog 40 #[u,.bool more,.int .i64 z] w fun e w'=>e=.returned (.tuple #[.int .u64 (b:Int),.int .u8 (if ix then 1 else 0),.int .i64 0])∧Below w.heap.size w w':=by
 have CR:=h_ (fun w (h:Ry w u d)=>rright_r h sd h0 more z hz)
 have bd:=sd.bare
 obtain ⟨a1,k1,c1,rfl⟩:=hu.form
 generalize bareN d=D at *
 have CT:=h_ (fun w u (h:Cy w u D)=>Top_d h.ry)
 have CW:=h_ (fun w u (h:Cy w u D)=>whole_r h more z hz (t - 52) n hn (by omega) (by omega) hneg)
 rw [decide_eq_true h0,← ht] at CT
 rw [hw] at CW
 obtain ⟨nn,m,e⟩:=D
 simp only at hneg hn bd CW
 subst hneg
 have CM:=h_ (fun w u (h:Dg w u wm)=>Make_s (neg:=false) (e:=t - 52) (h.rd (by omega)) (by omega) (by omega))
 have sO:Sd (bareN ⟨false,wm,t - 52⟩):=by
  rw [bareN_pos (d:=⟨false,wm,t - 52⟩) hwm]
  have h1:=lo_le_bl hwm
  have h2:wm / 2^lo wm≤wm:=Nat.div_le_self _ _
  have h3:=bl_mono h2
  have h4:cutN (t - 52)=t - 52:=by unfold cutN; omega
  refine ⟨?_,?_,?_⟩ <;> simp only [h4] <;> omega
 have hO0:(bareN ⟨false,wm,t - 52⟩).m ≠ 0:=fun h=>hwm (bareN_m0.1 h)
 have CE:=h_ (fun w u (h:Cy w u (bareN ⟨false,wm,t - 52⟩))=>exact_r h.ry sO hn2 hO0 t2 ht2 ht2b k hk x hx hx1 hx2)
 rw [hb2] at CE
 generalize bareN ⟨false,wm,t - 52⟩=O at *
 obtain ⟨on,om,oe⟩:=O
 have CG:=h_ (fun w=>rsigned_r b w)
 obtain ⟨un,hun⟩:∃ un,un=t - 52:=⟨_,rfl⟩
 have q0:IntKind.i64.wrap (t - 52)=un:=by rw [IntWalk.i64_in _ (by omega)]; exact hun.symm
 have q1:max un (-1074)=un:=by omega
 rw [← hun] at CW CM
 have z1:decide (1023 < t)=false:=decide_eq_false (by omega)
 have z2:decide (t < -1075)=false:=decide_eq_false (by omega)
 have z3:decide (t < -1022)=false:=decide_eq_false (by omega)
 have HUU:=h_ hu
 clear hu sd h0 ht hn hnb hw hwb ht2 ht2b hwm hn2 hk hx hx1 hx2 hb2 bd sO hO0 hun htb hz
 obtain ⟨fl,hfl⟩:∃ fl:Int,fl=if ix then 1 else 0:=⟨_,rfl⟩
 rw [← hfl]
 cases ix
 ·obtain rfl:fl=0:=hfl
  have F0:=h_ (Fx.one w 42 #[.bool d.neg,.slice a1 k1 c1,.int .i64 d.e] rfl)
  have X0:=h_ (HUU.out.alloc (.cells #[.bool d.neg,.slice a1 k1 c1,.int .i64 d.e] 42))
  clear HUU
  go_enter Tryz.func40,Tryz.ntmps40
  go_upto_region 1 with (fail)
  generalize World.alloc _ _=w0 at F0 X0 ⊢
  have c0_0:=F0.out.c3 0 rfl
  go_wp2_with fail
  clear c0_0
  refine (CR.out _ X0.out).mono ?_
  rintro q w1 ⟨u,rfl,hu,hb⟩
  have F1:=h_ (F0.out.call hb)
  have X1:=h_ (X0.out.below hb)
  clear F0 X0
  have U1:=h_ (hu)
  clear hb
  have c0_1:=F1.out.c3 0 rfl
  clear X1
  obtain ⟨a3,k3,c3,rfl⟩:=U1.out.fm
  go_upto_region 4 with (fail)
  clear c0_1
  obtain ⟨f,p⟩:=F1.out.s3 0 rfl (.bool false) (.slice a3 k3 c3) (.int .i64 e) rfl rfl rfl
  generalize (World.setCell (World.setCell (World.setCell _ _ _) _ _) _ _)=W at f p ⊢
  have F2:=h_ (f)
  have U2:=h_ (U1.out.kp p)
  clear F1 U1
  clear f p
  simp only [List.set_cons_zero] at F2
  have c0_2:=F2.out.c3 0 rfl
  go_wp2_with fail
  clear c0_2
  refine (CT.out _ _ U2.out).mono ?_
  rintro q w3 ⟨rfl,hb⟩
  have F3:=h_ (F2.out.call hb)
  have U3:=h_ (U2.out.below hb)
  clear F2 U2
  clear hb
  have c0_3:=F3.out.c3 0 rfl
  go_wp2_with fail
  clear c0_3
  refine (CW.out _ _ U3.out).mono ?_
  rintro q w4 ⟨u,rfl,hu,hb⟩
  have F4:=h_ (F3.out.call hb)
  have U4:=h_ (U3.out.below hb)
  clear F3 U3
  have V4:=h_ (hu)
  clear hb
  have c0_4:=F4.out.c3 0 rfl
  obtain ⟨a4,k4,c4,rfl⟩:=V4.out.form
  go_wp2_with fail
  clear c0_4
  refine (CM.out _ _ V4.out).mono ?_
  rintro q w5 ⟨u,rfl,hu,hb⟩
  have F5:=h_ (F4.out.call hb)
  have U5:=h_ (U4.out.below hb)
  have V5:=h_ (V4.out.below hb)
  clear F4 U4 V4
  have W5:=h_ (hu)
  clear hb
  have c0_5:=F5.out.c3 0 rfl
  obtain ⟨a5,k5,c5,rfl⟩:=W5.out.fm
  go_upto_region 16 with (fail)
  clear c0_5
  have F6:=h_ (F5.out.new 42 #[.bool on,.slice a5 k5 c5,.int .i64 oe] rfl)
  have U6:=h_ (U5.out.alloc (.cells #[.bool on,.slice a5 k5 c5,.int .i64 oe] 42))
  have V6:=h_ (V5.out.alloc (.cells #[.bool on,.slice a5 k5 c5,.int .i64 oe] 42))
  have W6:=h_ (W5.out.alloc (.cells #[.bool on,.slice a5 k5 c5,.int .i64 oe] 42))
  clear F5 U5 V5 W5
  obtain ⟨g1,hg1⟩:∃ g,g=(World.heap w5).size:=⟨_,rfl⟩
  rw [← hg1] at F6 ⊢
  clear hg1
  simp only [List.nil_append,List.cons_append] at F6
  generalize World.alloc w5 _=W6 at F6 U6 V6 W6 ⊢
  have c0_6:=F6.out.c3 0 rfl
  have c1_6:=F6.out.c3 1 rfl
  go_wp2_with fail
  clear c0_6 c1_6
  refine (CE.out _ _ W6.out).mono ?_
  rintro q w7 ⟨rfl,hb⟩
  have F7:=h_ (F6.out.call hb)
  have U7:=h_ (U6.out.below hb)
  have V7:=h_ (V6.out.below hb)
  have W7:=h_ (W6.out.below hb)
  clear F6 U6 V6 W6
  clear hb
  have c0_7:=F7.out.c3 0 rfl
  have c1_7:=F7.out.c3 1 rfl
  go_wp2_with fail
  refine (CG.out _).mono ?_
  rintro q w8 ⟨rfl,rfl⟩
  go_wp2
  refine bodyPost_ret (v:=.tuple #[.int .u64 (b:Int),.int .u8 0,.int .i64 0]) (by simp [results,Tryz.results40,go_sem]) rfl ?_
  exact ⟨rfl,F7.out.b⟩
 ·obtain rfl:fl=1:=hfl
  have F0:=h_ (Fx.one w 42 #[.bool d.neg,.slice a1 k1 c1,.int .i64 d.e] rfl)
  have X0:=h_ (HUU.out.alloc (.cells #[.bool d.neg,.slice a1 k1 c1,.int .i64 d.e] 42))
  clear HUU
  go_enter Tryz.func40,Tryz.ntmps40
  go_upto_region 1 with (fail)
  generalize World.alloc _ _=w0 at F0 X0 ⊢
  have c0_0:=F0.out.c3 0 rfl
  go_wp2_with fail
  clear c0_0
  refine (CR.out _ X0.out).mono ?_
  rintro q w1 ⟨u,rfl,hu,hb⟩
  have F1:=h_ (F0.out.call hb)
  have X1:=h_ (X0.out.below hb)
  clear F0 X0
  have U1:=h_ (hu)
  clear hb
  have c0_1:=F1.out.c3 0 rfl
  clear X1
  obtain ⟨a3,k3,c3,rfl⟩:=U1.out.fm
  go_upto_region 4 with (fail)
  clear c0_1
  obtain ⟨f,p⟩:=F1.out.s3 0 rfl (.bool false) (.slice a3 k3 c3) (.int .i64 e) rfl rfl rfl
  generalize (World.setCell (World.setCell (World.setCell _ _ _) _ _) _ _)=W at f p ⊢
  have F2:=h_ (f)
  have U2:=h_ (U1.out.kp p)
  clear F1 U1
  clear f p
  simp only [List.set_cons_zero] at F2
  have c0_2:=F2.out.c3 0 rfl
  go_wp2_with fail
  clear c0_2
  refine (CT.out _ _ U2.out).mono ?_
  rintro q w3 ⟨rfl,hb⟩
  have F3:=h_ (F2.out.call hb)
  have U3:=h_ (U2.out.below hb)
  clear F2 U2
  clear hb
  have c0_3:=F3.out.c3 0 rfl
  go_wp2_with fail
  clear c0_3
  refine (CW.out _ _ U3.out).mono ?_
  rintro q w4 ⟨u,rfl,hu,hb⟩
  have F4:=h_ (F3.out.call hb)
  have U4:=h_ (U3.out.below hb)
  clear F3 U3
  have V4:=h_ (hu)
  clear hb
  have c0_4:=F4.out.c3 0 rfl
  obtain ⟨a4,k4,c4,rfl⟩:=V4.out.form
  go_wp2_with fail
  clear c0_4
  refine (CM.out _ _ V4.out).mono ?_
  rintro q w5 ⟨u,rfl,hu,hb⟩
  have F5:=h_ (F4.out.call hb)
  have U5:=h_ (U4.out.below hb)
  have V5:=h_ (V4.out.below hb)
  clear F4 U4 V4
  have W5:=h_ (hu)
  clear hb
  have c0_5:=F5.out.c3 0 rfl
  obtain ⟨a5,k5,c5,rfl⟩:=W5.out.fm
  go_upto_region 16 with (fail)
  clear c0_5
  have F6:=h_ (F5.out.new 42 #[.bool on,.slice a5 k5 c5,.int .i64 oe] rfl)
  have U6:=h_ (U5.out.alloc (.cells #[.bool on,.slice a5 k5 c5,.int .i64 oe] 42))
  have V6:=h_ (V5.out.alloc (.cells #[.bool on,.slice a5 k5 c5,.int .i64 oe] 42))
  have W6:=h_ (W5.out.alloc (.cells #[.bool on,.slice a5 k5 c5,.int .i64 oe] 42))
  clear F5 U5 V5 W5
  obtain ⟨g1,hg1⟩:∃ g,g=(World.heap w5).size:=⟨_,rfl⟩
  rw [← hg1] at F6 ⊢
  clear hg1
  simp only [List.nil_append,List.cons_append] at F6
  generalize World.alloc w5 _=W6 at F6 U6 V6 W6 ⊢
  have c0_6:=F6.out.c3 0 rfl
  have c1_6:=F6.out.c3 1 rfl
  go_wp2_with fail
  clear c0_6 c1_6
  refine (CE.out _ _ W6.out).mono ?_
  rintro q w7 ⟨rfl,hb⟩
  have F7:=h_ (F6.out.call hb)
  have U7:=h_ (U6.out.below hb)
  have V7:=h_ (V6.out.below hb)
  have W7:=h_ (W6.out.below hb)
  clear F6 U6 V6 W6
  clear hb
  have c0_7:=F7.out.c3 0 rfl
  have c1_7:=F7.out.c3 1 rfl
  go_wp2_with fail
  refine (CG.out _).mono ?_
  rintro q w8 ⟨rfl,rfl⟩
  go_wp2
  refine bodyPost_ret (v:=.tuple #[.int .u64 (b:Int),.int .u8 1,.int .i64 0]) (by simp [results,Tryz.results40,go_sem]) rfl ?_
  exact ⟨rfl,F7.out.b⟩
def Sw (d:Dn):Prop:=bl d.m≤4000∧-20000≤d.e∧d.e≤20000
theorem Sd.sw {d:Dn} (h:Sd d):Sw d:=by obtain ⟨h1,h2,h3⟩:=h; exact ⟨h1,by omega,by omega⟩
theorem Sw.bare {d:Dn} (h:Sw d):bl (bareN d).m≤4000∧-20000≤(bareN d).e∧(bareN d).e≤24000:=by
 obtain ⟨h1,h2,h3⟩:=h
 by_cases h0:d.m=0
 ·rw [bareN_zero h0]; exact ⟨Nat.zero_le _,by decide,by decide⟩
 ·have k1:=lo_le_bl h0
  have:d.m / 2^lo d.m≤d.m:=Nat.div_le_self _ _
  have k2:=bl_mono this
  have k3:cutN d.e=d.e:=by unfold cutN; omega
  rw [bareN_pos h0,k3]; simp only; omega
theorem Bare_w {w:World} {v:Value} {d:Dn} (h:Ry w v d) (hs:Sw d):Calls Tryz.prog 31 #[v] w (RetCE (bareN d) 0 w):=by
 have h1:=Bare_d h
 have h2:=hs.bare
 rw [BareN_sm (d:=d) (by omega)] at h1
 exact h1
theorem rright_w {w:World} {u:Value} {d:Dn} (hu:Ry w u d) (sd:Sw d) (h0:(bareN d).m ≠ 0) (more:Bool) (z:Int) (hz:0≤z∧z≤3) :
  Calls Tryz.prog 82 #[u,.bool more,.int .i64 z] w fun e w'=>∃ x,e=.returned (.tuple #[x,.bool true])∧Cy w' x (bareN d)∧Below w.heap.size w w':=by
 have CA:=h_ (fun w (h:Ry w u d)=>Bare_w h sd)
 obtain ⟨a1,k1,c1,rfl⟩:=hu.form
 generalize bareN d=D at *
 obtain ⟨n,m,e⟩:=D
 simp only at h0
 have z1:decide ((0:Int)≤z)=true:=decide_eq_true hz.1
 have z2:decide (z≤(3:Int))=true:=decide_eq_true hz.2
 have HUU:=h_ hu
 have HZ:=h_ h0
 clear hu sd h0
 obtain ⟨hz1,hz2⟩:=hz
 cases more
 ·have F0:=h_ (Fx.two w 42 #[.bool d.neg,.slice a1 k1 c1,.int .i64 d.e] 42 #[.bool false,.slice none 0 0,.int .i64 0] rfl rfl)
  have X0:=h_ ((HUU.out.alloc (.cells #[.bool d.neg,.slice a1 k1 c1,.int .i64 d.e] 42)).alloc (.cells #[.bool false,.slice none 0 0,.int .i64 0] 42))
  clear HUU
  go_enter Tryz.func82,Tryz.ntmps82
  go_upto_region 1 with (fail)
  generalize World.alloc (World.alloc _ _) _=w0 at F0 X0 ⊢
  have c0_0:=F0.out.c3 0 rfl
  have c1_0:=F0.out.c3 1 rfl
  go_wp2_with fail
  clear c0_0 c1_0
  refine (CA.out _ X0.out).mono ?_
  rintro q w1 ⟨u,rfl,hu,hb⟩
  have F1:=h_ (F0.out.call hb)
  have X1:=h_ (X0.out.below hb)
  clear F0 X0
  have U1:=h_ (hu)
  clear hb
  have c0_1:=F1.out.c3 0 rfl
  have c1_1:=F1.out.c3 1 rfl
  obtain ⟨a3,k3,c3,rfl⟩:=U1.out.fm
  have zk:((k3:Int) == 0)=false:=by rw [beq_eq_false_iff_ne]; intro h; exact HZ.out (U1.out.dm.len0.2 (by omega))
  go_upto_region 2 with (fail)
  clear X1
  clear c0_1 c1_1
  obtain ⟨f,p⟩:=F1.out.s3 0 rfl (.bool n) (.slice a3 k3 c3) (.int .i64 e) rfl rfl rfl
  generalize (World.setCell (World.setCell (World.setCell _ _ _) _ _) _ _)=W at f p ⊢
  have F2:=h_ (f)
  have U2:=h_ (U1.out.kp p)
  clear F1 U1
  clear f p
  simp only [List.set_cons_zero] at F2
  have c0_2:=F2.out.c3 0 rfl
  have c1_2:=F2.out.c3 1 rfl
  have D2:=h_ F2.out.drew
  have d0:=D2.out.c3 0 rfl
  have d1:=D2.out.c3 1 rfl
  go_region
  all_goals
   go_wp2
   obtain ⟨f0,p0⟩:=F2.out.s3 1 rfl (.bool n) (.slice a3 k3 c3) (.int .i64 e) rfl rfl rfl
   have p:=(p0).trans (Kp.drew _)
   have f:=f0.drew
   clear f0 p0
   generalize World.drew (World.setCell (World.setCell (World.setCell _ _ _) _ _) _ _)=W at f p ⊢
   have g1:=f.c3 1 rfl
   refine bodyPost_ret (v:=.tuple #[.agg #[.bool n,.slice a3 k3 c3,.int .i64 e],.bool true]) (by simp [results,Tryz.results82,go_sem,g1]) rfl ?_
   exact ⟨_,rfl,U2.out.kp p,f.b⟩
 ·have F0:=h_ (Fx.two w 42 #[.bool d.neg,.slice a1 k1 c1,.int .i64 d.e] 42 #[.bool false,.slice none 0 0,.int .i64 0] rfl rfl)
  have X0:=h_ ((HUU.out.alloc (.cells #[.bool d.neg,.slice a1 k1 c1,.int .i64 d.e] 42)).alloc (.cells #[.bool false,.slice none 0 0,.int .i64 0] 42))
  clear HUU
  go_enter Tryz.func82,Tryz.ntmps82
  go_upto_region 1 with (fail)
  generalize World.alloc (World.alloc _ _) _=w0 at F0 X0 ⊢
  have c0_0:=F0.out.c3 0 rfl
  have c1_0:=F0.out.c3 1 rfl
  go_wp2_with fail
  clear c0_0 c1_0
  refine (CA.out _ X0.out).mono ?_
  rintro q w1 ⟨u,rfl,hu,hb⟩
  have F1:=h_ (F0.out.call hb)
  have X1:=h_ (X0.out.below hb)
  clear F0 X0
  have U1:=h_ (hu)
  clear hb
  have c0_1:=F1.out.c3 0 rfl
  have c1_1:=F1.out.c3 1 rfl
  obtain ⟨a3,k3,c3,rfl⟩:=U1.out.fm
  have zk:((k3:Int) == 0)=false:=by rw [beq_eq_false_iff_ne]; intro h; exact HZ.out (U1.out.dm.len0.2 (by omega))
  go_upto_region 2 with (fail)
  clear X1
  clear c0_1 c1_1
  obtain ⟨f,p⟩:=F1.out.s3 0 rfl (.bool n) (.slice a3 k3 c3) (.int .i64 e) rfl rfl rfl
  generalize (World.setCell (World.setCell (World.setCell _ _ _) _ _) _ _)=W at f p ⊢
  have F2:=h_ (f)
  have U2:=h_ (U1.out.kp p)
  clear F1 U1
  clear f p
  simp only [List.set_cons_zero] at F2
  have c0_2:=F2.out.c3 0 rfl
  have c1_2:=F2.out.c3 1 rfl
  have FC:=h_ (F2.out.c3 0 rfl).1
  have FCD:=h_ (F2.out.drew.c3 0 rfl).1
  have d1:=F2.out.drew.c3 1 rfl
  go_region_held3 (fun w'=>w'.cell? ⟨w.heap.size,0,none⟩=some (.bool n)∧w'.cell? ⟨w.heap.size,1,none⟩=some (.slice a3 k3 c3)∧w'.cell? ⟨w.heap.size,2,none⟩=some (.int .i64 e)) (first | with_reducible exact FCD.out | with_reducible exact FC.out | exact ((F2.out.drew.s3 1 rfl (.bool n) (.slice a3 k3 c3) (.int .i64 e) rfl rfl rfl).1.c3 0 rfl).1) (first | fail)
  go_wp2
  obtain ⟨f0,p0⟩:=F2.out.s3 1 rfl (.bool n) (.slice a3 k3 c3) (.int .i64 e) rfl rfl rfl
  have p:=(p0).trans (Kp.drew _)
  have f:=f0.drew
  clear f0 p0
  generalize World.drew (World.setCell (World.setCell (World.setCell _ _ _) _ _) _ _)=W at f p ⊢
  have g1:=f.c3 1 rfl
  refine bodyPost_ret (v:=.tuple #[.agg #[.bool n,.slice a3 k3 c3,.int .i64 e],.bool true]) (by simp [results,Tryz.results82,go_sem,g1]) rfl ?_
  exact ⟨_,rfl,U2.out.kp p,f.b⟩
def overB (z:Int):Nat:=if z=0 ∨ z=2 then 9218868437227405312 else 9218868437227405311
def underB (z:Int):Nat:=if z=2 then 1 else 0
theorem Over_r (z:Int) (hz:0≤z∧z≤3) (w:World):Calls Tryz.prog 84 #[.bool false,.int .i64 z] w fun e w'=>e=.returned (.tuple #[.int .u64 (overB z:Nat),.int .u8 5])∧w=w':=by
 have R0:Calls Tryz.prog 84 #[.bool false,.int .i64 0] w fun e w'=>e=.returned (.tuple #[.int .u64 (overB 0:Nat),.int .u8 5])∧w=w':=by
  have e:overB 0=9218868437227405312:=by decide
  rw [e]
  have CU:=h_ (fun w=>up_r 0 (by decide) w)
  have CS:=h_ (fun w=>rsigned_r 9218868437227405312 w)
  rw [show ((0:Int) == 2)=false from rfl] at CU
  clear e hz
  go_enter Tryz.func84,Tryz.ntmps84
  go_wp2_with fail
  refine (CS.out _).mono ?_
  rintro e w2 ⟨rfl,rfl⟩
  go_wp2
  refine bodyPost_ret (v:=.tuple #[.int .u64 9218868437227405312,.int .u8 5]) (by simp [results,Tryz.results84,go_sem]) rfl ?_
  exact ⟨rfl,rfl⟩
 have R1:Calls Tryz.prog 84 #[.bool false,.int .i64 1] w fun e w'=>e=.returned (.tuple #[.int .u64 (overB 1:Nat),.int .u8 5])∧w=w':=by
  have e:overB 1=9218868437227405311:=by decide
  rw [e]
  have CU:=h_ (fun w=>up_r 1 (by decide) w)
  have CS:=h_ (fun w=>rsigned_r 9218868437227405311 w)
  rw [show ((1:Int) == 2)=false from rfl] at CU
  clear e hz
  go_enter Tryz.func84,Tryz.ntmps84
  go_wp2_with fail
  refine (CU.out _).mono ?_
  rintro e w2 ⟨rfl,rfl⟩
  go_wp2_with fail
  refine (CS.out _).mono ?_
  rintro e w2 ⟨rfl,rfl⟩
  go_wp2
  refine bodyPost_ret (v:=.tuple #[.int .u64 9218868437227405311,.int .u8 5]) (by simp [results,Tryz.results84,go_sem]) rfl ?_
  exact ⟨rfl,rfl⟩
 have R2:Calls Tryz.prog 84 #[.bool false,.int .i64 2] w fun e w'=>e=.returned (.tuple #[.int .u64 (overB 2:Nat),.int .u8 5])∧w=w':=by
  have e:overB 2=9218868437227405312:=by decide
  rw [e]
  have CU:=h_ (fun w=>up_r 2 (by decide) w)
  have CS:=h_ (fun w=>rsigned_r 9218868437227405312 w)
  rw [show ((2:Int) == 2)=true from rfl] at CU
  clear e hz
  go_enter Tryz.func84,Tryz.ntmps84
  go_wp2_with fail
  refine (CU.out _).mono ?_
  rintro e w2 ⟨rfl,rfl⟩
  go_wp2_with fail
  refine (CS.out _).mono ?_
  rintro e w2 ⟨rfl,rfl⟩
  go_wp2
  refine bodyPost_ret (v:=.tuple #[.int .u64 9218868437227405312,.int .u8 5]) (by simp [results,Tryz.results84,go_sem]) rfl ?_
  exact ⟨rfl,rfl⟩
 have R3:Calls Tryz.prog 84 #[.bool false,.int .i64 3] w fun e w'=>e=.returned (.tuple #[.int .u64 (overB 3:Nat),.int .u8 5])∧w=w':=by
  have e:overB 3=9218868437227405311:=by decide
  rw [e]
  have CU:=h_ (fun w=>up_r 3 (by decide) w)
  have CS:=h_ (fun w=>rsigned_r 9218868437227405311 w)
  rw [show ((3:Int) == 2)=false from rfl] at CU
  clear e hz
  go_enter Tryz.func84,Tryz.ntmps84
  go_wp2_with fail
  refine (CU.out _).mono ?_
  rintro e w2 ⟨rfl,rfl⟩
  go_wp2_with fail
  refine (CS.out _).mono ?_
  rintro e w2 ⟨rfl,rfl⟩
  go_wp2
  refine bodyPost_ret (v:=.tuple #[.int .u64 9218868437227405311,.int .u8 5]) (by simp [results,Tryz.results84,go_sem]) rfl ?_
  exact ⟨rfl,rfl⟩
 rcases (by omega:z=0 ∨ z=1 ∨ z=2 ∨ z=3) with rfl | rfl | rfl | rfl
 ·exact R0
 ·exact R1
 ·exact R2
 ·exact R3
theorem Under_r (z:Int) (hz:0≤z∧z≤3) (w:World):Calls Tryz.prog 85 #[.bool false,.int .i64 z] w fun e w'=>e=.returned (.tuple #[.int .u64 (underB z:Nat),.int .u8 3])∧w=w':=by
 have R0:Calls Tryz.prog 85 #[.bool false,.int .i64 0] w fun e w'=>e=.returned (.tuple #[.int .u64 (underB 0:Nat),.int .u8 3])∧w=w':=by
  have e:underB 0=0:=by decide
  rw [e]
  have CU:=h_ (fun w=>up_r 0 (by decide) w)
  have CS:=h_ (fun w=>rsigned_r 0 w)
  rw [show ((0:Int) == 2)=false from rfl] at CU
  clear e hz
  go_enter Tryz.func85,Tryz.ntmps85
  go_wp2_with fail
  refine (CU.out _).mono ?_
  rintro e w2 ⟨rfl,rfl⟩
  go_wp2_with fail
  refine (CS.out _).mono ?_
  rintro e w2 ⟨rfl,rfl⟩
  go_wp2
  refine bodyPost_ret (v:=.tuple #[.int .u64 0,.int .u8 3]) (by simp [results,Tryz.results85,go_sem]) rfl ?_
  exact ⟨rfl,rfl⟩
 have R1:Calls Tryz.prog 85 #[.bool false,.int .i64 1] w fun e w'=>e=.returned (.tuple #[.int .u64 (underB 1:Nat),.int .u8 3])∧w=w':=by
  have e:underB 1=0:=by decide
  rw [e]
  have CU:=h_ (fun w=>up_r 1 (by decide) w)
  have CS:=h_ (fun w=>rsigned_r 0 w)
  rw [show ((1:Int) == 2)=false from rfl] at CU
  clear e hz
  go_enter Tryz.func85,Tryz.ntmps85
  go_wp2_with fail
  refine (CU.out _).mono ?_
  rintro e w2 ⟨rfl,rfl⟩
  go_wp2_with fail
  refine (CS.out _).mono ?_
  rintro e w2 ⟨rfl,rfl⟩
  go_wp2
  refine bodyPost_ret (v:=.tuple #[.int .u64 0,.int .u8 3]) (by simp [results,Tryz.results85,go_sem]) rfl ?_
  exact ⟨rfl,rfl⟩
 have R2:Calls Tryz.prog 85 #[.bool false,.int .i64 2] w fun e w'=>e=.returned (.tuple #[.int .u64 (underB 2:Nat),.int .u8 3])∧w=w':=by
  have e:underB 2=1:=by decide
  rw [e]
  have CU:=h_ (fun w=>up_r 2 (by decide) w)
  have CS:=h_ (fun w=>rsigned_r 1 w)
  rw [show ((2:Int) == 2)=true from rfl] at CU
  clear e hz
  go_enter Tryz.func85,Tryz.ntmps85
  go_wp2_with fail
  refine (CU.out _).mono ?_
  rintro e w2 ⟨rfl,rfl⟩
  go_wp2_with fail
  refine (CS.out _).mono ?_
  rintro e w2 ⟨rfl,rfl⟩
  go_wp2
  refine bodyPost_ret (v:=.tuple #[.int .u64 1,.int .u8 3]) (by simp [results,Tryz.results85,go_sem]) rfl ?_
  exact ⟨rfl,rfl⟩
 have R3:Calls Tryz.prog 85 #[.bool false,.int .i64 3] w fun e w'=>e=.returned (.tuple #[.int .u64 (underB 3:Nat),.int .u8 3])∧w=w':=by
  have e:underB 3=0:=by decide
  rw [e]
  have CU:=h_ (fun w=>up_r 3 (by decide) w)
  have CS:=h_ (fun w=>rsigned_r 0 w)
  rw [show ((3:Int) == 2)=false from rfl] at CU
  clear e hz
  go_enter Tryz.func85,Tryz.ntmps85
  go_wp2_with fail
  refine (CU.out _).mono ?_
  rintro e w2 ⟨rfl,rfl⟩
  go_wp2_with fail
  refine (CS.out _).mono ?_
  rintro e w2 ⟨rfl,rfl⟩
  go_wp2
  refine bodyPost_ret (v:=.tuple #[.int .u64 0,.int .u8 3]) (by simp [results,Tryz.results85,go_sem]) rfl ?_
  exact ⟨rfl,rfl⟩
 rcases (by omega:z=0 ∨ z=1 ∨ z=2 ∨ z=3) with rfl | rfl | rfl | rfl
 ·exact R0
 ·exact R1
 ·exact R2
 ·exact R3
structure Fz (w0 w:World) (bs:List (Nat × TypeId × Array Value)):Prop where
 b:Below w0.heap.size w0 w
 box:∀ (i g:Nat) t cs,bs[i]?=some (g,t,cs)→Blk w g t cs
 low:∀ (i g:Nat) t cs,bs[i]?=some (g,t,cs)→w0.heap.size≤g
 asc:∀ (i j g:Nat) t cs (g':Nat) t' cs',i < j→bs[i]?=some (g,t,cs)→bs[j]?=some (g',t',cs')→g < g'
theorem Fx.fz {w0 w:World} {bs:List (Nat × TypeId × Array Value)} (h:Fx w0 w bs):Fz w0 w bs:=⟨h.b,h.box,h.low,h.asc⟩
theorem Fz.nil (w:World):Fz w w []:=(Fx.nil w).fz
theorem Fz.new {w0 w:World} {bs:List (Nat × TypeId × Array Value)} (h:Fz w0 w bs) (t:TypeId) (cs:Array Value) :
  Fz w0 (w.alloc (.cells cs t)) (bs ++ [(w.heap.size,t,cs)]):=by
 refine ⟨h.b.alloc h.b.size _,?_,?_,?_⟩
 ·intro i g t' cs' hi
  rcases get_snoc hi with hi | ⟨rfl,hi⟩
  ·exact (h.box i g t' cs' hi).alloc _
  ·simp at hi; obtain ⟨rfl,rfl,rfl⟩:=hi; exact Blk.new w _ _
 ·intro i g t' cs' hi
  rcases get_snoc hi with hi | ⟨rfl,hi⟩
  ·exact h.low i g t' cs' hi
  ·simp at hi; obtain ⟨rfl,rfl,rfl⟩:=hi; exact h.b.size
 ·intro i j g t1 cs1 g' t' cs' hij hi hj
  rcases get_snoc hj with hj | ⟨rfl,hj⟩
  ·rcases get_snoc hi with hi | ⟨rfl,hi⟩
   ·exact h.asc i j g t1 cs1 g' t' cs' hij hi hj
   ·have:=(List.getElem?_eq_some_iff.1 hj).1; omega
  ·simp at hj; obtain ⟨rfl,rfl,rfl⟩:=hj
   rcases get_snoc hi with hi | ⟨rfl,hi⟩
   ·exact (h.box i g t1 cs1 hi).lt
   ·omega
theorem Fz.call {w0 w w':World} {bs:List (Nat × TypeId × Array Value)} (h:Fz w0 w bs) (hb:Below w.heap.size w w'):Fz w0 w' bs :=
 ⟨h.b.trans (hb.mono h.b.size),fun i g t cs hi=>(h.box i g t cs hi).below hb,h.low,h.asc⟩
theorem Fz.alloc {w0 w:World} {bs:List (Nat × TypeId × Array Value)} (h:Fz w0 w bs) (o:Obj):Fz w0 (w.alloc o) bs :=
 ⟨h.b.alloc h.b.size _,fun i g t cs hi=>(h.box i g t cs hi).alloc _,h.low,h.asc⟩
theorem Fz.drewN {w0 w:World} {bs:List (Nat × TypeId × Array Value)} (h:Fz w0 w bs) (n:Nat):Fz w0 (w.drewN n) bs:=⟨below_drewN' h.b n,h.box,h.low,h.asc⟩
theorem Fz.drew {w0 w:World} {bs:List (Nat × TypeId × Array Value)} (h:Fz w0 w bs):Fz w0 w.drew bs:=h.drewN 1
theorem Fz.one (w:World) (t:TypeId) (cs:Array Value):Fz w (w.alloc (.cells cs t)) [(w.heap.size,t,cs)]:=(Fz.nil w).new t cs
theorem Fz.two (w:World) (t:TypeId) (cs:Array Value) (t':TypeId) (cs':Array Value):Fz w ((w.alloc (.cells cs t)).alloc (.cells cs' t')) [(w.heap.size,t,cs),(w.heap.size+1,t',cs')]:=by
 have:=((Fz.nil w).new t cs).new t' cs'
 simpa using this
theorem Fz.three (w:World) (t:TypeId) (cs:Array Value) (t':TypeId) (cs':Array Value) (t'':TypeId) (cs'':Array Value) :
  Fz w (((w.alloc (.cells cs t)).alloc (.cells cs' t')).alloc (.cells cs'' t'')) [(w.heap.size,t,cs),(w.heap.size+1,t',cs'),(w.heap.size+1+1,t'',cs'')]:=by
 have:=(((Fz.nil w).new t cs).new t' cs').new t'' cs''
 simpa using this
theorem Fz.four (w:World) (t:TypeId) (cs:Array Value) (t':TypeId) (cs':Array Value) (t'':TypeId) (cs'':Array Value) (t3:TypeId) (cs3:Array Value) :
  Fz w ((((w.alloc (.cells cs t)).alloc (.cells cs' t')).alloc (.cells cs'' t'')).alloc (.cells cs3 t3)) [(w.heap.size,t,cs),(w.heap.size+1,t',cs'),(w.heap.size+1+1,t'',cs''),(w.heap.size+1+1+1,t3,cs3)]:=by
 have:=((((Fz.nil w).new t cs).new t' cs').new t'' cs'').new t3 cs3
 simpa using this
theorem Fz.set {w0 w:World} {bs:List (Nat × TypeId × Array Value)} (h:Fz w0 w bs) (i j:Nat) {g:Nat} {t:TypeId} {cs:Array Value} (hi:bs[i]?=some (g,t,cs)) (u:Value) :
  Fz w0 (w.setCell ⟨g,j,none⟩ u) (bs.set i (g,t,cs.setIfInBounds j u)):=by
 have hl:=(List.getElem?_eq_some_iff.1 hi).1
 have key:∀ (k g':Nat) t' cs',(bs.set i (g,t,cs.setIfInBounds j u))[k]?=some (g',t',cs')→k=i∧g'=g∧t'=t∧cs'=cs.setIfInBounds j u ∨ k ≠ i∧bs[k]?=some (g',t',cs'):=by
  intro k g' t' cs' hk
  by_cases hki:k=i
  ·subst hki; rw [List.getElem?_set_self hl] at hk; simp at hk
   obtain ⟨rfl,rfl,rfl⟩:=hk; exact .inl ⟨rfl,rfl,rfl,rfl⟩
  ·rw [List.getElem?_set_ne (Ne.symm hki)] at hk; exact .inr ⟨hki,hk⟩
 refine ⟨h.b.setCell (h.low i g t cs hi) _,?_,?_,?_⟩
 ·intro k g' t' cs' hk
  rcases key k g' t' cs' hk with ⟨rfl,rfl,rfl,rfl⟩ | ⟨hki,hk⟩
  ·exact (h.box k _ _ cs hi).set j u
  ·refine (h.box k g' t' cs' hk).far ?_ u
   rcases Nat.lt_or_gt_of_ne hki with hlt | hgt
   ·have:=h.asc k i g' t' cs' g t cs hlt hk hi; simp; omega
   ·have:=h.asc i k g t cs g' t' cs' hgt hi hk; simp; omega
 ·intro k g' t' cs' hk
  rcases key k g' t' cs' hk with ⟨rfl,rfl,rfl,rfl⟩ | ⟨hki,hk⟩
  ·exact h.low k _ _ cs hi
  ·exact h.low k g' t' cs' hk
 ·intro a c g1 t1 cs1 g2 t2 cs2 hac ha hc
  have e1:∃ t3 cs3,bs[a]?=some (g1,t3,cs3):=by
   rcases key a g1 t1 cs1 ha with ⟨rfl,rfl,rfl,rfl⟩ | ⟨_,hk⟩
   ·exact ⟨_,_,hi⟩
   ·exact ⟨_,_,hk⟩
  have e2:∃ t3 cs3,bs[c]?=some (g2,t3,cs3):=by
   rcases key c g2 t2 cs2 hc with ⟨rfl,rfl,rfl,rfl⟩ | ⟨_,hk⟩
   ·exact ⟨_,_,hi⟩
   ·exact ⟨_,_,hk⟩
  obtain ⟨_,_,e1⟩:=e1
  obtain ⟨_,_,e2⟩:=e2
  exact h.asc a c _ _ _ _ _ _ hac e1 e2
theorem Fz.s2 {w0 w:World} {bs:List (Nat × TypeId × Array Value)} (h:Fz w0 w bs) (i:Nat) {g:Nat} {t:TypeId} {x0 x1:Value} (hi:bs[i]?=some (g,t,#[x0,x1])) (y0 y1:Value) :
  Fz w0 ((w.setCell ⟨g,0,none⟩ y0).setCell ⟨g,1,none⟩ y1) (bs.set i (g,t,#[y0,y1])):=by
 have hl:=(List.getElem?_eq_some_iff.1 hi).1
 have q0:=h.set i 0 hi y0
 have hi0:(bs.set i (g,t,#[y0,x1]))[i]?=some (g,t,#[y0,x1]):=List.getElem?_set_self hl
 have r0:Fz w0 _ (bs.set i (g,t,#[y0,x1])):=q0
 have q1:=r0.set i 1 hi0 y1
 rw [List.set_set] at q1
 exact q1
theorem Fz.s3 {w0 w:World} {bs:List (Nat × TypeId × Array Value)} (h:Fz w0 w bs) (i:Nat) {g:Nat} {t:TypeId} {x0 x1 x2:Value} (hi:bs[i]?=some (g,t,#[x0,x1,x2])) (y0 y1 y2:Value) :
  Fz w0 (((w.setCell ⟨g,0,none⟩ y0).setCell ⟨g,1,none⟩ y1).setCell ⟨g,2,none⟩ y2) (bs.set i (g,t,#[y0,y1,y2])):=by
 have hl:=(List.getElem?_eq_some_iff.1 hi).1
 have q0:=h.set i 0 hi y0
 have hi0:(bs.set i (g,t,#[y0,x1,x2]))[i]?=some (g,t,#[y0,x1,x2]):=List.getElem?_set_self hl
 have r0:Fz w0 _ (bs.set i (g,t,#[y0,x1,x2])):=q0
 have q1:=r0.set i 1 hi0 y1
 rw [List.set_set] at q1
 have hi1:(bs.set i (g,t,#[y0,y1,x2]))[i]?=some (g,t,#[y0,y1,x2]):=List.getElem?_set_self hl
 have r1:Fz w0 _ (bs.set i (g,t,#[y0,y1,x2])):=q1
 have q2:=r1.set i 2 hi1 y2
 rw [List.set_set] at q2
 exact q2
theorem Fz.s4 {w0 w:World} {bs:List (Nat × TypeId × Array Value)} (h:Fz w0 w bs) (i:Nat) {g:Nat} {t:TypeId} {x0 x1 x2 x3:Value} (hi:bs[i]?=some (g,t,#[x0,x1,x2,x3])) (y0 y1 y2 y3:Value) :
  Fz w0 ((((w.setCell ⟨g,0,none⟩ y0).setCell ⟨g,1,none⟩ y1).setCell ⟨g,2,none⟩ y2).setCell ⟨g,3,none⟩ y3) (bs.set i (g,t,#[y0,y1,y2,y3])):=by
 have hl:=(List.getElem?_eq_some_iff.1 hi).1
 have q0:=h.set i 0 hi y0
 have hi0:(bs.set i (g,t,#[y0,x1,x2,x3]))[i]?=some (g,t,#[y0,x1,x2,x3]):=List.getElem?_set_self hl
 have r0:Fz w0 _ (bs.set i (g,t,#[y0,x1,x2,x3])):=q0
 have q1:=r0.set i 1 hi0 y1
 rw [List.set_set] at q1
 have hi1:(bs.set i (g,t,#[y0,y1,x2,x3]))[i]?=some (g,t,#[y0,y1,x2,x3]):=List.getElem?_set_self hl
 have r1:Fz w0 _ (bs.set i (g,t,#[y0,y1,x2,x3])):=q1
 have q2:=r1.set i 2 hi1 y2
 rw [List.set_set] at q2
 have hi2:(bs.set i (g,t,#[y0,y1,y2,x3]))[i]?=some (g,t,#[y0,y1,y2,x3]):=List.getElem?_set_self hl
 have r2:Fz w0 _ (bs.set i (g,t,#[y0,y1,y2,x3])):=q2
 have q3:=r2.set i 3 hi2 y3
 rw [List.set_set] at q3
 exact q3
theorem Fz.s11 {w0 w:World} {bs:List (Nat × TypeId × Array Value)} (h:Fz w0 w bs) (i:Nat) {g:Nat} {t:TypeId} {x0 x1 x2 x3 x4 x5 x6 x7 x8 x9 x10:Value} (hi:bs[i]?=some (g,t,#[x0,x1,x2,x3,x4,x5,x6,x7,x8,x9,x10])) (y0 y1 y2 y3 y4 y5 y6 y7 y8 y9 y10:Value) :
  Fz w0 (((((((((((w.setCell ⟨g,0,none⟩ y0).setCell ⟨g,1,none⟩ y1).setCell ⟨g,2,none⟩ y2).setCell ⟨g,3,none⟩ y3).setCell ⟨g,4,none⟩ y4).setCell ⟨g,5,none⟩ y5).setCell ⟨g,6,none⟩ y6).setCell ⟨g,7,none⟩ y7).setCell ⟨g,8,none⟩ y8).setCell ⟨g,9,none⟩ y9).setCell ⟨g,10,none⟩ y10) (bs.set i (g,t,#[y0,y1,y2,y3,y4,y5,y6,y7,y8,y9,y10])):=by
 have hl:=(List.getElem?_eq_some_iff.1 hi).1
 have q0:=h.set i 0 hi y0
 have hi0:(bs.set i (g,t,#[y0,x1,x2,x3,x4,x5,x6,x7,x8,x9,x10]))[i]?=some (g,t,#[y0,x1,x2,x3,x4,x5,x6,x7,x8,x9,x10]):=List.getElem?_set_self hl
 have r0:Fz w0 _ (bs.set i (g,t,#[y0,x1,x2,x3,x4,x5,x6,x7,x8,x9,x10])):=q0
 have q1:=r0.set i 1 hi0 y1
 rw [List.set_set] at q1
 have hi1:(bs.set i (g,t,#[y0,y1,x2,x3,x4,x5,x6,x7,x8,x9,x10]))[i]?=some (g,t,#[y0,y1,x2,x3,x4,x5,x6,x7,x8,x9,x10]):=List.getElem?_set_self hl
 have r1:Fz w0 _ (bs.set i (g,t,#[y0,y1,x2,x3,x4,x5,x6,x7,x8,x9,x10])):=q1
 have q2:=r1.set i 2 hi1 y2
 rw [List.set_set] at q2
 have hi2:(bs.set i (g,t,#[y0,y1,y2,x3,x4,x5,x6,x7,x8,x9,x10]))[i]?=some (g,t,#[y0,y1,y2,x3,x4,x5,x6,x7,x8,x9,x10]):=List.getElem?_set_self hl
 have r2:Fz w0 _ (bs.set i (g,t,#[y0,y1,y2,x3,x4,x5,x6,x7,x8,x9,x10])):=q2
 have q3:=r2.set i 3 hi2 y3
 rw [List.set_set] at q3
 have hi3:(bs.set i (g,t,#[y0,y1,y2,y3,x4,x5,x6,x7,x8,x9,x10]))[i]?=some (g,t,#[y0,y1,y2,y3,x4,x5,x6,x7,x8,x9,x10]):=List.getElem?_set_self hl
 have r3:Fz w0 _ (bs.set i (g,t,#[y0,y1,y2,y3,x4,x5,x6,x7,x8,x9,x10])):=q3
 have q4:=r3.set i 4 hi3 y4
 rw [List.set_set] at q4
 have hi4:(bs.set i (g,t,#[y0,y1,y2,y3,y4,x5,x6,x7,x8,x9,x10]))[i]?=some (g,t,#[y0,y1,y2,y3,y4,x5,x6,x7,x8,x9,x10]):=List.getElem?_set_self hl
 have r4:Fz w0 _ (bs.set i (g,t,#[y0,y1,y2,y3,y4,x5,x6,x7,x8,x9,x10])):=q4
 have q5:=r4.set i 5 hi4 y5
 rw [List.set_set] at q5
 have hi5:(bs.set i (g,t,#[y0,y1,y2,y3,y4,y5,x6,x7,x8,x9,x10]))[i]?=some (g,t,#[y0,y1,y2,y3,y4,y5,x6,x7,x8,x9,x10]):=List.getElem?_set_self hl
 have r5:Fz w0 _ (bs.set i (g,t,#[y0,y1,y2,y3,y4,y5,x6,x7,x8,x9,x10])):=q5
 have q6:=r5.set i 6 hi5 y6
 rw [List.set_set] at q6
 have hi6:(bs.set i (g,t,#[y0,y1,y2,y3,y4,y5,y6,x7,x8,x9,x10]))[i]?=some (g,t,#[y0,y1,y2,y3,y4,y5,y6,x7,x8,x9,x10]):=List.getElem?_set_self hl
 have r6:Fz w0 _ (bs.set i (g,t,#[y0,y1,y2,y3,y4,y5,y6,x7,x8,x9,x10])):=q6
 have q7:=r6.set i 7 hi6 y7
 rw [List.set_set] at q7
 have hi7:(bs.set i (g,t,#[y0,y1,y2,y3,y4,y5,y6,y7,x8,x9,x10]))[i]?=some (g,t,#[y0,y1,y2,y3,y4,y5,y6,y7,x8,x9,x10]):=List.getElem?_set_self hl
 have r7:Fz w0 _ (bs.set i (g,t,#[y0,y1,y2,y3,y4,y5,y6,y7,x8,x9,x10])):=q7
 have q8:=r7.set i 8 hi7 y8
 rw [List.set_set] at q8
 have hi8:(bs.set i (g,t,#[y0,y1,y2,y3,y4,y5,y6,y7,y8,x9,x10]))[i]?=some (g,t,#[y0,y1,y2,y3,y4,y5,y6,y7,y8,x9,x10]):=List.getElem?_set_self hl
 have r8:Fz w0 _ (bs.set i (g,t,#[y0,y1,y2,y3,y4,y5,y6,y7,y8,x9,x10])):=q8
 have q9:=r8.set i 9 hi8 y9
 rw [List.set_set] at q9
 have hi9:(bs.set i (g,t,#[y0,y1,y2,y3,y4,y5,y6,y7,y8,y9,x10]))[i]?=some (g,t,#[y0,y1,y2,y3,y4,y5,y6,y7,y8,y9,x10]):=List.getElem?_set_self hl
 have r9:Fz w0 _ (bs.set i (g,t,#[y0,y1,y2,y3,y4,y5,y6,y7,y8,y9,x10])):=q9
 have q10:=r9.set i 10 hi9 y10
 rw [List.set_set] at q10
 exact q10
theorem Fz.s6 {w0 w:World} {bs:List (Nat × TypeId × Array Value)} (h:Fz w0 w bs) (i:Nat) {g:Nat} {t:TypeId} {x0 x1 x2 x3 x4 x5:Value} (hi:bs[i]?=some (g,t,#[x0,x1,x2,x3,x4,x5])) (y0 y1 y2 y3 y4 y5:Value) :
  Fz w0 ((((((w.setCell ⟨g,0,none⟩ y0).setCell ⟨g,1,none⟩ y1).setCell ⟨g,2,none⟩ y2).setCell ⟨g,3,none⟩ y3).setCell ⟨g,4,none⟩ y4).setCell ⟨g,5,none⟩ y5) (bs.set i (g,t,#[y0,y1,y2,y3,y4,y5])):=by
 have hl:=(List.getElem?_eq_some_iff.1 hi).1
 have q0:=h.set i 0 hi y0
 have hi0:(bs.set i (g,t,#[y0,x1,x2,x3,x4,x5]))[i]?=some (g,t,#[y0,x1,x2,x3,x4,x5]):=List.getElem?_set_self hl
 have r0:Fz w0 _ (bs.set i (g,t,#[y0,x1,x2,x3,x4,x5])):=q0
 have q1:=r0.set i 1 hi0 y1
 rw [List.set_set] at q1
 have hi1:(bs.set i (g,t,#[y0,y1,x2,x3,x4,x5]))[i]?=some (g,t,#[y0,y1,x2,x3,x4,x5]):=List.getElem?_set_self hl
 have r1:Fz w0 _ (bs.set i (g,t,#[y0,y1,x2,x3,x4,x5])):=q1
 have q2:=r1.set i 2 hi1 y2
 rw [List.set_set] at q2
 have hi2:(bs.set i (g,t,#[y0,y1,y2,x3,x4,x5]))[i]?=some (g,t,#[y0,y1,y2,x3,x4,x5]):=List.getElem?_set_self hl
 have r2:Fz w0 _ (bs.set i (g,t,#[y0,y1,y2,x3,x4,x5])):=q2
 have q3:=r2.set i 3 hi2 y3
 rw [List.set_set] at q3
 have hi3:(bs.set i (g,t,#[y0,y1,y2,y3,x4,x5]))[i]?=some (g,t,#[y0,y1,y2,y3,x4,x5]):=List.getElem?_set_self hl
 have r3:Fz w0 _ (bs.set i (g,t,#[y0,y1,y2,y3,x4,x5])):=q3
 have q4:=r3.set i 4 hi3 y4
 rw [List.set_set] at q4
 have hi4:(bs.set i (g,t,#[y0,y1,y2,y3,y4,x5]))[i]?=some (g,t,#[y0,y1,y2,y3,y4,x5]):=List.getElem?_set_self hl
 have r4:Fz w0 _ (bs.set i (g,t,#[y0,y1,y2,y3,y4,x5])):=q4
 have q5:=r4.set i 5 hi4 y5
 rw [List.set_set] at q5
 exact q5
theorem Fz.s6_0 {w0 w:World} {bs:List (Nat × TypeId × Array Value)} (h:Fz w0 w bs) (i:Nat) {g:Nat} {t:TypeId} {x0 x1 x2 x3 x4 x5:Value} (hi:bs[i]?=some (g,t,#[x0,x1,x2,x3,x4,x5])) (y0 y1 y2:Value) :
  Fz w0 (((w.setCell ⟨g,0,none⟩ y0).setCell ⟨g,1,none⟩ y1).setCell ⟨g,2,none⟩ y2) (bs.set i (g,t,#[y0,y1,y2,x3,x4,x5])):=by
 have hl:=(List.getElem?_eq_some_iff.1 hi).1
 have q0:=h.set i 0 hi y0
 have hi0:(bs.set i (g,t,#[y0,x1,x2,x3,x4,x5]))[i]?=some (g,t,#[y0,x1,x2,x3,x4,x5]):=List.getElem?_set_self hl
 have r0:Fz w0 _ (bs.set i (g,t,#[y0,x1,x2,x3,x4,x5])):=q0
 have q1:=r0.set i 1 hi0 y1
 rw [List.set_set] at q1
 have hi1:(bs.set i (g,t,#[y0,y1,x2,x3,x4,x5]))[i]?=some (g,t,#[y0,y1,x2,x3,x4,x5]):=List.getElem?_set_self hl
 have r1:Fz w0 _ (bs.set i (g,t,#[y0,y1,x2,x3,x4,x5])):=q1
 have q2:=r1.set i 2 hi1 y2
 rw [List.set_set] at q2
 exact q2
theorem Fz.s6_3 {w0 w:World} {bs:List (Nat × TypeId × Array Value)} (h:Fz w0 w bs) (i:Nat) {g:Nat} {t:TypeId} {x0 x1 x2 x3 x4 x5:Value} (hi:bs[i]?=some (g,t,#[x0,x1,x2,x3,x4,x5])) (y0 y1 y2:Value) :
  Fz w0 (((w.setCell ⟨g,3,none⟩ y0).setCell ⟨g,4,none⟩ y1).setCell ⟨g,5,none⟩ y2) (bs.set i (g,t,#[x0,x1,x2,y0,y1,y2])):=by
 have hl:=(List.getElem?_eq_some_iff.1 hi).1
 have q0:=h.set i 3 hi y0
 have hi0:(bs.set i (g,t,#[x0,x1,x2,y0,x4,x5]))[i]?=some (g,t,#[x0,x1,x2,y0,x4,x5]):=List.getElem?_set_self hl
 have r0:Fz w0 _ (bs.set i (g,t,#[x0,x1,x2,y0,x4,x5])):=q0
 have q1:=r0.set i 4 hi0 y1
 rw [List.set_set] at q1
 have hi1:(bs.set i (g,t,#[x0,x1,x2,y0,y1,x5]))[i]?=some (g,t,#[x0,x1,x2,y0,y1,x5]):=List.getElem?_set_self hl
 have r1:Fz w0 _ (bs.set i (g,t,#[x0,x1,x2,y0,y1,x5])):=q1
 have q2:=r1.set i 5 hi1 y2
 rw [List.set_set] at q2
 exact q2
theorem Fz.s9 {w0 w:World} {bs:List (Nat × TypeId × Array Value)} (h:Fz w0 w bs) (i:Nat) {g:Nat} {t:TypeId} {x0 x1 x2 x3 x4 x5 x6 x7 x8:Value} (hi:bs[i]?=some (g,t,#[x0,x1,x2,x3,x4,x5,x6,x7,x8])) (y0 y1 y2 y3 y4 y5 y6 y7 y8:Value) :
  Fz w0 (((((((((w.setCell ⟨g,0,none⟩ y0).setCell ⟨g,1,none⟩ y1).setCell ⟨g,2,none⟩ y2).setCell ⟨g,3,none⟩ y3).setCell ⟨g,4,none⟩ y4).setCell ⟨g,5,none⟩ y5).setCell ⟨g,6,none⟩ y6).setCell ⟨g,7,none⟩ y7).setCell ⟨g,8,none⟩ y8) (bs.set i (g,t,#[y0,y1,y2,y3,y4,y5,y6,y7,y8])):=by
 have hl:=(List.getElem?_eq_some_iff.1 hi).1
 have q0:=h.set i 0 hi y0
 have hi0:(bs.set i (g,t,#[y0,x1,x2,x3,x4,x5,x6,x7,x8]))[i]?=some (g,t,#[y0,x1,x2,x3,x4,x5,x6,x7,x8]):=List.getElem?_set_self hl
 have r0:Fz w0 _ (bs.set i (g,t,#[y0,x1,x2,x3,x4,x5,x6,x7,x8])):=q0
 have q1:=r0.set i 1 hi0 y1
 rw [List.set_set] at q1
 have hi1:(bs.set i (g,t,#[y0,y1,x2,x3,x4,x5,x6,x7,x8]))[i]?=some (g,t,#[y0,y1,x2,x3,x4,x5,x6,x7,x8]):=List.getElem?_set_self hl
 have r1:Fz w0 _ (bs.set i (g,t,#[y0,y1,x2,x3,x4,x5,x6,x7,x8])):=q1
 have q2:=r1.set i 2 hi1 y2
 rw [List.set_set] at q2
 have hi2:(bs.set i (g,t,#[y0,y1,y2,x3,x4,x5,x6,x7,x8]))[i]?=some (g,t,#[y0,y1,y2,x3,x4,x5,x6,x7,x8]):=List.getElem?_set_self hl
 have r2:Fz w0 _ (bs.set i (g,t,#[y0,y1,y2,x3,x4,x5,x6,x7,x8])):=q2
 have q3:=r2.set i 3 hi2 y3
 rw [List.set_set] at q3
 have hi3:(bs.set i (g,t,#[y0,y1,y2,y3,x4,x5,x6,x7,x8]))[i]?=some (g,t,#[y0,y1,y2,y3,x4,x5,x6,x7,x8]):=List.getElem?_set_self hl
 have r3:Fz w0 _ (bs.set i (g,t,#[y0,y1,y2,y3,x4,x5,x6,x7,x8])):=q3
 have q4:=r3.set i 4 hi3 y4
 rw [List.set_set] at q4
 have hi4:(bs.set i (g,t,#[y0,y1,y2,y3,y4,x5,x6,x7,x8]))[i]?=some (g,t,#[y0,y1,y2,y3,y4,x5,x6,x7,x8]):=List.getElem?_set_self hl
 have r4:Fz w0 _ (bs.set i (g,t,#[y0,y1,y2,y3,y4,x5,x6,x7,x8])):=q4
 have q5:=r4.set i 5 hi4 y5
 rw [List.set_set] at q5
 have hi5:(bs.set i (g,t,#[y0,y1,y2,y3,y4,y5,x6,x7,x8]))[i]?=some (g,t,#[y0,y1,y2,y3,y4,y5,x6,x7,x8]):=List.getElem?_set_self hl
 have r5:Fz w0 _ (bs.set i (g,t,#[y0,y1,y2,y3,y4,y5,x6,x7,x8])):=q5
 have q6:=r5.set i 6 hi5 y6
 rw [List.set_set] at q6
 have hi6:(bs.set i (g,t,#[y0,y1,y2,y3,y4,y5,y6,x7,x8]))[i]?=some (g,t,#[y0,y1,y2,y3,y4,y5,y6,x7,x8]):=List.getElem?_set_self hl
 have r6:Fz w0 _ (bs.set i (g,t,#[y0,y1,y2,y3,y4,y5,y6,x7,x8])):=q6
 have q7:=r6.set i 7 hi6 y7
 rw [List.set_set] at q7
 have hi7:(bs.set i (g,t,#[y0,y1,y2,y3,y4,y5,y6,y7,x8]))[i]?=some (g,t,#[y0,y1,y2,y3,y4,y5,y6,y7,x8]):=List.getElem?_set_self hl
 have r7:Fz w0 _ (bs.set i (g,t,#[y0,y1,y2,y3,y4,y5,y6,y7,x8])):=q7
 have q8:=r7.set i 8 hi7 y8
 rw [List.set_set] at q8
 exact q8
theorem Fz.c1 {w0 w:World} {bs:List (Nat × TypeId × Array Value)} (h:Fz w0 w bs) (i:Nat) {g:Nat} {t:TypeId} {x0:Value} (hi:bs[i]?=some (g,t,#[x0])) :
  (w.cell? ⟨g,0,none⟩=some x0)∧w.frozen? ⟨g,0,none⟩=false:=by
 have k:=h.box i _ _ _ hi
 exact ⟨k.at 0 x0 rfl,k.frozen 0⟩
theorem Fz.c2 {w0 w:World} {bs:List (Nat × TypeId × Array Value)} (h:Fz w0 w bs) (i:Nat) {g:Nat} {t:TypeId} {x0 x1:Value} (hi:bs[i]?=some (g,t,#[x0,x1])) :
  (w.cell? ⟨g,0,none⟩=some x0∧w.cell? ⟨g,1,none⟩=some x1)∧w.frozen? ⟨g,0,none⟩=false∧w.frozen? ⟨g,1,none⟩=false:=by
 have k:=h.box i _ _ _ hi
 exact ⟨⟨k.at 0 x0 rfl,k.at 1 x1 rfl⟩,k.frozen 0,k.frozen 1⟩
theorem Fz.c3 {w0 w:World} {bs:List (Nat × TypeId × Array Value)} (h:Fz w0 w bs) (i:Nat) {g:Nat} {t:TypeId} {x0 x1 x2:Value} (hi:bs[i]?=some (g,t,#[x0,x1,x2])) :
  (w.cell? ⟨g,0,none⟩=some x0∧w.cell? ⟨g,1,none⟩=some x1∧w.cell? ⟨g,2,none⟩=some x2)∧w.frozen? ⟨g,0,none⟩=false∧w.frozen? ⟨g,1,none⟩=false∧w.frozen? ⟨g,2,none⟩=false:=by
 have k:=h.box i _ _ _ hi
 exact ⟨⟨k.at 0 x0 rfl,k.at 1 x1 rfl,k.at 2 x2 rfl⟩,k.frozen 0,k.frozen 1,k.frozen 2⟩
theorem Fz.c4 {w0 w:World} {bs:List (Nat × TypeId × Array Value)} (h:Fz w0 w bs) (i:Nat) {g:Nat} {t:TypeId} {x0 x1 x2 x3:Value} (hi:bs[i]?=some (g,t,#[x0,x1,x2,x3])) :
  (w.cell? ⟨g,0,none⟩=some x0∧w.cell? ⟨g,1,none⟩=some x1∧w.cell? ⟨g,2,none⟩=some x2∧w.cell? ⟨g,3,none⟩=some x3)∧w.frozen? ⟨g,0,none⟩=false∧w.frozen? ⟨g,1,none⟩=false∧w.frozen? ⟨g,2,none⟩=false∧w.frozen? ⟨g,3,none⟩=false:=by
 have k:=h.box i _ _ _ hi
 exact ⟨⟨k.at 0 x0 rfl,k.at 1 x1 rfl,k.at 2 x2 rfl,k.at 3 x3 rfl⟩,k.frozen 0,k.frozen 1,k.frozen 2,k.frozen 3⟩
theorem Fz.c6 {w0 w:World} {bs:List (Nat × TypeId × Array Value)} (h:Fz w0 w bs) (i:Nat) {g:Nat} {t:TypeId} {x0 x1 x2 x3 x4 x5:Value} (hi:bs[i]?=some (g,t,#[x0,x1,x2,x3,x4,x5])) :
  (w.cell? ⟨g,0,none⟩=some x0∧w.cell? ⟨g,1,none⟩=some x1∧w.cell? ⟨g,2,none⟩=some x2∧w.cell? ⟨g,3,none⟩=some x3∧w.cell? ⟨g,4,none⟩=some x4∧w.cell? ⟨g,5,none⟩=some x5)∧w.frozen? ⟨g,0,none⟩=false∧w.frozen? ⟨g,1,none⟩=false∧w.frozen? ⟨g,2,none⟩=false∧w.frozen? ⟨g,3,none⟩=false∧w.frozen? ⟨g,4,none⟩=false∧w.frozen? ⟨g,5,none⟩=false:=by
 have k:=h.box i _ _ _ hi
 exact ⟨⟨k.at 0 x0 rfl,k.at 1 x1 rfl,k.at 2 x2 rfl,k.at 3 x3 rfl,k.at 4 x4 rfl,k.at 5 x5 rfl⟩,k.frozen 0,k.frozen 1,k.frozen 2,k.frozen 3,k.frozen 4,k.frozen 5⟩
theorem Fz.c9 {w0 w:World} {bs:List (Nat × TypeId × Array Value)} (h:Fz w0 w bs) (i:Nat) {g:Nat} {t:TypeId} {x0 x1 x2 x3 x4 x5 x6 x7 x8:Value} (hi:bs[i]?=some (g,t,#[x0,x1,x2,x3,x4,x5,x6,x7,x8])) :
  (w.cell? ⟨g,0,none⟩=some x0∧w.cell? ⟨g,1,none⟩=some x1∧w.cell? ⟨g,2,none⟩=some x2∧w.cell? ⟨g,3,none⟩=some x3∧w.cell? ⟨g,4,none⟩=some x4∧w.cell? ⟨g,5,none⟩=some x5∧w.cell? ⟨g,6,none⟩=some x6∧w.cell? ⟨g,7,none⟩=some x7∧w.cell? ⟨g,8,none⟩=some x8)∧w.frozen? ⟨g,0,none⟩=false∧w.frozen? ⟨g,1,none⟩=false∧w.frozen? ⟨g,2,none⟩=false∧w.frozen? ⟨g,3,none⟩=false∧w.frozen? ⟨g,4,none⟩=false∧w.frozen? ⟨g,5,none⟩=false∧w.frozen? ⟨g,6,none⟩=false∧w.frozen? ⟨g,7,none⟩=false∧w.frozen? ⟨g,8,none⟩=false:=by
 have k:=h.box i _ _ _ hi
 exact ⟨⟨k.at 0 x0 rfl,k.at 1 x1 rfl,k.at 2 x2 rfl,k.at 3 x3 rfl,k.at 4 x4 rfl,k.at 5 x5 rfl,k.at 6 x6 rfl,k.at 7 x7 rfl,k.at 8 x8 rfl⟩,k.frozen 0,k.frozen 1,k.frozen 2,k.frozen 3,k.frozen 4,k.frozen 5,k.frozen 6,k.frozen 7,k.frozen 8⟩
theorem Fz.c11 {w0 w:World} {bs:List (Nat × TypeId × Array Value)} (h:Fz w0 w bs) (i:Nat) {g:Nat} {t:TypeId} {x0 x1 x2 x3 x4 x5 x6 x7 x8 x9 x10:Value} (hi:bs[i]?=some (g,t,#[x0,x1,x2,x3,x4,x5,x6,x7,x8,x9,x10])) :
  (w.cell? ⟨g,0,none⟩=some x0∧w.cell? ⟨g,1,none⟩=some x1∧w.cell? ⟨g,2,none⟩=some x2∧w.cell? ⟨g,3,none⟩=some x3∧w.cell? ⟨g,4,none⟩=some x4∧w.cell? ⟨g,5,none⟩=some x5∧w.cell? ⟨g,6,none⟩=some x6∧w.cell? ⟨g,7,none⟩=some x7∧w.cell? ⟨g,8,none⟩=some x8∧w.cell? ⟨g,9,none⟩=some x9∧w.cell? ⟨g,10,none⟩=some x10)∧w.frozen? ⟨g,0,none⟩=false∧w.frozen? ⟨g,1,none⟩=false∧w.frozen? ⟨g,2,none⟩=false∧w.frozen? ⟨g,3,none⟩=false∧w.frozen? ⟨g,4,none⟩=false∧w.frozen? ⟨g,5,none⟩=false∧w.frozen? ⟨g,6,none⟩=false∧w.frozen? ⟨g,7,none⟩=false∧w.frozen? ⟨g,8,none⟩=false∧w.frozen? ⟨g,9,none⟩=false∧w.frozen? ⟨g,10,none⟩=false:=by
 have k:=h.box i _ _ _ hi
 exact ⟨⟨k.at 0 x0 rfl,k.at 1 x1 rfl,k.at 2 x2 rfl,k.at 3 x3 rfl,k.at 4 x4 rfl,k.at 5 x5 rfl,k.at 6 x6 rfl,k.at 7 x7 rfl,k.at 8 x8 rfl,k.at 9 x9 rfl,k.at 10 x10 rfl⟩,k.frozen 0,k.frozen 1,k.frozen 2,k.frozen 3,k.frozen 4,k.frozen 5,k.frozen 6,k.frozen 7,k.frozen 8,k.frozen 9,k.frozen 10⟩
def zlB:Value→Bool
 | .int .u8 z=>z == 0
 | .int .u64 z=>z == 0
 | _=>true
theorem zl_at {cs:Array Value} (h:cs.toList.all zlB=true) {k:Nat} {x:Value} (hx:cs[k]?=some x):zlB x=true:=by
 rw [List.all_eq_true] at h
 apply h
 rw [← Array.getElem?_toList] at hx
 exact List.mem_of_getElem? hx
theorem Dg.setz {w0 w w':World} {v:Value} {n:Nat} (h:Dg w v n) {g:Nat} {t:TypeId} {cs:Array Value} (t0:Tab w0) (hb:Below w0.heap.size w0 w') (hg:Blk w g t cs) (hz:cs.toList.all zlB=true)
  (hk:∀ k,k < w.heap.size→k ≠ g→w'.heap[k]?=w.heap[k]?):Dg w' v n:=by
 obtain ⟨L,hr,hc⟩:=h
 refine ⟨L,⟨t0.below hb,?_,hr.digs,hr.cap⟩,hc⟩
 obtain ⟨a,c,rfl,hcell⟩:=hr.sl
 refine ⟨a,c,rfl,fun hl=>?_⟩
 obtain ⟨b,off,rfl,hc2⟩:=hcell hl
 refine ⟨b,off,rfl,fun i y hy=>?_⟩
 have h1:=hc2 i y hy
 by_cases hbg:b=g
 ·subst hbg
  exfalso
  rw [dvl_length] at hl
  have hn0:n ≠ 0:=by
   rintro rfl
   rw [hc.zero] at hl; simp at hl
  have h2:=(bl_digits hc hn0).2
  have hlt:L.length - 1 < L.length:=by omega
  have h3:=hc2 (L.length - 1) (.int .u64 (dg L (L.length - 1):Nat)) (dvl_get (dg_get hlt))
  rw [hg.cell] at h3
  have h4:=zl_at hz h3
  simp only [zlB,beq_iff_eq] at h4
  omega
 ·exact (World.cell?_of_block (hk b (cell_lt h1) hbg)).trans h1
theorem Cy.setz {w0 w w':World} {v:Value} {d:Dn} (h:Cy w v d) {g:Nat} {t:TypeId} {cs:Array Value} (t0:Tab w0) (hb:Below w0.heap.size w0 w') (hg:Blk w g t cs) (hz:cs.toList.all zlB=true)
  (hk:∀ k,k < w.heap.size→k ≠ g→w'.heap[k]?=w.heap[k]?):Cy w' v d:=by
 obtain ⟨s,h1,h2,h3⟩:=h
 exact ⟨s,h1,h2.setz t0 hb hg hz hk,h3⟩
end Go.Proofs.YtobpioceopfkpaaGreatDoor
