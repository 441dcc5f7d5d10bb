/-
  Lemmas for WholeTurned and WholeGrows and WholeRises, part 19 of 36: what the program's functions do, and plain facts; without conditions.
-/
import Derived.Test.YtobpioceopfkpaaGreatDoorM17
import Derived.Test.YtobpioceopfkpaaGreatDoorM18
import Derived.Test.YtobpioceopfkpaaGreatDoorM15
import Derived.Test.YtobpioceopfkpaaGreatDoorM13
set_option maxRecDepth 100000
set_option maxHeartbeats 4000000
namespace Go.Proofs.YtobpioceopfkpaaGreatDoor
open Go.RowKit
theorem and52 {x:Nat} (hx1:4503599627370496≤x) (hx2:x < 9007199254740992):bits .and .u64 (x:Int) 4503599627370495=((x - 4503599627370496:Nat):Int):=by
 have h1:x % 4503599627370496=x - 4503599627370496:=by omega
 rw [u64_and _ _ (Int.natCast_nonneg _) (by omega) (by decide) (by decide),Int.toNat_natCast,← h1]
 congr 1
 exact Nat.and_two_pow_sub_one_eq_mod x 52
theorem exactB_is {x p:Nat} {un:Int} (hx1:4503599627370496≤x) (hx2:x < 9007199254740992) (hp:(p:Int)=un+1074) (hp2:p < 2047) :
  bits .or .u64 (bits .and .u64 (x:Int) 4503599627370495) ((un+1075) * 4503599627370496)=((p * 4503599627370496+x:Nat):Int):=by
 have e4:(un+1075) * 4503599627370496=(((p+1) * 4503599627370496:Nat):Int):=by omega
 rw [and52 hx1 hx2,e4,u64_or _ _ (Int.natCast_nonneg _) (by omega) (Int.natCast_nonneg _) (by omega),Int.toNat_natCast,Int.toNat_natCast]
 congr 1
 have h:=or_add (b:=p+1) (a:=x - 4503599627370496) (t:=52) (by omega)
 have e':(2:Nat)^52=4503599627370496:=by decide
 rw [e'] at h
 rw [Nat.or_comm,Nat.mul_comm (p+1),h]
 omega
theorem Exact_big {w:World} {u:Value} {d:Dn} (hu:Ry w u d) (sd:Sw d) (h0:d.m ≠ 0) {t:Int} (ht:t=topN d) (hb:1023 < t∧t≤100000) :
  Calls Tryz.prog 87 #[u] w fun e w'=>e=.returned (.tuple #[.int .u64 0,.bool false])∧Below w.heap.size w w':=by
 have CT:=h_ (fun w (h:Ry w u d)=>Top_d h)
 have CA:=h_ (fun w (h:Ry w u d)=>Bare_w h sd)
 rw [← ht,decide_eq_true h0] at CT
 have bd:=sd.bare
 obtain ⟨a1,k1,c1,rfl⟩:=hu.form
 generalize bareN d=D at *
 obtain ⟨n,m,e⟩:=D
 have z1:decide (1023 < t)=true:=decide_eq_true hb.1
 have hb1:=hb.2
 have hb0:=hb.1
 have HUU:=h_ hu
 clear hu sd h0 ht bd hb
 go_enter Tryz.func87,Tryz.ntmps87
 have F0:=h_ (Fx.one w 42 #[.bool d.neg,.slice a1 k1 c1,.int .i64 d.e] rfl)
 have X0:=h_ (HUU.out.alloc (.cells #[.bool d.neg,.slice a1 k1 c1,.int .i64 d.e] 42))
 clear HUU
 go_upto_region 1 with (fail)
 generalize World.alloc _ _=w0 at F0 X0 ⊢
 have c0_0:=F0.out.c3 0 rfl
 go_wp2_with fail
 clear c0_0
 refine (CT.out _ X0.out).mono ?_
 rintro q w1 ⟨rfl,hb⟩
 have F1:=h_ (F0.out.call hb)
 have X1:=h_ (X0.out.below hb)
 clear F0 X0
 clear hb
 have c0_1:=F1.out.c3 0 rfl
 go_wp2_with fail
 clear c0_1
 refine (CA.out _ X1.out).mono ?_
 rintro q w2 ⟨u,rfl,hu,hb⟩
 have F2:=h_ (F1.out.call hb)
 have X2:=h_ (X1.out.below hb)
 clear F1 X1
 have U2:=h_ (hu)
 clear hb
 have c0_2:=F2.out.c3 0 rfl
 clear X2
 obtain ⟨a3,k3,c3,rfl⟩:=U2.out.fm
 go_upto_region 7 with (fail)
 clear c0_2
 obtain ⟨f,p⟩:=F2.out.s3 0 rfl (.bool n) (.slice a3 k3 c3) (.int .i64 e) rfl rfl rfl
 generalize (World.setCell (World.setCell (World.setCell _ _ _) _ _) _ _)=W at f p ⊢
 have F3:=h_ (f)
 have U3:=h_ (U2.out.kp p)
 clear F2 U2
 clear f p
 simp only [List.set_cons_zero] at F3
 have c0_3:=F3.out.c3 0 rfl
 go_wp2
 refine bodyPost_ret (v:=.tuple #[.int .u64 0,.bool false]) (by simp [results,Tryz.results87,go_sem]) rfl ?_
 exact ⟨rfl,F3.out.b⟩
theorem Exact_g {w:World} {u:Value} {d:Dn} (hu:Ry w u d) (sd:Sw d) (hneg:(bareN d).neg=false) (h0:d.m ≠ 0) {t:Int} (ht:t=topN d) (htb:-1075≤t∧t≤1023) {un:Int} (hun:un=max (t - 52) (-1074))
  {k:Nat} (hk:(k:Int)=(bareN d).e - un) {x:Nat} (hx:x=(bareN d).m * 2^k) (hx2:x < 9007199254740992) (hx1:4503599627370496≤x ∨ un=-1074) {p:Nat} (hp:(p:Int)=un+1074) :
  Calls Tryz.prog 87 #[u] w fun e w'=>e=.returned (.tuple #[.int .u64 ((p * 4503599627370496+x:Nat):Int),.bool true])∧Below w.heap.size w w':=by
 have CT:=h_ (fun w (h:Ry w u d)=>Top_d h)
 have CA:=h_ (fun w (h:Ry w u d)=>Bare_w h sd)
 rw [← ht,decide_eq_true h0] at CT
 have bd:=sd.bare
 obtain ⟨a1,k1,c1,rfl⟩:=hu.form
 generalize bareN d=D at *
 obtain ⟨n,m,e⟩:=D
 simp only at hneg hk hx bd
 subst hneg
 have CS:=h_ (fun w u (h:Dg w u m)=>shl_s (h.rd (by omega)) k (by omega))
 rw [← hx] at CS
 have CM:=h_ (fun w u (h:Dg w u x)=>small_r (h.rd (Nat.le_trans (bl64 (by omega)) (by decide))))
 rw [if_pos (show x < 18446744073709551616 by omega),decide_eq_true (show x < 18446744073709551616 by omega)] at CM
 have q0:IntKind.i64.wrap (t - 52)=t - 52:=IntWalk.i64_in _ (by omega)
 have q1:max (t - 52) (-1074)=un:=hun.symm
 have z1:decide (1023 < t)=false:=decide_eq_false (by omega)
 have z2:decide (e < un)=false:=decide_eq_false (by omega)
 have q3:e - un=(k:Int):=hk.symm
 have q4:IntKind.i64.wrap (k:Int)=(k:Int):=IntWalk.i64_in _ (by omega)
 have tb:=htb
 obtain ⟨tb1,tb2⟩:=htb
 obtain ⟨y,hy⟩:∃ y,y=p * 4503599627370496+x:=⟨_,rfl⟩
 have HY:=h_ hy
 rw [← hy]
 have HUU:=h_ hu
 have EB:Hid (4503599627370496≤x→bits .or .u64 (bits .and .u64 (x:Int) 4503599627370495) ((un+1075) * 4503599627370496)=(y:Int)):=fun h=>by rw [hy]; exact exactB_is h hx2 hp (by omega)
 have EP:Hid (¬ 4503599627370496≤x→y=x):=fun h=>by
  have h1:un=-1074:=by rcases hx1 with h2 | h2; exact absurd h2 h; exact h2
  rw [hy]; omega
 clear hu sd h0 ht hk hx bd hun hx1 hx2 hp tb hy
 go_enter Tryz.func87,Tryz.ntmps87
 have F0:=h_ (Fx.one w 42 #[.bool d.neg,.slice a1 k1 c1,.int .i64 d.e] rfl)
 have X0:=h_ (HUU.out.alloc (.cells #[.bool d.neg,.slice a1 k1 c1,.int .i64 d.e] 42))
 clear HUU
 go_upto_region 1 with (fail)
 generalize World.alloc _ _=w0 at F0 X0 ⊢
 have c0_0:=F0.out.c3 0 rfl
 go_wp2_with fail
 clear c0_0
 refine (CT.out _ X0.out).mono ?_
 rintro q w1 ⟨rfl,hb⟩
 have F1:=h_ (F0.out.call hb)
 have X1:=h_ (X0.out.below hb)
 clear F0 X0
 clear hb
 have c0_1:=F1.out.c3 0 rfl
 go_wp2_with fail
 clear c0_1
 refine (CA.out _ X1.out).mono ?_
 rintro q w2 ⟨u,rfl,hu,hb⟩
 have F2:=h_ (F1.out.call hb)
 have X2:=h_ (X1.out.below hb)
 clear F1 X1
 have U2:=h_ (hu)
 clear hb
 have c0_2:=F2.out.c3 0 rfl
 clear X2
 obtain ⟨a3,k3,c3,rfl⟩:=U2.out.fm
 go_upto_region 7 with (fail)
 clear c0_2
 obtain ⟨f,p⟩:=F2.out.s3 0 rfl (.bool false) (.slice a3 k3 c3) (.int .i64 e) rfl rfl rfl
 generalize (World.setCell (World.setCell (World.setCell _ _ _) _ _) _ _)=W at f p ⊢
 have F3:=h_ (f)
 have U3:=h_ (U2.out.kp p)
 clear F2 U2
 clear f p
 simp only [List.set_cons_zero] at F3
 have c0_3:=F3.out.c3 0 rfl
 go_wp2_with fail
 clear c0_3
 refine (CS.out _ _ U3.out.dm).mono ?_
 rintro q w4 ⟨u,rfl,hu,hb⟩
 have F4:=h_ (F3.out.call hb)
 have U4:=h_ (U3.out.below hb)
 clear F3 U3
 have V4:=h_ (hu)
 clear hb
 have c0_4:=F4.out.c3 0 rfl
 obtain ⟨a4,k4,c4,rfl⟩:=V4.out.form
 go_wp2_with fail
 clear c0_4
 refine (CM.out _ _ V4.out).mono ?_
 rintro q w5 ⟨rfl,hb⟩
 have F5:=h_ (F4.out.call hb)
 have U5:=h_ (U4.out.below hb)
 have V5:=h_ (V4.out.below hb)
 clear F4 U4 V4
 clear hb
 have c0_5:=F5.out.c3 0 rfl
 by_cases h52:4503599627370496≤x
 ·have z3:decide (4503599627370496≤(x:Int))=true:=decide_eq_true (by omega)
  have z4:decide (4503599627370496≤x)=true:=decide_eq_true h52
  have eb:=EB.out h52
  clear h52 EB EP HY
  go_wp2
  refine bodyPost_ret (v:=.tuple #[.int .u64 (y:Int),.bool true]) (by simp [results,Tryz.results87,go_sem,← eb]) rfl ?_
  exact ⟨rfl,F5.out.b⟩
 ·have z3:decide (4503599627370496≤(x:Int))=false:=decide_eq_false (by omega)
  have z4:decide (4503599627370496≤x)=false:=decide_eq_false h52
  have e:=h_ (EP.out h52)
  clear h52 EB EP HY
  go_wp2
  refine bodyPost_ret (v:=.tuple #[.int .u64 (y:Int),.bool true]) (by rw [e.out]; simp [results,Tryz.results87,go_sem]) rfl ?_
  exact ⟨rfl,F5.out.b⟩
theorem Exact_zero {w:World} {u:Value} {d:Dn} (hu:Ry w u d) (h0:d.m=0) :
  Calls Tryz.prog 87 #[u] w fun e w'=>e=.returned (.tuple #[.int .u64 0,.bool true])∧Below w.heap.size w w':=by
 have CT:=h_ (fun w (h:Ry w u d)=>Top_d h)
 rw [decide_eq_false (by omega)] at CT
 obtain ⟨a1,k1,c1,rfl⟩:=hu.form
 have HUU:=h_ hu
 clear hu h0
 go_enter Tryz.func87,Tryz.ntmps87
 have F0:=h_ (Fx.one w 42 #[.bool d.neg,.slice a1 k1 c1,.int .i64 d.e] rfl)
 have X0:=h_ (HUU.out.alloc (.cells #[.bool d.neg,.slice a1 k1 c1,.int .i64 d.e] 42))
 clear HUU
 go_upto_region 1 with (fail)
 generalize World.alloc _ _=w0 at F0 X0 ⊢
 have c0_0:=F0.out.c3 0 rfl
 go_wp2_with fail
 clear c0_0
 refine (CT.out _ X0.out).mono ?_
 rintro q w1 ⟨rfl,hb⟩
 have F1:=h_ (F0.out.call hb)
 have X1:=h_ (X0.out.below hb)
 clear F0 X0
 clear hb
 have c0_1:=F1.out.c3 0 rfl
 go_wp2
 refine bodyPost_ret (v:=.tuple #[.int .u64 0,.bool true]) (by simp [results,Tryz.results87,go_sem]) rfl ?_
 exact ⟨rfl,F1.out.b⟩
theorem To_over {w:World} {u:Value} {d:Dn} (hu:Ry w u d) (sd:Sw d) (hneg:(bareN d).neg=false) (h0:(bareN d).m ≠ 0) (more:Bool) (z:Int) (hz:0≤z∧z≤3) {t:Int} (ht:t=topN (bareN d)) (hc:1023 < t) :
  Calls Tryz.prog 40 #[u,.bool more,.int .i64 z] w fun e w'=>e=.returned (.tuple #[.int .u64 (overB z:Nat),.int .u8 5,.int .i64 0])∧Below w.heap.size w w':=by
 have CR:=h_ (fun w (h:Ry w u d)=>rright_w h sd h0 more z hz)
 have bd:=sd.bare
 obtain ⟨a1,k1,c1,rfl⟩:=hu.form
 generalize bareN d=D at *
 have CT:=h_ (fun w u (h:Cy w u D)=>Top_d h.ry)
 rw [decide_eq_true h0,← ht] at CT
 obtain ⟨nn,m,e⟩:=D
 simp only at hneg bd
 subst hneg
 have CO:=h_ (fun w=>Over_r z hz w)
 generalize overB z=b at *
 have z1:decide (1023 < t)=true:=decide_eq_true (by omega)
 have HUU:=h_ hu
 clear hu sd h0 ht bd hz hc
 have F0:=h_ (Fx.one w 42 #[.bool d.neg,.slice a1 k1 c1,.int .i64 d.e] rfl)
 have X0:=h_ (HUU.out.alloc (.cells #[.bool d.neg,.slice a1 k1 c1,.int .i64 d.e] 42))
 clear HUU
 go_enter Tryz.func40,Tryz.ntmps40
 go_upto_region 1 with (fail)
 generalize World.alloc _ _=w0 at F0 X0 ⊢
 have c0_0:=F0.out.c3 0 rfl
 go_wp2_with fail
 clear c0_0
 refine (CR.out _ X0.out).mono ?_
 rintro q w1 ⟨u,rfl,hu,hb⟩
 have F1:=h_ (F0.out.call hb)
 have X1:=h_ (X0.out.below hb)
 clear F0 X0
 have U1:=h_ (hu)
 clear hb
 have c0_1:=F1.out.c3 0 rfl
 clear X1
 obtain ⟨a3,k3,c3,rfl⟩:=U1.out.fm
 go_upto_region 4 with (fail)
 clear c0_1
 obtain ⟨f,p⟩:=F1.out.s3 0 rfl (.bool false) (.slice a3 k3 c3) (.int .i64 e) rfl rfl rfl
 generalize (World.setCell (World.setCell (World.setCell _ _ _) _ _) _ _)=W at f p ⊢
 have F2:=h_ (f)
 have U2:=h_ (U1.out.kp p)
 clear F1 U1
 clear f p
 simp only [List.set_cons_zero] at F2
 have c0_2:=F2.out.c3 0 rfl
 go_wp2_with fail
 clear c0_2
 refine (CT.out _ _ U2.out).mono ?_
 rintro q w3 ⟨rfl,hb⟩
 have F3:=h_ (F2.out.call hb)
 have U3:=h_ (U2.out.below hb)
 clear F2 U2
 clear hb
 have c0_3:=F3.out.c3 0 rfl
 go_wp2_with fail
 refine (CO.out _).mono ?_
 rintro q w4 ⟨rfl,rfl⟩
 go_wp2
 refine bodyPost_ret (v:=.tuple #[.int .u64 (b:Int),.int .u8 5,.int .i64 0]) (by simp [results,Tryz.results40,go_sem]) rfl ?_
 exact ⟨rfl,F3.out.b⟩
theorem To_under {w:World} {u:Value} {d:Dn} (hu:Ry w u d) (sd:Sw d) (hneg:(bareN d).neg=false) (h0:(bareN d).m ≠ 0) (more:Bool) (z:Int) (hz:0≤z∧z≤3) {t:Int} (ht:t=topN (bareN d)) (hc:t < -1075) :
  Calls Tryz.prog 40 #[u,.bool more,.int .i64 z] w fun e w'=>e=.returned (.tuple #[.int .u64 (underB z:Nat),.int .u8 3,.int .i64 0])∧Below w.heap.size w w':=by
 have CR:=h_ (fun w (h:Ry w u d)=>rright_w h sd h0 more z hz)
 have bd:=sd.bare
 obtain ⟨a1,k1,c1,rfl⟩:=hu.form
 generalize bareN d=D at *
 have CT:=h_ (fun w u (h:Cy w u D)=>Top_d h.ry)
 rw [decide_eq_true h0,← ht] at CT
 obtain ⟨nn,m,e⟩:=D
 simp only at hneg bd
 subst hneg
 have CO:=h_ (fun w=>Under_r z hz w)
 generalize underB z=b at *
 have z1:decide (1023 < t)=false:=decide_eq_false (by omega)
 have z2:decide (t < -1075)=true:=decide_eq_true hc
 have HUU:=h_ hu
 clear hu sd h0 ht bd hz hc
 have F0:=h_ (Fx.one w 42 #[.bool d.neg,.slice a1 k1 c1,.int .i64 d.e] rfl)
 have X0:=h_ (HUU.out.alloc (.cells #[.bool d.neg,.slice a1 k1 c1,.int .i64 d.e] 42))
 clear HUU
 go_enter Tryz.func40,Tryz.ntmps40
 go_upto_region 1 with (fail)
 generalize World.alloc _ _=w0 at F0 X0 ⊢
 have c0_0:=F0.out.c3 0 rfl
 go_wp2_with fail
 clear c0_0
 refine (CR.out _ X0.out).mono ?_
 rintro q w1 ⟨u,rfl,hu,hb⟩
 have F1:=h_ (F0.out.call hb)
 have X1:=h_ (X0.out.below hb)
 clear F0 X0
 have U1:=h_ (hu)
 clear hb
 have c0_1:=F1.out.c3 0 rfl
 clear X1
 obtain ⟨a3,k3,c3,rfl⟩:=U1.out.fm
 go_upto_region 4 with (fail)
 clear c0_1
 obtain ⟨f,p⟩:=F1.out.s3 0 rfl (.bool false) (.slice a3 k3 c3) (.int .i64 e) rfl rfl rfl
 generalize (World.setCell (World.setCell (World.setCell _ _ _) _ _) _ _)=W at f p ⊢
 have F2:=h_ (f)
 have U2:=h_ (U1.out.kp p)
 clear F1 U1
 clear f p
 simp only [List.set_cons_zero] at F2
 have c0_2:=F2.out.c3 0 rfl
 go_wp2_with fail
 clear c0_2
 refine (CT.out _ _ U2.out).mono ?_
 rintro q w3 ⟨rfl,hb⟩
 have F3:=h_ (F2.out.call hb)
 have U3:=h_ (U2.out.below hb)
 clear F2 U2
 clear hb
 have c0_3:=F3.out.c3 0 rfl
 go_wp2_with fail
 refine (CO.out _).mono ?_
 rintro q w4 ⟨rfl,rfl⟩
 go_wp2
 refine bodyPost_ret (v:=.tuple #[.int .u64 (b:Int),.int .u8 3,.int .i64 0]) (by simp [results,Tryz.results40,go_sem]) rfl ?_
 exact ⟨rfl,F3.out.b⟩
def flagF (fits ix tn:Bool):Int:=if fits then (if ix then (if tn then 3 else 1) else 0) else 5
theorem To_walk {w:World} {u:Value} {d:Dn} (hu:Ry w u d) (sd:Sw d) (hneg:(bareN d).neg=false) (h0:(bareN d).m ≠ 0) (more:Bool) (z:Int) (hz:0≤z∧z≤3)
  {t:Int} (ht:t=topN (bareN d)) (htb:-1075≤t∧t≤1023) {un:Int} (hun:un=max (t - 52) (-1074)) {n:Int} (hn:n=un - (bareN d).e) (hnb:-9000≤n∧n≤9000)
  {wm:Nat} {ix:Bool} (hw:wholeN (bareN d).m n z more=(wm,ix)) (hwb:bl wm≤3000) {tn:Bool} (htn:decide (t < -1022)=tn) {fits:Bool} {b:Nat}
  (ce:∀ w u,Cy w u (bareN ⟨false,wm,un⟩)→Calls Tryz.prog 87 #[u] w fun e w'=>e=.returned (.tuple #[.int .u64 (b:Int),.bool fits])∧Below w.heap.size w w') :
  Calls Tryz.prog 40 #[u,.bool more,.int .i64 z] w fun e w'=>e=.returned (.tuple #[.int .u64 ((if fits then b else overB z:Nat):Int),.int .u8 (flagF fits ix tn),.int .i64 0])∧Below w.heap.size w w':=by
 have CR:=h_ (fun w (h:Ry w u d)=>rright_w h sd h0 more z hz)
 have bd:=sd.bare
 obtain ⟨a1,k1,c1,rfl⟩:=hu.form
 generalize bareN d=D at *
 have CT:=h_ (fun w u (h:Cy w u D)=>Top_d h.ry)
 rw [decide_eq_true h0,← ht] at CT
 have CW:=h_ (fun w u (h:Cy w u D)=>whole_r h more z hz un n hn (by omega) (by omega) hneg)
 rw [hw] at CW
 obtain ⟨nn,m,e⟩:=D
 simp only at hneg hn bd CW
 subst hneg
 have CM:=h_ (fun w u (h:Dg w u wm)=>Make_s (neg:=false) (e:=un) (h.rd (by omega)) (by omega) (by omega))
 have CE:=h_ ce
 generalize bareN ⟨false,wm,un⟩=O at *
 obtain ⟨on,om,oe⟩:=O
 have CO:=h_ (fun w=>Over_r z hz w)
 have CG:=h_ (fun w=>rsigned_r b w)
 generalize overB z=ob at *
 have q0:IntKind.i64.wrap (t - 52)=t - 52:=IntWalk.i64_in _ (by omega)
 have q1:max (t - 52) (-1074)=un:=hun.symm
 have z1:decide (1023 < t)=false:=decide_eq_false (by omega)
 have z2:decide (t < -1075)=false:=decide_eq_false (by omega)
 have HUU:=h_ hu
 obtain ⟨tb1,tb2⟩:=htb
 clear hu sd h0 ht hn hnb hw hwb bd hun hz ce
 have hor:bits .or .u8 1 2=3:=by decide
 cases fits
 case false =>
  have F0:=h_ (Fx.one w 42 #[.bool d.neg,.slice a1 k1 c1,.int .i64 d.e] rfl)
  have X0:=h_ (HUU.out.alloc (.cells #[.bool d.neg,.slice a1 k1 c1,.int .i64 d.e] 42))
  clear HUU
  go_enter Tryz.func40,Tryz.ntmps40
  go_upto_region 1 with (fail)
  generalize World.alloc _ _=w0 at F0 X0 ⊢
  have c0_0:=F0.out.c3 0 rfl
  go_wp2_with fail
  clear c0_0
  refine (CR.out _ X0.out).mono ?_
  rintro q w1 ⟨u,rfl,hu,hb⟩
  have F1:=h_ (F0.out.call hb)
  have X1:=h_ (X0.out.below hb)
  clear F0 X0
  have U1:=h_ (hu)
  clear hb
  have c0_1:=F1.out.c3 0 rfl
  clear X1
  obtain ⟨a3,k3,c3,rfl⟩:=U1.out.fm
  go_upto_region 4 with (fail)
  clear c0_1
  obtain ⟨f,p⟩:=F1.out.s3 0 rfl (.bool false) (.slice a3 k3 c3) (.int .i64 e) rfl rfl rfl
  generalize (World.setCell (World.setCell (World.setCell _ _ _) _ _) _ _)=W at f p ⊢
  have F2:=h_ (f)
  have U2:=h_ (U1.out.kp p)
  clear F1 U1
  clear f p
  simp only [List.set_cons_zero] at F2
  have c0_2:=F2.out.c3 0 rfl
  go_wp2_with fail
  clear c0_2
  refine (CT.out _ _ U2.out).mono ?_
  rintro q w3 ⟨rfl,hb⟩
  have F3:=h_ (F2.out.call hb)
  have U3:=h_ (U2.out.below hb)
  clear F2 U2
  clear hb
  have c0_3:=F3.out.c3 0 rfl
  go_wp2_with fail
  clear c0_3
  refine (CW.out _ _ U3.out).mono ?_
  rintro q w4 ⟨u,rfl,hu,hb⟩
  have F4:=h_ (F3.out.call hb)
  have U4:=h_ (U3.out.below hb)
  clear F3 U3
  have V4:=h_ (hu)
  clear hb
  have c0_4:=F4.out.c3 0 rfl
  obtain ⟨a4,k4,c4,rfl⟩:=V4.out.form
  go_wp2_with fail
  clear c0_4
  refine (CM.out _ _ V4.out).mono ?_
  rintro q w5 ⟨u,rfl,hu,hb⟩
  have F5:=h_ (F4.out.call hb)
  have U5:=h_ (U4.out.below hb)
  have V5:=h_ (V4.out.below hb)
  clear F4 U4 V4
  have W5:=h_ (hu)
  clear hb
  have c0_5:=F5.out.c3 0 rfl
  obtain ⟨a5,k5,c5,rfl⟩:=W5.out.fm
  go_upto_region 16 with (fail)
  clear c0_5
  have F6:=h_ (F5.out.new 42 #[.bool on,.slice a5 k5 c5,.int .i64 oe] rfl)
  have U6:=h_ (U5.out.alloc (.cells #[.bool on,.slice a5 k5 c5,.int .i64 oe] 42))
  have V6:=h_ (V5.out.alloc (.cells #[.bool on,.slice a5 k5 c5,.int .i64 oe] 42))
  have W6:=h_ (W5.out.alloc (.cells #[.bool on,.slice a5 k5 c5,.int .i64 oe] 42))
  clear F5 U5 V5 W5
  obtain ⟨g1,hg1⟩:∃ g,g=(World.heap w5).size:=⟨_,rfl⟩
  rw [← hg1] at F6 ⊢
  clear hg1
  simp only [List.nil_append,List.cons_append] at F6
  generalize World.alloc w5 _=W6 at F6 U6 V6 W6 ⊢
  have c0_6:=F6.out.c3 0 rfl
  have c1_6:=F6.out.c3 1 rfl
  go_wp2_with fail
  clear c0_6 c1_6
  refine (CE.out _ _ W6.out).mono ?_
  rintro q w7 ⟨rfl,hb⟩
  have F7:=h_ (F6.out.call hb)
  have U7:=h_ (U6.out.below hb)
  have V7:=h_ (V6.out.below hb)
  have W7:=h_ (W6.out.below hb)
  clear F6 U6 V6 W6
  clear hb
  have c0_7:=F7.out.c3 0 rfl
  have c1_7:=F7.out.c3 1 rfl
  go_wp2_with fail
  refine (CO.out _).mono ?_
  rintro q w8 ⟨rfl,rfl⟩
  go_wp2
  refine bodyPost_ret (v:=.tuple #[.int .u64 (ob:Int),.int .u8 5,.int .i64 0]) (by simp [results,Tryz.results40,go_sem]) rfl ?_
  exact ⟨rfl,F7.out.b⟩
 case true =>
  cases ix
  case false =>
   have F0:=h_ (Fx.one w 42 #[.bool d.neg,.slice a1 k1 c1,.int .i64 d.e] rfl)
   have X0:=h_ (HUU.out.alloc (.cells #[.bool d.neg,.slice a1 k1 c1,.int .i64 d.e] 42))
   clear HUU
   go_enter Tryz.func40,Tryz.ntmps40
   go_upto_region 1 with (fail)
   generalize World.alloc _ _=w0 at F0 X0 ⊢
   have c0_0:=F0.out.c3 0 rfl
   go_wp2_with fail
   clear c0_0
   refine (CR.out _ X0.out).mono ?_
   rintro q w1 ⟨u,rfl,hu,hb⟩
   have F1:=h_ (F0.out.call hb)
   have X1:=h_ (X0.out.below hb)
   clear F0 X0
   have U1:=h_ (hu)
   clear hb
   have c0_1:=F1.out.c3 0 rfl
   clear X1
   obtain ⟨a3,k3,c3,rfl⟩:=U1.out.fm
   go_upto_region 4 with (fail)
   clear c0_1
   obtain ⟨f,p⟩:=F1.out.s3 0 rfl (.bool false) (.slice a3 k3 c3) (.int .i64 e) rfl rfl rfl
   generalize (World.setCell (World.setCell (World.setCell _ _ _) _ _) _ _)=W at f p ⊢
   have F2:=h_ (f)
   have U2:=h_ (U1.out.kp p)
   clear F1 U1
   clear f p
   simp only [List.set_cons_zero] at F2
   have c0_2:=F2.out.c3 0 rfl
   go_wp2_with fail
   clear c0_2
   refine (CT.out _ _ U2.out).mono ?_
   rintro q w3 ⟨rfl,hb⟩
   have F3:=h_ (F2.out.call hb)
   have U3:=h_ (U2.out.below hb)
   clear F2 U2
   clear hb
   have c0_3:=F3.out.c3 0 rfl
   go_wp2_with fail
   clear c0_3
   refine (CW.out _ _ U3.out).mono ?_
   rintro q w4 ⟨u,rfl,hu,hb⟩
   have F4:=h_ (F3.out.call hb)
   have U4:=h_ (U3.out.below hb)
   clear F3 U3
   have V4:=h_ (hu)
   clear hb
   have c0_4:=F4.out.c3 0 rfl
   obtain ⟨a4,k4,c4,rfl⟩:=V4.out.form
   go_wp2_with fail
   clear c0_4
   refine (CM.out _ _ V4.out).mono ?_
   rintro q w5 ⟨u,rfl,hu,hb⟩
   have F5:=h_ (F4.out.call hb)
   have U5:=h_ (U4.out.below hb)
   have V5:=h_ (V4.out.below hb)
   clear F4 U4 V4
   have W5:=h_ (hu)
   clear hb
   have c0_5:=F5.out.c3 0 rfl
   obtain ⟨a5,k5,c5,rfl⟩:=W5.out.fm
   go_upto_region 16 with (fail)
   clear c0_5
   have F6:=h_ (F5.out.new 42 #[.bool on,.slice a5 k5 c5,.int .i64 oe] rfl)
   have U6:=h_ (U5.out.alloc (.cells #[.bool on,.slice a5 k5 c5,.int .i64 oe] 42))
   have V6:=h_ (V5.out.alloc (.cells #[.bool on,.slice a5 k5 c5,.int .i64 oe] 42))
   have W6:=h_ (W5.out.alloc (.cells #[.bool on,.slice a5 k5 c5,.int .i64 oe] 42))
   clear F5 U5 V5 W5
   obtain ⟨g1,hg1⟩:∃ g,g=(World.heap w5).size:=⟨_,rfl⟩
   rw [← hg1] at F6 ⊢
   clear hg1
   simp only [List.nil_append,List.cons_append] at F6
   generalize World.alloc w5 _=W6 at F6 U6 V6 W6 ⊢
   have c0_6:=F6.out.c3 0 rfl
   have c1_6:=F6.out.c3 1 rfl
   go_wp2_with fail
   clear c0_6 c1_6
   refine (CE.out _ _ W6.out).mono ?_
   rintro q w7 ⟨rfl,hb⟩
   have F7:=h_ (F6.out.call hb)
   have U7:=h_ (U6.out.below hb)
   have V7:=h_ (V6.out.below hb)
   have W7:=h_ (W6.out.below hb)
   clear F6 U6 V6 W6
   clear hb
   have c0_7:=F7.out.c3 0 rfl
   have c1_7:=F7.out.c3 1 rfl
   go_wp2_with fail
   refine (CG.out _).mono ?_
   rintro q w8 ⟨rfl,rfl⟩
   go_wp2
   refine bodyPost_ret (v:=.tuple #[.int .u64 (b:Int),.int .u8 0,.int .i64 0]) (by simp [results,Tryz.results40,go_sem]) rfl ?_
   exact ⟨rfl,F7.out.b⟩
  case true =>
   cases tn
   case false =>
    have F0:=h_ (Fx.one w 42 #[.bool d.neg,.slice a1 k1 c1,.int .i64 d.e] rfl)
    have X0:=h_ (HUU.out.alloc (.cells #[.bool d.neg,.slice a1 k1 c1,.int .i64 d.e] 42))
    clear HUU
    go_enter Tryz.func40,Tryz.ntmps40
    go_upto_region 1 with (fail)
    generalize World.alloc _ _=w0 at F0 X0 ⊢
    have c0_0:=F0.out.c3 0 rfl
    go_wp2_with fail
    clear c0_0
    refine (CR.out _ X0.out).mono ?_
    rintro q w1 ⟨u,rfl,hu,hb⟩
    have F1:=h_ (F0.out.call hb)
    have X1:=h_ (X0.out.below hb)
    clear F0 X0
    have U1:=h_ (hu)
    clear hb
    have c0_1:=F1.out.c3 0 rfl
    clear X1
    obtain ⟨a3,k3,c3,rfl⟩:=U1.out.fm
    go_upto_region 4 with (fail)
    clear c0_1
    obtain ⟨f,p⟩:=F1.out.s3 0 rfl (.bool false) (.slice a3 k3 c3) (.int .i64 e) rfl rfl rfl
    generalize (World.setCell (World.setCell (World.setCell _ _ _) _ _) _ _)=W at f p ⊢
    have F2:=h_ (f)
    have U2:=h_ (U1.out.kp p)
    clear F1 U1
    clear f p
    simp only [List.set_cons_zero] at F2
    have c0_2:=F2.out.c3 0 rfl
    go_wp2_with fail
    clear c0_2
    refine (CT.out _ _ U2.out).mono ?_
    rintro q w3 ⟨rfl,hb⟩
    have F3:=h_ (F2.out.call hb)
    have U3:=h_ (U2.out.below hb)
    clear F2 U2
    clear hb
    have c0_3:=F3.out.c3 0 rfl
    go_wp2_with fail
    clear c0_3
    refine (CW.out _ _ U3.out).mono ?_
    rintro q w4 ⟨u,rfl,hu,hb⟩
    have F4:=h_ (F3.out.call hb)
    have U4:=h_ (U3.out.below hb)
    clear F3 U3
    have V4:=h_ (hu)
    clear hb
    have c0_4:=F4.out.c3 0 rfl
    obtain ⟨a4,k4,c4,rfl⟩:=V4.out.form
    go_wp2_with fail
    clear c0_4
    refine (CM.out _ _ V4.out).mono ?_
    rintro q w5 ⟨u,rfl,hu,hb⟩
    have F5:=h_ (F4.out.call hb)
    have U5:=h_ (U4.out.below hb)
    have V5:=h_ (V4.out.below hb)
    clear F4 U4 V4
    have W5:=h_ (hu)
    clear hb
    have c0_5:=F5.out.c3 0 rfl
    obtain ⟨a5,k5,c5,rfl⟩:=W5.out.fm
    go_upto_region 16 with (fail)
    clear c0_5
    have F6:=h_ (F5.out.new 42 #[.bool on,.slice a5 k5 c5,.int .i64 oe] rfl)
    have U6:=h_ (U5.out.alloc (.cells #[.bool on,.slice a5 k5 c5,.int .i64 oe] 42))
    have V6:=h_ (V5.out.alloc (.cells #[.bool on,.slice a5 k5 c5,.int .i64 oe] 42))
    have W6:=h_ (W5.out.alloc (.cells #[.bool on,.slice a5 k5 c5,.int .i64 oe] 42))
    clear F5 U5 V5 W5
    obtain ⟨g1,hg1⟩:∃ g,g=(World.heap w5).size:=⟨_,rfl⟩
    rw [← hg1] at F6 ⊢
    clear hg1
    simp only [List.nil_append,List.cons_append] at F6
    generalize World.alloc w5 _=W6 at F6 U6 V6 W6 ⊢
    have c0_6:=F6.out.c3 0 rfl
    have c1_6:=F6.out.c3 1 rfl
    go_wp2_with fail
    clear c0_6 c1_6
    refine (CE.out _ _ W6.out).mono ?_
    rintro q w7 ⟨rfl,hb⟩
    have F7:=h_ (F6.out.call hb)
    have U7:=h_ (U6.out.below hb)
    have V7:=h_ (V6.out.below hb)
    have W7:=h_ (W6.out.below hb)
    clear F6 U6 V6 W6
    clear hb
    have c0_7:=F7.out.c3 0 rfl
    have c1_7:=F7.out.c3 1 rfl
    go_wp2_with fail
    refine (CG.out _).mono ?_
    rintro q w8 ⟨rfl,rfl⟩
    go_wp2
    refine bodyPost_ret (v:=.tuple #[.int .u64 (b:Int),.int .u8 1,.int .i64 0]) (by simp [results,Tryz.results40,go_sem]) rfl ?_
    exact ⟨rfl,F7.out.b⟩
   case true =>
    have F0:=h_ (Fx.one w 42 #[.bool d.neg,.slice a1 k1 c1,.int .i64 d.e] rfl)
    have X0:=h_ (HUU.out.alloc (.cells #[.bool d.neg,.slice a1 k1 c1,.int .i64 d.e] 42))
    clear HUU
    go_enter Tryz.func40,Tryz.ntmps40
    go_upto_region 1 with (fail)
    generalize World.alloc _ _=w0 at F0 X0 ⊢
    have c0_0:=F0.out.c3 0 rfl
    go_wp2_with fail
    clear c0_0
    refine (CR.out _ X0.out).mono ?_
    rintro q w1 ⟨u,rfl,hu,hb⟩
    have F1:=h_ (F0.out.call hb)
    have X1:=h_ (X0.out.below hb)
    clear F0 X0
    have U1:=h_ (hu)
    clear hb
    have c0_1:=F1.out.c3 0 rfl
    clear X1
    obtain ⟨a3,k3,c3,rfl⟩:=U1.out.fm
    go_upto_region 4 with (fail)
    clear c0_1
    obtain ⟨f,p⟩:=F1.out.s3 0 rfl (.bool false) (.slice a3 k3 c3) (.int .i64 e) rfl rfl rfl
    generalize (World.setCell (World.setCell (World.setCell _ _ _) _ _) _ _)=W at f p ⊢
    have F2:=h_ (f)
    have U2:=h_ (U1.out.kp p)
    clear F1 U1
    clear f p
    simp only [List.set_cons_zero] at F2
    have c0_2:=F2.out.c3 0 rfl
    go_wp2_with fail
    clear c0_2
    refine (CT.out _ _ U2.out).mono ?_
    rintro q w3 ⟨rfl,hb⟩
    have F3:=h_ (F2.out.call hb)
    have U3:=h_ (U2.out.below hb)
    clear F2 U2
    clear hb
    have c0_3:=F3.out.c3 0 rfl
    go_wp2_with fail
    clear c0_3
    refine (CW.out _ _ U3.out).mono ?_
    rintro q w4 ⟨u,rfl,hu,hb⟩
    have F4:=h_ (F3.out.call hb)
    have U4:=h_ (U3.out.below hb)
    clear F3 U3
    have V4:=h_ (hu)
    clear hb
    have c0_4:=F4.out.c3 0 rfl
    obtain ⟨a4,k4,c4,rfl⟩:=V4.out.form
    go_wp2_with fail
    clear c0_4
    refine (CM.out _ _ V4.out).mono ?_
    rintro q w5 ⟨u,rfl,hu,hb⟩
    have F5:=h_ (F4.out.call hb)
    have U5:=h_ (U4.out.below hb)
    have V5:=h_ (V4.out.below hb)
    clear F4 U4 V4
    have W5:=h_ (hu)
    clear hb
    have c0_5:=F5.out.c3 0 rfl
    obtain ⟨a5,k5,c5,rfl⟩:=W5.out.fm
    go_upto_region 16 with (fail)
    clear c0_5
    have F6:=h_ (F5.out.new 42 #[.bool on,.slice a5 k5 c5,.int .i64 oe] rfl)
    have U6:=h_ (U5.out.alloc (.cells #[.bool on,.slice a5 k5 c5,.int .i64 oe] 42))
    have V6:=h_ (V5.out.alloc (.cells #[.bool on,.slice a5 k5 c5,.int .i64 oe] 42))
    have W6:=h_ (W5.out.alloc (.cells #[.bool on,.slice a5 k5 c5,.int .i64 oe] 42))
    clear F5 U5 V5 W5
    obtain ⟨g1,hg1⟩:∃ g,g=(World.heap w5).size:=⟨_,rfl⟩
    rw [← hg1] at F6 ⊢
    clear hg1
    simp only [List.nil_append,List.cons_append] at F6
    generalize World.alloc w5 _=W6 at F6 U6 V6 W6 ⊢
    have c0_6:=F6.out.c3 0 rfl
    have c1_6:=F6.out.c3 1 rfl
    go_wp2_with fail
    clear c0_6 c1_6
    refine (CE.out _ _ W6.out).mono ?_
    rintro q w7 ⟨rfl,hb⟩
    have F7:=h_ (F6.out.call hb)
    have U7:=h_ (U6.out.below hb)
    have V7:=h_ (V6.out.below hb)
    have W7:=h_ (W6.out.below hb)
    clear F6 U6 V6 W6
    clear hb
    have c0_7:=F7.out.c3 0 rfl
    have c1_7:=F7.out.c3 1 rfl
    go_wp2_with fail
    refine (CG.out _).mono ?_
    rintro q w8 ⟨rfl,rfl⟩
    go_wp2
    refine bodyPost_ret (v:=.tuple #[.int .u64 (b:Int),.int .u8 3,.int .i64 0]) (by simp [results,Tryz.results40,go_sem]) rfl ?_
    exact ⟨rfl,F7.out.b⟩
def LB:Int:=2^139
def YB:Int:=2^1058
structure LEnd (d:Dn):Prop where
 lo:-128≤d.e
 hi:d.e≤700
 bl:bl d.m≤450
 b1:-LB < zv 128 d
 b2:zv 128 d < LB
theorem LEnd.sd {d:Dn} (h:LEnd d):Sd d:=⟨by have:=h.bl; omega,by have:=h.lo; omega,by have:=h.hi; omega⟩
theorem LEnd.zk {d:Dn} (h:LEnd d):Zk 128 d:=⟨h.lo,by have:=h.lo; omega,by have:=h.hi; omega⟩
theorem LEnd.bare {d:Dn} (h:LEnd d):-128≤(bareN d).e∧(bareN d).e≤1150∧Go.Proofs.YtobpioceopfkpaaGreatDoor.bl (bareN d).m≤450∧zv 128 (bareN d)=zv 128 d:=by
 obtain ⟨n,m,e⟩:=d
 obtain ⟨h1,h2,h3,h4,h5⟩:=h
 simp only at h1 h2 h3
 obtain ⟨k1,k2,k3⟩:=bareN_parts (n:=n) (m:=m) (e:=e) (by omega)
 refine ⟨?_,?_,by omega,zv_bareN (by decide) h1 ⟨by show -2147483648≤e; omega,by show e≤2147483648; omega⟩⟩
 ·by_cases h0:m=0
  ·rw [k3 h0]; decide
  ·have:=(k2 h0).1; omega
 ·by_cases h0:m=0
  ·rw [k3 h0]; decide
  ·have:=(k2 h0).2; omega
structure PEnd (d:Dn):Prop where
 lo:-1258≤d.e
 hi:d.e≤2000
 bl:bl d.m≤510
 b1:-(LB * YB) < zv (128+1130) d
 b2:zv (128+1130) d < LB * YB
theorem PEnd.sd {d:Dn} (h:PEnd d):Sd d:=⟨by have:=h.bl; omega,by have:=h.lo; omega,by have:=h.hi; omega⟩
theorem PEnd.zk {d:Dn} (h:PEnd d):Zk (128+1130) d:=⟨h.lo,by have:=h.lo; omega,by have:=h.hi; omega⟩
theorem Times_r {w:World} {u v:Value} {i:In} {d:Dn} (hu:Iv w u i) (hv:Cy w v d) (s1:Sd i.lo) (s2:Sd i.hi) (s3:Sd d) (r1:CmpD i.lo i.hi≤0) (r2:CmpD d d≤0) :
  Calls Tryz.prog 130 #[u,v] w fun e w'=>∃ r,e=.returned (.tuple #[r,.int .i64 0])∧Iv w' r (mulI i ⟨d,d⟩)∧Below w.heap.size w w':=by
 have CM:=h_ (fun w u v (h:Iv w u i) (k:Iv w v ⟨d,d⟩)=>IMul_r h k s1 s2 s3 s3 r1 r2)
 have CA:=h_ (fun w u (h:Cy w u d)=>At_r h)
 generalize mulI i ⟨d,d⟩=R at *
 obtain ⟨⟨n1,m1,e1⟩,⟨n2,m2,e2⟩⟩:=i
 obtain ⟨n3,m3,e3⟩:=d
 obtain ⟨⟨rn,rm,re⟩,⟨rn',rm',re'⟩⟩:=R
 obtain ⟨a1,k1,c1,a2,k2,c2,rfl,x1,x2⟩:=hu.fm
 obtain ⟨a3,k3,c3,rfl⟩:=hv.fm
 have HU:=h_ hu
 have HV:=h_ hv
 clear hu hv x1 x2 s1 s2 s3 r1 r2
 go_enter Tryz.func130,Tryz.ntmps130
 have F0:=h_ (Fx.three w 92 #[.bool n1,.slice a1 k1 c1,.int .i64 e1,.bool n2,.slice a2 k2 c2,.int .i64 e2] 42 #[.bool n3,.slice a3 k3 c3,.int .i64 e3] 92 #[.bool false,.slice none 0 0,.int .i64 0,.bool false,.slice none 0 0,.int .i64 0] rfl rfl rfl)
 have X0:=h_ (((HU.out.alloc (.cells #[.bool n1,.slice a1 k1 c1,.int .i64 e1,.bool n2,.slice a2 k2 c2,.int .i64 e2] 92)).alloc (.cells #[.bool n3,.slice a3 k3 c3,.int .i64 e3] 42)).alloc (.cells #[.bool false,.slice none 0 0,.int .i64 0,.bool false,.slice none 0 0,.int .i64 0] 92))
 have Y0:=h_ (((HV.out.alloc (.cells #[.bool n1,.slice a1 k1 c1,.int .i64 e1,.bool n2,.slice a2 k2 c2,.int .i64 e2] 92)).alloc (.cells #[.bool n3,.slice a3 k3 c3,.int .i64 e3] 42)).alloc (.cells #[.bool false,.slice none 0 0,.int .i64 0,.bool false,.slice none 0 0,.int .i64 0] 92))
 clear HU HV
 go_upto_region 1 with (fail)
 generalize World.alloc (World.alloc (World.alloc _ _) _) _=w0 at F0 X0 Y0 ⊢
 have c0_0:=F0.out.c6 0 rfl
 have c1_0:=F0.out.c3 1 rfl
 have c2_0:=F0.out.c6 2 rfl
 clear c0_0 c1_0 c2_0
 have FCD:=h_ (And.intro ((F0.out.drew).c6 0 rfl).1 (((F0.out.drew).c3 1 rfl).1))
 go_region_held3 (fun w'=>(w'.cell? ⟨w.heap.size,0,none⟩=some (.bool n1)∧w'.cell? ⟨w.heap.size,1,none⟩=some (.slice a1 k1 c1)∧w'.cell? ⟨w.heap.size,2,none⟩=some (.int .i64 e1)∧w'.cell? ⟨w.heap.size,3,none⟩=some (.bool n2)∧w'.cell? ⟨w.heap.size,4,none⟩=some (.slice a2 k2 c2)∧w'.cell? ⟨w.heap.size,5,none⟩=some (.int .i64 e2))∧(w'.cell? ⟨w.heap.size+1,0,none⟩=some (.bool n3)∧w'.cell? ⟨w.heap.size+1,1,none⟩=some (.slice a3 k3 c3)∧w'.cell? ⟨w.heap.size+1,2,none⟩=some (.int .i64 e3))) (first | with_reducible exact FCD.out | with_reducible exact FC.out | exact And.intro ((F2.out.s6 2 rfl (.bool rn) (.slice x5 y5 z5) (.int .i64 re) (.bool rn') (.slice x6 y6 z6) (.int .i64 re') rfl rfl rfl rfl rfl rfl).1.c6 0 rfl).1 (((F2.out.s6 2 rfl (.bool rn) (.slice x5 y5 z5) (.int .i64 re) (.bool rn') (.slice x6 y6 z6) (.int .i64 re') rfl rfl rfl rfl rfl rfl).1.c3 1 rfl).1)) (first | (go_at_call 158; (with_reducible refine (CM.out _ _ _ X1.out A1.out).mono ?_); rintro q ww2 ⟨u2,rfl,hu,hb⟩; have F2:=h_ (F1.out.call hb); have X2:=h_ (X1.out.below hb); have Y2:=h_ (Y1.out.below hb); have A2:=h_ (A1.out.below hb); have B2:=h_ (hu); obtain ⟨x5,y5,z5,x6,y6,z6,rfl,h1,h2⟩:=B2.out.fm; clear h1 h2; have FC:=h_ (And.intro (F2.out.c6 0 rfl).1 ((F2.out.c3 1 rfl).1)); have c0_2:=F2.out.c6 0 rfl; have c1_2:=F2.out.c3 1 rfl; have c2_2:=F2.out.c6 2 rfl; clear hb) | (go_at_call 159; (with_reducible refine (CA.out _ _ (Y0.out.drew)).mono ?_); rintro q ww1 ⟨u1,rfl,hu,hb⟩; have F1:=h_ ((F0.out.drew).call hb); have X1:=h_ ((X0.out.drew).below hb); have Y1:=h_ ((Y0.out.drew).below hb); have A1:=h_ (hu); obtain ⟨b1,f1,d1,b2,f2,d2,rfl,h1,h2⟩:=A1.out.fm; clear h1 h2; have FC:=h_ (And.intro (F1.out.c6 0 rfl).1 ((F1.out.c3 1 rfl).1)); have c0_1:=F1.out.c6 0 rfl; have c1_1:=F1.out.c3 1 rfl; have c2_1:=F1.out.c6 2 rfl; clear hb))
 go_wp2
 obtain ⟨f0,p0⟩:=F2.out.s6 2 rfl (.bool rn) (.slice x5 y5 z5) (.int .i64 re) (.bool rn') (.slice x6 y6 z6) (.int .i64 re') rfl rfl rfl rfl rfl rfl
 have p:=p0
 have f:=f0
 clear f0 p0
 generalize (World.setCell (World.setCell (World.setCell (World.setCell (World.setCell (World.setCell _ _ _) _ _) _ _) _ _) _ _) _ _)=W at f p ⊢
 have g2:=f.c6 2 rfl
 refine bodyPost_ret (v:=.tuple #[.agg #[.bool rn,.slice x5 y5 z5,.int .i64 re,.bool rn',.slice x6 y6 z6,.int .i64 re'],.int .i64 0]) (by simp [results,Tryz.results130,go_sem,g2]) rfl ?_
 exact ⟨_,rfl,B2.out.kp p,f.b⟩
theorem Fz.one_fx {w0 w:World} {bs:List (Nat × TypeId × Array Value)} (h:Fz w0 w bs) (i:Nat) {g:Nat} {t:TypeId} {cs:Array Value} (hi:bs[i]?=some (g,t,cs)) (hn:nlA cs=true):Fx w0 w [(g,t,cs)]:=by
 refine ⟨h.b,?_,?_,?_,?_⟩
 ·intro j g' t' cs' hj
  match j with
  | 0=>simp at hj; obtain ⟨rfl,rfl,rfl⟩:=hj; exact h.box i _ _ _ hi
  | j+1=>simp at hj
 ·intro j g' t' cs' hj
  match j with
  | 0=>simp at hj; obtain ⟨rfl,rfl,rfl⟩:=hj; exact h.low i _ _ _ hi
  | j+1=>simp at hj
 ·intro j k g' t' cs' g2 t2 cs2 hjk h1 h2
  have:=(List.getElem?_eq_some_iff.1 h2).1
  simp at this
  omega
 ·intro j g' t' cs' hj
  match j with
  | 0=>simp at hj; obtain ⟨rfl,rfl,rfl⟩:=hj; exact hn
  | j+1=>simp at hj
end Go.Proofs.YtobpioceopfkpaaGreatDoor
