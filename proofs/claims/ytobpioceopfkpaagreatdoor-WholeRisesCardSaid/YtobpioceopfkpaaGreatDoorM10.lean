/-
  Lemmas for WholeTurned and WholeGrows and WholeRises, part 10 of 36: what the program's functions do, and plain facts; without conditions.
-/
import Derived.Test.YtobpioceopfkpaaGreatDoorM07
import Derived.Test.YtobpioceopfkpaaGreatDoorM09
import Derived.Deep.RegionHeld3
import Derived.Deep.RegionWith
set_option maxRecDepth 100000
set_option maxHeartbeats 4000000
namespace Go.Proofs.YtobpioceopfkpaaGreatDoor
open Go.RowKit
structure Pr where
 lo:Nat
 hi:Nat
def Pv (w:World) (v:Value) (p:Pr):Prop:=∃ a k c a' k' c',v=.agg #[.slice a k c,.slice a' k' c']∧Dg w (.slice a k c) p.lo∧Dg w (.slice a' k' c') p.hi
theorem Pv.below {w w':World} {v:Value} {p:Pr} (h:Pv w v p) (hb:Below w.heap.size w w'):Pv w' v p:=by
 obtain ⟨a,k,c,a',k',c',h1,h2,h3⟩:=h; exact ⟨a,k,c,a',k',c',h1,h2.below hb,h3.below hb⟩
theorem Pv.alloc {w:World} {v:Value} {p:Pr} (h:Pv w v p) (o:Obj):Pv (w.alloc o) v p:=by
 obtain ⟨a,k,c,a',k',c',h1,h2,h3⟩:=h; exact ⟨a,k,c,a',k',c',h1,h2.alloc o,h3.alloc o⟩
theorem Pv.drew {w:World} {v:Value} {p:Pr} (h:Pv w v p):Pv w.drew v p:=by
 obtain ⟨a,k,c,a',k',c',h1,h2,h3⟩:=h; exact ⟨a,k,c,a',k',c',h1,h2.drew,h3.drew⟩
theorem Pv.kp {w w':World} {v:Value} {p:Pr} (h:Pv w v p) (K:Kp w w'):Pv w' v p:=by
 obtain ⟨a,k,c,a',k',c',h1,h2,h3⟩:=h; exact ⟨a,k,c,a',k',c',h1,h2.kp K,h3.kp K⟩
theorem Pv.tab {w:World} {v:Value} {p:Pr} (h:Pv w v p):Tab w:=by
 obtain ⟨a,k,c,a',k',c',h1,h2,h3⟩:=h; exact h2.tab
theorem Pv.fst {w:World} {a:Option Addr} {k c:Nat} {a':Option Addr} {k' c':Nat} {p:Pr} (h:Pv w (.agg #[.slice a k c,.slice a' k' c']) p):Dg w (.slice a k c) p.lo∧Dg w (.slice a' k' c') p.hi:=by
 obtain ⟨_,_,_,_,_,_,he,h1,h2⟩:=h
 simp at he
 obtain ⟨⟨rfl,rfl,rfl⟩,rfl,rfl,rfl⟩:=he
 exact ⟨h1,h2⟩
def RetP (p:Pr) (w:World) (e:Ending) (w':World):Prop:=∃ u,e=.returned u∧Pv w' u p∧Below w.heap.size w w'
def upN (n k:Nat):Nat:=if n % 2^k=0 then n / 2^k else n / 2^k+1
theorem upShift_r {w:World} {v:Value} {n:Nat} (h:Rd w v n) (k:Nat) (hk:k≤1000000000) (hb:bl n≤6000000):Calls Tryz.prog 183 #[v,.int .i64 (k:Int)] w (RetDg (upN n k) w):=by
 have HV:=h_ h
 obtain ⟨a1,k1,c1,rfl⟩:=h.form
 have CS:=h_ (fun w (h:Rd w (.slice a1 k1 c1) n)=>shr_r h k hk)
 have HU:Hid (upN n k=if n % 2^k=0 then n / 2^k else n / 2^k+1):=rfl
 have hq:bl (n / 2^k)≤6000000:=Nat.le_trans (bl_mono (Nat.div_le_self _ _)) hb
 generalize n / 2^k=m at *
 generalize upN n k=U at *
 generalize hg:decide (n % 2^k ≠ 0)=g at *
 have HG:Hid (g=decide (n % 2^k ≠ 0)):=hg.symm
 clear h hg hb hk
 go_enter Tryz.func183,Tryz.ntmps183
 have F0:=h_ (Fx.nil w)
 have X0:=h_ (HV.out)
 go_wp2_with fail
 refine (CS.out _ X0.out).mono ?_
 rintro q w1 ⟨u,rfl,hu,hb⟩
 have F1:=h_ (F0.out.call hb)
 have X1:=h_ (X0.out.below hb)
 clear F0 X0
 have U1:=h_ (hu)
 clear hb
 obtain ⟨a3,k3,c3,rfl⟩:=U1.out.form
 cases g
 ·have HE:Hid (U=m):=by have:=HG.out; simp at this; exact HU.out.trans (if_pos this)
  go_wp2
  refine bodyPost_ret (v:=.slice a3 k3 c3) (by simp [results,Tryz.results183,go_sem]) rfl ?_
  exact ⟨_,rfl,HE.out ▸ U1.out,F1.out.b⟩
 ·have HE:Hid (U=m+1):=by have:=HG.out; simp at this; exact HU.out.trans (if_neg this)
  go_wp2_with fail
  refine (of_any (n:=1) (by decide) U1.out.tab).mono ?_
  rintro q w2 ⟨u,rfl,hu,hb⟩
  have F2:=h_ (F1.out.call hb)
  have X2:=h_ (X1.out.below hb)
  have U2:=h_ (U1.out.below hb)
  clear F1 X1 U1
  have O2:=h_ (hu)
  clear hb
  obtain ⟨a4,k4,c4,rfl⟩:=O2.out.form
  go_wp2_with fail
  refine (add_r (U2.out.rd hq) (O2.out.rd (by decide))).mono ?_
  rintro q w3 ⟨u,rfl,hu,hb⟩
  have F3:=h_ (F2.out.call hb)
  have X3:=h_ (X2.out.below hb)
  have U3:=h_ (U2.out.below hb)
  have O3:=h_ (O2.out.below hb)
  clear F2 X2 U2 O2
  have R3:=h_ (hu)
  clear hb
  obtain ⟨a5,k5,c5,rfl⟩:=R3.out.form
  go_wp2
  refine bodyPost_ret (v:=.slice a5 k5 c5) (by simp [results,Tryz.results183,go_sem]) rfl ?_
  exact ⟨_,rfl,HE.out ▸ R3.out,F3.out.b⟩
def fracP (num den s:Nat):Pr:=⟨num * 2^s / den,if num * 2^s % den=0 then num * 2^s / den else num * 2^s / den+1⟩
theorem shl_s {w:World} {v:Value} {n:Nat} (h:Rd w v n) (k:Nat) (hk:k+bl n≤65536):Calls Tryz.prog 125 #[v,.int .i64 (k:Int)] w (RetDgE (n * 2^k) 0 w):=by
 have h1:=shl_r h k (by omega)
 have e1:shlN n k=n * 2^k:=by
  unfold shlN; split
  ·simp [*]
  ·rw [if_neg (by omega)]
 have e2:shlE n k=0:=by unfold shlE; split; rfl; rw [if_neg (by omega)]
 rw [e1,e2] at h1
 exact h1
theorem bl_shl (n k:Nat):bl (n * 2^k)≤bl n+k:=by
 apply bl_le
 rw [Nat.pow_add]
 exact Nat.mul_lt_mul_of_pos_right (lt_bl n) (Nat.two_pow_pos _)
theorem frac_r {w:World} {u v:Value} {num den:Nat} (hu:Rd w u num) (hv:Rd w v den) (s:Nat) (h0:0 < den) (h64:den < 18446744073709551616) (hs:s+bl num≤60000) :
  Calls Tryz.prog 178 #[u,v,.int .i64 (s:Int)] w (RetP (fracP num den s) w):=by
 have HU:=h_ hu
 have HV:=h_ hv
 obtain ⟨a1,k1,c1,rfl⟩:=hu.form
 obtain ⟨a2,k2,c2,rfl⟩:=hv.form
 have CS:=h_ (fun w (h:Rd w (.slice a1 k1 c1) num)=>shl_s h s (by omega))
 have HF:Hid (fracP num den s=⟨num * 2^s / den,if num * 2^s % den=0 then num * 2^s / den else num * 2^s / den+1⟩):=rfl
 have hb:bl (num * 2^s)≤60000:=Nat.le_trans (bl_shl _ _) (by omega)
 have hb2:bl (num * 2^s / den)≤6000000:=Nat.le_trans (bl_mono (Nat.div_le_self _ _)) (by omega)
 have CD:=h_ (fun w u (h:Rd w u (num * 2^s)) (k:Rd w (.slice a2 k2 c2) den)=>Div_r h k h0 (.inl h64) (by omega) (Nat.le_trans (bl64 h64) (by decide)))
 generalize fracP num den s=P at *
 generalize num * 2^s=m at *
 generalize m / den=x at *
 generalize m % den=r at *
 clear hu hv h0 hs h64
 go_enter Tryz.func178,Tryz.ntmps178
 have F0:=h_ (Fx.one w 226 #[.slice none 0 0,.slice none 0 0] rfl)
 have X0:=h_ (HU.out.alloc (.cells #[.slice none 0 0,.slice none 0 0] 226))
 have Y0:=h_ (HV.out.alloc (.cells #[.slice none 0 0,.slice none 0 0] 226))
 clear HU HV
 go_wp2_with fail
 generalize World.alloc _ _=w0 at F0 X0 Y0 ⊢
 have c0_0:=F0.out.c2 0 rfl
 clear c0_0
 refine (CS.out _ X0.out).mono ?_
 rintro q w1 ⟨u,rfl,hu,hb⟩
 have F1:=h_ (F0.out.call hb)
 have X1:=h_ (X0.out.below hb)
 have Y1:=h_ (Y0.out.below hb)
 clear F0 X0 Y0
 have U1:=h_ (hu)
 clear hb
 have c0_1:=F1.out.c2 0 rfl
 clear X1
 obtain ⟨a3,k3,c3,rfl⟩:=U1.out.form
 go_wp2_with fail
 clear c0_1
 refine (CD.out _ _ (U1.out.rd (by omega)) Y1.out).mono ?_
 rintro q w2 ⟨u,v,rfl,hx,hy,hb⟩
 have F2:=h_ (F1.out.call hb)
 have Y2:=h_ (Y1.out.below hb)
 have U2:=h_ (U1.out.below hb)
 clear F1 Y1 U1
 have Q2:=h_ (hx)
 have R2:=h_ (hy)
 clear hb
 have c0_2:=F2.out.c2 0 rfl
 clear Y2 U2
 obtain ⟨a4,k4,c4,rfl⟩:=Q2.out.form
 obtain ⟨a5,k5,c5,rfl⟩:=R2.out.form
 have hr:=R2.out.len0
 by_cases hr0:r=0
 ·have HE:Hid (P=⟨x,x⟩):=by rw [HF.out,if_pos hr0]; rfl
  obtain rfl:k5=0:=hr.1 hr0
  clear hr hr0 HF
  go_wp2
  obtain ⟨f0,p0⟩:=F2.out.s2 0 rfl (.slice a4 k4 c4) (.slice a4 k4 c4) rfl rfl
  have p:=p0
  have f:=f0
  clear f0 p0
  generalize (World.setCell (World.setCell _ _ _) _ _)=W at f p ⊢
  have g0:=f.c2 0 rfl
  refine bodyPost_ret (v:=.agg #[.slice a4 k4 c4,.slice a4 k4 c4]) (by simp [results,Tryz.results178,go_sem,g0]) rfl ?_
  exact ⟨_,rfl,HE.out ▸ ⟨_,_,_,_,_,_,rfl,Q2.out.kp p,Q2.out.kp p⟩,f.b⟩
 ·have HE:Hid (P=⟨x,x+1⟩):=by rw [HF.out,if_neg hr0]; rfl
  have t0:decide (0 < (k5:Int))=true:=decide_eq_true (by have:k5 ≠ 0:=fun h=>hr0 (hr.2 h); omega)
  have t1:decide (0 < k5)=true:=decide_eq_true (by have:k5 ≠ 0:=fun h=>hr0 (hr.2 h); omega)
  clear hr hr0 HF
  go_wp2_with fail
  clear c0_2
  refine (of_any (n:=1) (by decide) Q2.out.tab).mono ?_
  rintro q w3 ⟨u,rfl,hu,hb⟩
  have F3:=h_ (F2.out.call hb)
  have Q3:=h_ (Q2.out.below hb)
  have R3:=h_ (R2.out.below hb)
  clear F2 Q2 R2
  have O3:=h_ (hu)
  clear hb
  have c0_3:=F3.out.c2 0 rfl
  obtain ⟨a6,k6,c6,rfl⟩:=O3.out.form
  go_wp2_with fail
  clear c0_3
  refine (add_r (Q3.out.rd hb2) (O3.out.rd (by decide))).mono ?_
  rintro q w4 ⟨u,rfl,hu,hb⟩
  have F4:=h_ (F3.out.call hb)
  have Q4:=h_ (Q3.out.below hb)
  have R4:=h_ (R3.out.below hb)
  have O4:=h_ (O3.out.below hb)
  clear F3 Q3 R3 O3
  have S4:=h_ (hu)
  clear hb
  have c0_4:=F4.out.c2 0 rfl
  obtain ⟨a7,k7,c7,rfl⟩:=S4.out.form
  go_wp2
  obtain ⟨f0,p0⟩:=F4.out.s2 0 rfl (.slice a4 k4 c4) (.slice a7 k7 c7) rfl rfl
  have p:=p0
  have f:=f0
  clear f0 p0
  generalize (World.setCell (World.setCell _ _ _) _ _)=W at f p ⊢
  have g0:=f.c2 0 rfl
  refine bodyPost_ret (v:=.agg #[.slice a4 k4 c4,.slice a7 k7 c7]) (by simp [results,Tryz.results178,go_sem,g0]) rfl ?_
  exact ⟨_,rfl,HE.out ▸ ⟨_,_,_,_,_,_,rfl,Q4.out.kp p,S4.out.kp p⟩,f.b⟩
def timesP (p q:Pr) (s:Nat):Pr:=⟨p.lo * q.lo / 2^s,upN (p.hi * q.hi) s⟩
theorem ptimes_r {w:World} {u v:Value} {p q:Pr} (hu:Pv w u p) (hv:Pv w v q) (s:Nat) (hs:s≤100000) (h1:bl p.lo+bl q.lo≤65536) (h2:bl p.hi+bl q.hi≤65536) :
  Calls Tryz.prog 170 #[u,v,.int .i64 (s:Int)] w (RetP (timesP p q s) w):=by
 obtain ⟨a1,k1,c1,a2,k2,c2,rfl,hx1,hx2⟩:=hu
 obtain ⟨a3,k3,c3,a4,k4,c4,rfl,hy1,hy2⟩:=hv
 obtain ⟨pl,ph⟩:=p
 obtain ⟨ql,qh⟩:=q
 simp only at h1 h2 hx1 hx2 hy1 hy2
 have HE:timesP ⟨pl,ph⟩ ⟨ql,qh⟩ s=⟨pl * ql / 2^s,upN (ph * qh) s⟩:=rfl
 rw [HE]
 have HX1:=h_ (hx1.rd (by omega))
 have HX2:=h_ (hx2.rd (by omega))
 have HY1:=h_ (hy1.rd (by omega))
 have HY2:=h_ (hy2.rd (by omega))
 have bm:=bl_mul pl ql
 have bm2:=bl_mul ph qh
 have C1:=h_ (fun w (h:Rd w (.slice a1 k1 c1) pl) (k:Rd w (.slice a3 k3 c3) ql)=>mul_s h k h1)
 have C2:=h_ (fun w (h:Rd w (.slice a2 k2 c2) ph) (k:Rd w (.slice a4 k4 c4) qh)=>mul_s h k h2)
 have C3:=h_ (fun w v (h:Rd w v (pl * ql))=>shr_r h s (by omega))
 have C4:=h_ (fun w v (h:Rd w v (ph * qh))=>upShift_r h s (by omega) (by omega))
 generalize ph * qh=m2 at *
 generalize pl * ql=m1 at *
 generalize m1 / 2^s=r1 at *
 generalize upN m2 s=r2 at *
 generalize decide (m1 % 2^s ≠ 0)=g at *
 clear hx1 hx2 hy1 hy2 HE
 go_enter Tryz.func170,Tryz.ntmps170
 have F0:=h_ (Fx.three w 226 #[.slice a1 k1 c1,.slice a2 k2 c2] 226 #[.slice a3 k3 c3,.slice a4 k4 c4] 226 #[.slice none 0 0,.slice none 0 0] rfl rfl rfl)
 have P0:=h_ (((HX1.out.alloc (.cells #[.slice a1 k1 c1,.slice a2 k2 c2] 226)).alloc (.cells #[.slice a3 k3 c3,.slice a4 k4 c4] 226)).alloc (.cells #[.slice none 0 0,.slice none 0 0] 226))
 have Q0:=h_ (((HX2.out.alloc (.cells #[.slice a1 k1 c1,.slice a2 k2 c2] 226)).alloc (.cells #[.slice a3 k3 c3,.slice a4 k4 c4] 226)).alloc (.cells #[.slice none 0 0,.slice none 0 0] 226))
 have R0:=h_ (((HY1.out.alloc (.cells #[.slice a1 k1 c1,.slice a2 k2 c2] 226)).alloc (.cells #[.slice a3 k3 c3,.slice a4 k4 c4] 226)).alloc (.cells #[.slice none 0 0,.slice none 0 0] 226))
 have S0:=h_ (((HY2.out.alloc (.cells #[.slice a1 k1 c1,.slice a2 k2 c2] 226)).alloc (.cells #[.slice a3 k3 c3,.slice a4 k4 c4] 226)).alloc (.cells #[.slice none 0 0,.slice none 0 0] 226))
 clear HX1 HX2 HY1 HY2
 go_upto_region 1 with (fail)
 generalize World.alloc (World.alloc (World.alloc _ _) _) _=w0 at F0 P0 Q0 R0 S0 ⊢
 have c0_0:=F0.out.c2 0 rfl
 have c1_0:=F0.out.c2 1 rfl
 have c2_0:=F0.out.c2 2 rfl
 go_wp2_with fail
 clear c0_0 c1_0 c2_0
 refine (C1.out _ P0.out R0.out).mono ?_
 rintro q w1 ⟨u,rfl,hu,hb⟩
 have F1:=h_ (F0.out.call hb)
 have P1:=h_ (P0.out.below hb)
 have Q1:=h_ (Q0.out.below hb)
 have R1:=h_ (R0.out.below hb)
 have S1:=h_ (S0.out.below hb)
 clear F0 P0 Q0 R0 S0
 have U1:=h_ (hu)
 clear hb
 have c0_1:=F1.out.c2 0 rfl
 have c1_1:=F1.out.c2 1 rfl
 have c2_1:=F1.out.c2 2 rfl
 obtain ⟨a5,k5,c5,rfl⟩:=U1.out.form
 clear P1 R1
 go_wp2_with fail
 clear c0_1 c1_1 c2_1
 refine (C2.out _ Q1.out S1.out).mono ?_
 rintro q w2 ⟨u,rfl,hu,hb⟩
 have F2:=h_ (F1.out.call hb)
 have Q2:=h_ (Q1.out.below hb)
 have S2:=h_ (S1.out.below hb)
 have U2:=h_ (U1.out.below hb)
 clear F1 Q1 S1 U1
 have V2:=h_ (hu)
 clear hb
 have c0_2:=F2.out.c2 0 rfl
 have c1_2:=F2.out.c2 1 rfl
 have c2_2:=F2.out.c2 2 rfl
 obtain ⟨a6,k6,c6,rfl⟩:=V2.out.form
 clear Q2 S2
 go_wp2_with fail
 clear c0_2 c1_2 c2_2
 refine (C3.out _ _ (U2.out.rd (by omega))).mono ?_
 rintro q w3 ⟨u,rfl,hu,hb⟩
 have F3:=h_ (F2.out.call hb)
 have U3:=h_ (U2.out.below hb)
 have V3:=h_ (V2.out.below hb)
 clear F2 U2 V2
 have W3:=h_ (hu)
 clear hb
 have c0_3:=F3.out.c2 0 rfl
 have c1_3:=F3.out.c2 1 rfl
 have c2_3:=F3.out.c2 2 rfl
 obtain ⟨a7,k7,c7,rfl⟩:=W3.out.form
 go_wp2_with fail
 clear c0_3 c1_3 c2_3
 refine (C4.out _ _ (V3.out.rd (by omega))).mono ?_
 rintro q w4 ⟨u,rfl,hu,hb⟩
 have F4:=h_ (F3.out.call hb)
 have U4:=h_ (U3.out.below hb)
 have V4:=h_ (V3.out.below hb)
 have W4:=h_ (W3.out.below hb)
 clear F3 U3 V3 W3
 have Z4:=h_ (hu)
 clear hb
 have c0_4:=F4.out.c2 0 rfl
 have c1_4:=F4.out.c2 1 rfl
 have c2_4:=F4.out.c2 2 rfl
 obtain ⟨a8,k8,c8,rfl⟩:=Z4.out.form
 go_wp2
 obtain ⟨f0,p0⟩:=F4.out.s2 2 rfl (.slice a7 k7 c7) (.slice a8 k8 c8) rfl rfl
 have p:=p0
 have f:=f0
 clear f0 p0
 generalize (World.setCell (World.setCell _ _ _) _ _)=W at f p ⊢
 have g2:=f.c2 2 rfl
 refine bodyPost_ret (v:=.agg #[.slice a7 k7 c7,.slice a8 k8 c8]) (by simp [results,Tryz.results170,go_sem,g2]) rfl ?_
 exact ⟨_,rfl,⟨_,_,_,_,_,_,rfl,W4.out.kp p,Z4.out.kp p⟩,f.b⟩
def byP (p:Pr) (n:Nat):Pr:=⟨p.lo / n,if p.hi % n=0 then p.hi / n else p.hi / n+1⟩
def plusP (p q:Pr):Pr:=⟨p.lo+q.lo,p.hi+q.hi⟩
def restP (p q:Pr):Pr:=⟨p.lo,p.hi+(q.hi+q.hi)⟩
theorem pby_r {w:World} {u:Value} {p:Pr} (hu:Pv w u p) {n:Nat} (hn:0 < n) (hn64:n < 18446744073709551616) (h1:bl p.lo≤6000000) (h2:bl p.hi≤6000000) :
  Calls Tryz.prog 171 #[u,.int .u64 (n:Int)] w (RetP (byP p n) w):=by
 obtain ⟨a1,k1,c1,a2,k2,c2,rfl,hx1,hx2⟩:=hu
 obtain ⟨pl,ph⟩:=p
 simp only at h1 h2 hx1 hx2
 have HF:Hid (byP ⟨pl,ph⟩ n=⟨pl / n,if ph % n=0 then ph / n else ph / n+1⟩):=rfl
 have HX1:=h_ (hx1.rd h1)
 have HX2:=h_ (hx2.rd h2)
 have C1:=h_ (fun w (h:Rd w (.slice a1 k1 c1) pl)=>Small_r h hn hn64)
 have C2:=h_ (fun w (h:Rd w (.slice a2 k2 c2) ph)=>Small_r h hn hn64)
 have hb2:bl (ph / n)≤6000000:=Nat.le_trans (bl_mono (Nat.div_le_self _ _)) h2
 generalize byP ⟨pl,ph⟩ n=P at *
 generalize pl / n=x at *
 generalize ph / n=y at *
 generalize pl % n=rx at *
 generalize ph % n=r at *
 clear hx1 hx2
 go_enter Tryz.func171,Tryz.ntmps171
 have F0:=h_ (Fx.two w 226 #[.slice a1 k1 c1,.slice a2 k2 c2] 226 #[.slice none 0 0,.slice none 0 0] rfl rfl)
 have P0:=h_ ((HX1.out.alloc (.cells #[.slice a1 k1 c1,.slice a2 k2 c2] 226)).alloc (.cells #[.slice none 0 0,.slice none 0 0] 226))
 have Q0:=h_ ((HX2.out.alloc (.cells #[.slice a1 k1 c1,.slice a2 k2 c2] 226)).alloc (.cells #[.slice none 0 0,.slice none 0 0] 226))
 clear HX1 HX2
 go_upto_region 1 with (fail)
 generalize World.alloc (World.alloc _ _) _=w0 at F0 P0 Q0 ⊢
 have c0_0:=F0.out.c2 0 rfl
 have c1_0:=F0.out.c2 1 rfl
 go_wp2_with fail
 clear c0_0 c1_0
 refine (C1.out _ P0.out).mono ?_
 rintro q w1 ⟨u,rfl,hu,hb⟩
 have F1:=h_ (F0.out.call hb)
 have P1:=h_ (P0.out.below hb)
 have Q1:=h_ (Q0.out.below hb)
 clear F0 P0 Q0
 have U1:=h_ (hu)
 clear hb
 have c0_1:=F1.out.c2 0 rfl
 have c1_1:=F1.out.c2 1 rfl
 obtain ⟨a5,k5,c5,rfl⟩:=U1.out.form
 clear P1
 go_wp2_with fail
 clear c0_1 c1_1
 refine (C2.out _ Q1.out).mono ?_
 rintro q w2 ⟨u,rfl,hu,hb⟩
 have F2:=h_ (F1.out.call hb)
 have Q2:=h_ (Q1.out.below hb)
 have U2:=h_ (U1.out.below hb)
 clear F1 Q1 U1
 have V2:=h_ (hu)
 clear hb
 have c0_2:=F2.out.c2 0 rfl
 have c1_2:=F2.out.c2 1 rfl
 obtain ⟨a6,k6,c6,rfl⟩:=V2.out.form
 clear Q2
 by_cases hr0:r=0
 ·have HE:Hid (P=⟨x,y⟩):=by rw [HF.out,if_pos hr0]; rfl
  have t0:decide (0 < (r:Int))=false:=decide_eq_false (by omega)
  have t1:decide (0 < r)=false:=decide_eq_false (by omega)
  clear hr0 HF
  go_wp2
  obtain ⟨f0,p0⟩:=F2.out.s2 1 rfl (.slice a5 k5 c5) (.slice a6 k6 c6) rfl rfl
  have p:=p0
  have f:=f0
  clear f0 p0
  generalize (World.setCell (World.setCell _ _ _) _ _)=W at f p ⊢
  have g1:=f.c2 1 rfl
  refine bodyPost_ret (v:=.agg #[.slice a5 k5 c5,.slice a6 k6 c6]) (by simp [results,Tryz.results171,go_sem,g1]) rfl ?_
  exact ⟨_,rfl,HE.out ▸ ⟨_,_,_,_,_,_,rfl,U2.out.kp p,V2.out.kp p⟩,f.b⟩
 ·have HE:Hid (P=⟨x,y+1⟩):=by rw [HF.out,if_neg hr0]; rfl
  have t0:decide (0 < (r:Int))=true:=decide_eq_true (by omega)
  have t1:decide (0 < r)=true:=decide_eq_true (by omega)
  clear hr0 HF
  go_wp2_with fail
  clear c0_2 c1_2
  refine (of_any (n:=1) (by decide) V2.out.tab).mono ?_
  rintro q w3 ⟨u,rfl,hu,hb⟩
  have F3:=h_ (F2.out.call hb)
  have U3:=h_ (U2.out.below hb)
  have V3:=h_ (V2.out.below hb)
  clear F2 U2 V2
  have O3:=h_ (hu)
  clear hb
  have c0_3:=F3.out.c2 0 rfl
  have c1_3:=F3.out.c2 1 rfl
  obtain ⟨a7,k7,c7,rfl⟩:=O3.out.form
  go_wp2_with fail
  clear c0_3 c1_3
  refine (add_r (V3.out.rd hb2) (O3.out.rd (by decide))).mono ?_
  rintro q w4 ⟨u,rfl,hu,hb⟩
  have F4:=h_ (F3.out.call hb)
  have U4:=h_ (U3.out.below hb)
  have V4:=h_ (V3.out.below hb)
  have O4:=h_ (O3.out.below hb)
  clear F3 U3 V3 O3
  have S4:=h_ (hu)
  clear hb
  have c0_4:=F4.out.c2 0 rfl
  have c1_4:=F4.out.c2 1 rfl
  obtain ⟨a8,k8,c8,rfl⟩:=S4.out.form
  go_wp2
  obtain ⟨f0,p0⟩:=F4.out.s2 1 rfl (.slice a5 k5 c5) (.slice a8 k8 c8) rfl rfl
  have p:=p0
  have f:=f0
  clear f0 p0
  generalize (World.setCell (World.setCell _ _ _) _ _)=W at f p ⊢
  have g1:=f.c2 1 rfl
  refine bodyPost_ret (v:=.agg #[.slice a5 k5 c5,.slice a8 k8 c8]) (by simp [results,Tryz.results171,go_sem,g1]) rfl ?_
  exact ⟨_,rfl,HE.out ▸ ⟨_,_,_,_,_,_,rfl,U4.out.kp p,S4.out.kp p⟩,f.b⟩
theorem pplus_r {w:World} {u v:Value} {p q:Pr} (hu:Pv w u p) (hv:Pv w v q) (h1:bl p.lo≤1000000∧bl p.hi≤1000000∧bl q.lo≤1000000∧bl q.hi≤1000000) :
  Calls Tryz.prog 172 #[u,v] w (RetP (plusP p q) w):=by
 obtain ⟨a1,k1,c1,a2,k2,c2,rfl,hx1,hx2⟩:=hu
 obtain ⟨a3,k3,c3,a4,k4,c4,rfl,hy1,hy2⟩:=hv
 obtain ⟨pl,ph⟩:=p
 obtain ⟨ql,qh⟩:=q
 simp only at h1 hx1 hx2 hy1 hy2
 have HE:plusP ⟨pl,ph⟩ ⟨ql,qh⟩=⟨pl+ql,ph+qh⟩:=rfl
 rw [HE]
 have HX1:=h_ (hx1.rd (by omega))
 have HX2:=h_ (hx2.rd (by omega))
 have HY1:=h_ (hy1.rd (by omega))
 have HY2:=h_ (hy2.rd (by omega))
 have C1:=h_ (fun w (h:Rd w (.slice a1 k1 c1) pl) (k:Rd w (.slice a3 k3 c3) ql)=>add_r h k)
 have C2:=h_ (fun w (h:Rd w (.slice a2 k2 c2) ph) (k:Rd w (.slice a4 k4 c4) qh)=>add_r h k)
 generalize ph+qh=m2 at *
 generalize pl+ql=m1 at *
 clear hx1 hx2 hy1 hy2 HE
 go_enter Tryz.func172,Tryz.ntmps172
 have F0:=h_ (Fx.three w 226 #[.slice a1 k1 c1,.slice a2 k2 c2] 226 #[.slice a3 k3 c3,.slice a4 k4 c4] 226 #[.slice none 0 0,.slice none 0 0] rfl rfl rfl)
 have P0:=h_ (((HX1.out.alloc (.cells #[.slice a1 k1 c1,.slice a2 k2 c2] 226)).alloc (.cells #[.slice a3 k3 c3,.slice a4 k4 c4] 226)).alloc (.cells #[.slice none 0 0,.slice none 0 0] 226))
 have Q0:=h_ (((HX2.out.alloc (.cells #[.slice a1 k1 c1,.slice a2 k2 c2] 226)).alloc (.cells #[.slice a3 k3 c3,.slice a4 k4 c4] 226)).alloc (.cells #[.slice none 0 0,.slice none 0 0] 226))
 have R0:=h_ (((HY1.out.alloc (.cells #[.slice a1 k1 c1,.slice a2 k2 c2] 226)).alloc (.cells #[.slice a3 k3 c3,.slice a4 k4 c4] 226)).alloc (.cells #[.slice none 0 0,.slice none 0 0] 226))
 have S0:=h_ (((HY2.out.alloc (.cells #[.slice a1 k1 c1,.slice a2 k2 c2] 226)).alloc (.cells #[.slice a3 k3 c3,.slice a4 k4 c4] 226)).alloc (.cells #[.slice none 0 0,.slice none 0 0] 226))
 clear HX1 HX2 HY1 HY2
 go_upto_region 1 with (fail)
 generalize World.alloc (World.alloc (World.alloc _ _) _) _=w0 at F0 P0 Q0 R0 S0 ⊢
 have c0_0:=F0.out.c2 0 rfl
 have c1_0:=F0.out.c2 1 rfl
 have c2_0:=F0.out.c2 2 rfl
 clear c0_0 c1_0 c2_0
 have FC:=h_ (And.intro (F0.out.c2 0 rfl).1 ((F0.out.c2 1 rfl).1))
 go_region_held3 (fun w'=>(w'.cell? ⟨w.heap.size,0,none⟩=some (.slice a1 k1 c1)∧w'.cell? ⟨w.heap.size,1,none⟩=some (.slice a2 k2 c2))∧(w'.cell? ⟨w.heap.size+1,0,none⟩=some (.slice a3 k3 c3)∧w'.cell? ⟨w.heap.size+1,1,none⟩=some (.slice a4 k4 c4))) (first | exact FC.out | exact And.intro ((F2.out.s2 2 rfl (.slice a5 k5 c5) (.slice a6 k6 c6) rfl rfl).1.c2 0 rfl).1 (((F2.out.s2 2 rfl (.slice a5 k5 c5) (.slice a6 k6 c6) rfl rfl).1.c2 1 rfl).1)) (first | (go_at_call 123; (with_reducible refine (C2.out _ Q1.out S1.out).mono ?_); rintro q ww2 ⟨u2,rfl,hu,hb⟩; have F2:=h_ (F1.out.call hb); have P2:=h_ (P1.out.below hb); have Q2:=h_ (Q1.out.below hb); have R2:=h_ (R1.out.below hb); have S2:=h_ (S1.out.below hb); have U2:=h_ (U1.out.below hb); have V2:=h_ (hu); obtain ⟨a6,k6,c6,rfl⟩:=V2.out.form; have FC:=h_ (And.intro (F2.out.c2 0 rfl).1 ((F2.out.c2 1 rfl).1)); have c0_2:=F2.out.c2 0 rfl; have c1_2:=F2.out.c2 1 rfl; have c2_2:=F2.out.c2 2 rfl; clear hb) | (go_at_call 123; (with_reducible refine (C1.out _ (P0.out.drew) (R0.out.drew)).mono ?_); rintro q ww1 ⟨u1,rfl,hu,hb⟩; have F1:=h_ ((F0.out.drew).call hb); have P1:=h_ ((P0.out.drew).below hb); have Q1:=h_ ((Q0.out.drew).below hb); have R1:=h_ ((R0.out.drew).below hb); have S1:=h_ ((S0.out.drew).below hb); have U1:=h_ (hu); obtain ⟨a5,k5,c5,rfl⟩:=U1.out.form; have FC:=h_ (And.intro (F1.out.c2 0 rfl).1 ((F1.out.c2 1 rfl).1)); have c0_1:=F1.out.c2 0 rfl; have c1_1:=F1.out.c2 1 rfl; have c2_1:=F1.out.c2 2 rfl; clear hb))
 go_wp2
 obtain ⟨f0,p0⟩:=F2.out.s2 2 rfl (.slice a5 k5 c5) (.slice a6 k6 c6) rfl rfl
 have p:=p0
 have f:=f0
 clear f0 p0
 generalize (World.setCell (World.setCell _ _ _) _ _)=W at f p ⊢
 have g2:=f.c2 2 rfl
 refine bodyPost_ret (v:=.agg #[.slice a5 k5 c5,.slice a6 k6 c6]) (by simp [results,Tryz.results172,go_sem,g2]) rfl ?_
 exact ⟨_,rfl,⟨_,_,_,_,_,_,rfl,U2.out.kp p,V2.out.kp p⟩,f.b⟩
theorem prest_r {w:World} {u v:Value} {p q:Pr} (hu:Pv w u p) (hv:Pv w v q) (h1:bl p.lo≤1000000∧bl p.hi≤1000000∧bl q.lo≤1000000∧bl q.hi≤1000000) :
  Calls Tryz.prog 173 #[u,v] w (RetP (restP p q) w):=by
 obtain ⟨a1,k1,c1,a2,k2,c2,rfl,hx1,hx2⟩:=hu
 obtain ⟨a3,k3,c3,a4,k4,c4,rfl,hy1,hy2⟩:=hv
 obtain ⟨pl,ph⟩:=p
 obtain ⟨ql,qh⟩:=q
 simp only at h1 hx1 hx2 hy1 hy2
 have HE:restP ⟨pl,ph⟩ ⟨ql,qh⟩=⟨pl,ph+(qh+qh)⟩:=rfl
 rw [HE]
 have HX1:=h_ (hx1.rd (by omega))
 have HX2:=h_ (hx2.rd (by omega))
 have HY1:=h_ (hy1.rd (by omega))
 have HY2:=h_ (hy2.rd (by omega))
 have DX:=h_ hx1
 have hb:bl (qh+qh)≤6000000:=by
  have:=bl_shl qh 1
  rw [show qh+qh=qh * 2^1 by omega]; omega
 have C1:=h_ (fun w (h:Rd w (.slice a4 k4 c4) qh) (k:Rd w (.slice a4 k4 c4) qh)=>add_r h k)
 have C2:=h_ (fun w v (h:Rd w (.slice a2 k2 c2) ph) (k:Rd w v (qh+qh))=>add_r h k)
 generalize qh+qh=m1 at *
 generalize ph+m1=m2 at *
 clear hx1 hx2 hy1 hy2 HE
 go_enter Tryz.func173,Tryz.ntmps173
 have F0:=h_ (Fx.three w 226 #[.slice a1 k1 c1,.slice a2 k2 c2] 226 #[.slice a3 k3 c3,.slice a4 k4 c4] 226 #[.slice none 0 0,.slice none 0 0] rfl rfl rfl)
 have Q0:=h_ (((HX2.out.alloc (.cells #[.slice a1 k1 c1,.slice a2 k2 c2] 226)).alloc (.cells #[.slice a3 k3 c3,.slice a4 k4 c4] 226)).alloc (.cells #[.slice none 0 0,.slice none 0 0] 226))
 have S0:=h_ (((HY2.out.alloc (.cells #[.slice a1 k1 c1,.slice a2 k2 c2] 226)).alloc (.cells #[.slice a3 k3 c3,.slice a4 k4 c4] 226)).alloc (.cells #[.slice none 0 0,.slice none 0 0] 226))
 have DX0:=h_ (((DX.out.alloc (.cells #[.slice a1 k1 c1,.slice a2 k2 c2] 226)).alloc (.cells #[.slice a3 k3 c3,.slice a4 k4 c4] 226)).alloc (.cells #[.slice none 0 0,.slice none 0 0] 226))
 clear HX1 HX2 HY1 HY2 DX
 go_upto_region 1 with (fail)
 generalize World.alloc (World.alloc (World.alloc _ _) _) _=w0 at F0 Q0 S0 DX0 ⊢
 have c0_0:=F0.out.c2 0 rfl
 have c1_0:=F0.out.c2 1 rfl
 have c2_0:=F0.out.c2 2 rfl
 clear c0_0 c1_0 c2_0
 have FC:=h_ (And.intro (F0.out.c2 0 rfl).1 ((F0.out.c2 1 rfl).1))
 go_region_held3 (fun w'=>(w'.cell? ⟨w.heap.size,0,none⟩=some (.slice a1 k1 c1)∧w'.cell? ⟨w.heap.size,1,none⟩=some (.slice a2 k2 c2))∧(w'.cell? ⟨w.heap.size+1,0,none⟩=some (.slice a3 k3 c3)∧w'.cell? ⟨w.heap.size+1,1,none⟩=some (.slice a4 k4 c4))) (first | exact FC.out | exact And.intro ((F2.out.s2 2 rfl (.slice a1 k1 c1) (.slice a6 k6 c6) rfl rfl).1.c2 0 rfl).1 (((F2.out.s2 2 rfl (.slice a1 k1 c1) (.slice a6 k6 c6) rfl rfl).1.c2 1 rfl).1)) (first | (go_at_call 123; (with_reducible refine (C2.out _ _ Q1.out (U1.out.rd hb)).mono ?_); rintro q ww2 ⟨u2,rfl,hu,hb⟩; have F2:=h_ (F1.out.call hb); have Q2:=h_ (Q1.out.below hb); have S2:=h_ (S1.out.below hb); have DX2:=h_ (DX1.out.below hb); have U2:=h_ (U1.out.below hb); have V2:=h_ (hu); obtain ⟨a6,k6,c6,rfl⟩:=V2.out.form; have FC:=h_ (And.intro (F2.out.c2 0 rfl).1 ((F2.out.c2 1 rfl).1)); have c0_2:=F2.out.c2 0 rfl; have c1_2:=F2.out.c2 1 rfl; have c2_2:=F2.out.c2 2 rfl; clear hb) | (go_at_call 123; (with_reducible refine (C1.out _ (S0.out.drew) (S0.out.drew)).mono ?_); rintro q ww1 ⟨u1,rfl,hu,hb⟩; have F1:=h_ ((F0.out.drew).call hb); have Q1:=h_ ((Q0.out.drew).below hb); have S1:=h_ ((S0.out.drew).below hb); have DX1:=h_ ((DX0.out.drew).below hb); have U1:=h_ (hu); obtain ⟨a5,k5,c5,rfl⟩:=U1.out.form; have FC:=h_ (And.intro (F1.out.c2 0 rfl).1 ((F1.out.c2 1 rfl).1)); have c0_1:=F1.out.c2 0 rfl; have c1_1:=F1.out.c2 1 rfl; have c2_1:=F1.out.c2 2 rfl; clear hb))
 go_wp2
 obtain ⟨f0,p0⟩:=F2.out.s2 2 rfl (.slice a1 k1 c1) (.slice a6 k6 c6) rfl rfl
 have p:=p0
 have f:=f0
 clear f0 p0
 generalize (World.setCell (World.setCell _ _ _) _ _)=W at f p ⊢
 have g2:=f.c2 2 rfl
 refine bodyPost_ret (v:=.agg #[.slice a1 k1 c1,.slice a6 k6 c6]) (by simp [results,Tryz.results173,go_sem,g2]) rfl ?_
 exact ⟨_,rfl,⟨_,_,_,_,_,_,rfl,DX2.out.kp p,V2.out.kp p⟩,f.b⟩
end Go.Proofs.YtobpioceopfkpaaGreatDoor
