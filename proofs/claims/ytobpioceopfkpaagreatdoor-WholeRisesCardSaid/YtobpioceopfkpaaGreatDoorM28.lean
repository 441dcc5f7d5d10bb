/-
  Lemmas for WholeTurned and WholeGrows and WholeRises, part 28 of 36: what the program's functions do, and plain facts; without conditions.
-/
import Derived.Test.YtobpioceopfkpaaGreatDoorM11
import Derived.Test.YtobpioceopfkpaaGreatDoorM25
set_option maxRecDepth 100000
set_option maxHeartbeats 4000000
namespace Go.Proofs.YtobpioceopfkpaaGreatDoor
open Go.RowKit
theorem Xright_r {w:World} {u:Value} {d:Dn} (hu:Ry w u d) (sd:Sd d) (ht:topN (bareN d) < 12) :
  Calls Tryz.prog 162 #[u] w fun e w'=>e=.returned (.bool true)∧Below w.heap.size w w':=by
 have CA:=h_ (fun w (h:Ry w u d)=>Bare_s h sd)
 have bd:=sd.bare
 obtain ⟨a1,k1,c1,rfl⟩:=hu.form
 generalize bareN d=D at *
 have CT:=h_ (fun w u (h:Cy w u D)=>Top_d h.ry)
 generalize topN D=t at *
 obtain ⟨n,m,e⟩:=D
 simp only at bd CT
 have CB:=h_ (fun w u (h:Dg w u m)=>bits_r (h.rd (by omega)))
 generalize bl m=l at *
 generalize decide (m ≠ 0)=g at *
 have z1:decide ((l:Int)≤20000)=true:=decide_eq_true (by omega)
 have z2:decide ((-20000:Int)≤e)=true:=decide_eq_true (by omega)
 have z3:decide (t < 12)=true:=decide_eq_true ht
 have z4:decide (l≤20000)=true:=decide_eq_true (by omega)
 have HUU:=h_ hu
 clear hu sd ht bd
 go_enter Tryz.func162,Tryz.ntmps162
 have F0:=h_ (Fx.one w 42 #[.bool d.neg,.slice a1 k1 c1,.int .i64 d.e] rfl)
 have X0:=h_ (HUU.out.alloc (.cells #[.bool d.neg,.slice a1 k1 c1,.int .i64 d.e] 42))
 clear HUU
 go_upto_region 1 with (fail)
 generalize World.alloc _ _=w0 at F0 X0 ⊢
 have c0_0:=F0.out.c3 0 rfl
 go_wp2_with fail
 clear c0_0
 refine (CA.out _ X0.out).mono ?_
 rintro q w1 ⟨u,rfl,hu,hb⟩
 have F1:=h_ (F0.out.call hb)
 have X1:=h_ (X0.out.below hb)
 clear F0 X0
 have U1:=h_ (hu)
 clear hb
 have c0_1:=F1.out.c3 0 rfl
 clear X1
 obtain ⟨a3,k3,c3,rfl⟩:=U1.out.fm
 go_upto_region 2 with (fail)
 clear c0_1
 obtain ⟨f,p⟩:=F1.out.s3 0 rfl (.bool n) (.slice a3 k3 c3) (.int .i64 e) rfl rfl rfl
 generalize (World.setCell (World.setCell (World.setCell _ _ _) _ _) _ _)=W at f p ⊢
 have F2:=h_ (f)
 have U2:=h_ (U1.out.kp p)
 clear F1 U1
 clear f p
 simp only [List.set_cons_zero] at F2
 have c0_2:=F2.out.c3 0 rfl
 go_wp2_with fail
 clear c0_2
 refine (CT.out _ _ U2.out).mono ?_
 rintro q w3 ⟨rfl,hb⟩
 have F3:=h_ (F2.out.call hb)
 have U3:=h_ (U2.out.below hb)
 clear F2 U2
 clear hb
 have c0_3:=F3.out.c3 0 rfl
 go_wp2_with fail
 clear c0_3
 refine (CB.out _ _ U3.out.dm).mono ?_
 rintro q w4 ⟨rfl,hb⟩
 have F4:=h_ (F3.out.call hb)
 have U4:=h_ (U3.out.below hb)
 clear F3 U3
 clear hb
 have c0_4:=F4.out.c3 0 rfl
 go_wp2
 go_ret
 exact ⟨rfl,F4.out.b⟩
def unitsN (d:Dn) (s:Nat) (above:Bool):Nat :=
 if 0≤(bareN d).e+(s:Int) then (bareN d).m * 2^((bareN d).e+(s:Int)).toNat
 else if (decide ((bareN d).m % 2^(-(bareN d).e - (s:Int)).toNat ≠ 0) && above)=true then (bareN d).m / 2^(-(bareN d).e - (s:Int)).toNat+1 else (bareN d).m / 2^(-(bareN d).e - (s:Int)).toNat
theorem Units_r {w:World} {u:Value} {d:Dn} (hu:Ry w u d) (sd:Sd d) (s:Nat) (hs:s≤9000) (g:Bool) :
  Calls Tryz.prog 181 #[u,.int .i64 (s:Int),.bool g] w (RetDg (unitsN d s g) w):=by
 have CA:=h_ (fun w (h:Ry w u d)=>Bare_s h sd)
 have bd:=sd.bare
 obtain ⟨a1,k1,c1,rfl⟩:=hu.form
 have HR1:0≤(bareN d).e+(s:Int)→Hid (unitsN d s g=(bareN d).m * 2^((bareN d).e+(s:Int)).toNat):=fun h=>by unfold unitsN; rw [if_pos h]; exact rfl
 have HR2:¬ 0≤(bareN d).e+(s:Int)→Hid (unitsN d s g=if (decide ((bareN d).m % 2^(-(bareN d).e - (s:Int)).toNat ≠ 0) && g)=true then (bareN d).m / 2^(-(bareN d).e - (s:Int)).toNat+1 else (bareN d).m / 2^(-(bareN d).e - (s:Int)).toNat):=fun h=>by unfold unitsN; rw [if_neg h]; exact rfl
 generalize unitsN d s g=N at *
 generalize bareN d=D at *
 obtain ⟨n,m,e⟩:=D
 simp only at bd HR1 HR2
 have HUU:=h_ hu
 clear hu sd
 go_enter Tryz.func181,Tryz.ntmps181
 have F0:=h_ (Fx.one w 42 #[.bool d.neg,.slice a1 k1 c1,.int .i64 d.e] rfl)
 have X0:=h_ (HUU.out.alloc (.cells #[.bool d.neg,.slice a1 k1 c1,.int .i64 d.e] 42))
 clear HUU
 go_upto_region 1 with (fail)
 generalize World.alloc _ _=w0 at F0 X0 ⊢
 have c0_0:=F0.out.c3 0 rfl
 go_wp2_with fail
 clear c0_0
 refine (CA.out _ X0.out).mono ?_
 rintro q w1 ⟨u,rfl,hu,hb⟩
 have F1:=h_ (F0.out.call hb)
 have X1:=h_ (X0.out.below hb)
 clear F0 X0
 have U1:=h_ (hu)
 clear hb
 have c0_1:=F1.out.c3 0 rfl
 clear X1
 obtain ⟨a3,k3,c3,rfl⟩:=U1.out.fm
 go_upto_region 2 with (fail)
 clear c0_1
 obtain ⟨f,p⟩:=F1.out.s3 0 rfl (.bool n) (.slice a3 k3 c3) (.int .i64 e) rfl rfl rfl
 generalize (World.setCell (World.setCell (World.setCell _ _ _) _ _) _ _)=W at f p ⊢
 have F2:=h_ (f)
 have U2:=h_ (U1.out.kp p)
 clear F1 U1
 clear f p
 simp only [List.set_cons_zero] at F2
 have c0_2:=F2.out.c3 0 rfl
 by_cases hq:0≤e+(s:Int)
 ·obtain ⟨j,hj⟩:∃ j,j=(e+(s:Int)).toNat:=⟨_,rfl⟩
  have CL:=h_ (fun w u (h:Dg w u m)=>shl_s (h.rd (by omega)) j (by omega))
  have HR:=HR1 hq
  have q1:IntKind.i64.wrap (e+(s:Int))=(j:Int):=by have:=IntWalk.i64_in (e+(s:Int)) (by omega); omega
  rw [← hj] at HR
  clear HR1 HR2 bd hj hq hs
  go_wp2_with fail
  clear c0_2
  refine (CL.out _ _ U2.out.dm).mono ?_
  rintro q w3 ⟨u,rfl,hu,hb⟩
  have F3:=h_ (F2.out.call hb)
  have U3:=h_ (U2.out.below hb)
  clear F2 U2
  have P3:=h_ (hu)
  clear hb
  have c0_3:=F3.out.c3 0 rfl
  obtain ⟨a4,k4,c4,rfl⟩:=P3.out.form
  go_wp2
  rw [HR.out]
  refine bodyPost_ret (v:=.slice a4 k4 c4) (by simp [results,Tryz.results181,go_sem]) rfl ?_
  exact ⟨_,rfl,P3.out,F3.out.b⟩
 ·obtain ⟨j,hj⟩:∃ j,j=(-e - (s:Int)).toNat:=⟨_,rfl⟩
  have CL:=h_ (fun w u (h:Dg w u m)=>shr_r (h.rd (by omega)) j (by omega))
  have HR:=HR2 (by omega)
  rw [← hj] at HR
  have bm:bl (m / 2^j)≤6000000:=by have:=bl_mono (Nat.div_le_self m (2^j)); omega
  obtain ⟨z,hz⟩:∃ z,z=e+(s:Int):=⟨_,rfl⟩
  obtain ⟨ne,hne⟩:∃ ne,ne=-e:=⟨_,rfl⟩
  have q1:IntKind.i64.wrap (e+(s:Int))=z:=by rw [hz]; exact IntWalk.i64_in _ (by omega)
  have q2:IntKind.i64.wrap (-e)=ne:=by rw [hne]; exact IntWalk.i64_in _ (by omega)
  have q3:IntKind.i64.wrap (ne - (s:Int))=(j:Int):=by have:=IntWalk.i64_in (ne - (s:Int)) (by omega); omega
  have t1:decide (0≤z)=false:=decide_eq_false (by omega)
  generalize m / 2^j=md at *
  generalize decide (m % 2^j ≠ 0)=r at *
  have BM:=h_ bm
  clear HR1 HR2 bd hj hq hs hz hne bm
  go_wp2_with fail
  clear c0_2
  refine (CL.out _ _ U2.out.dm).mono ?_
  rintro q w3 ⟨u,rfl,hu,hb⟩
  have F3:=h_ (F2.out.call hb)
  have U3:=h_ (U2.out.below hb)
  clear F2 U2
  have P3:=h_ (hu)
  clear hb
  have c0_3:=F3.out.c3 0 rfl
  clear U3
  obtain ⟨a4,k4,c4,rfl⟩:=P3.out.form
  cases r
  case false =>
   go_wp2
   have HX:N=md:=HR.out
   rw [HX]
   refine bodyPost_ret (v:=.slice a4 k4 c4) (by simp [results,Tryz.results181,go_sem]) rfl ?_
   exact ⟨_,rfl,P3.out,F3.out.b⟩
  case true =>
   cases g
   case false =>
    go_wp2
    have HX:N=md:=HR.out
    rw [HX]
    refine bodyPost_ret (v:=.slice a4 k4 c4) (by simp [results,Tryz.results181,go_sem]) rfl ?_
    exact ⟨_,rfl,P3.out,F3.out.b⟩
   case true =>
    go_wp2_with fail
    clear c0_3
    refine (of_any (n:=1) (by decide) P3.out.tab).mono ?_
    rintro q w4 ⟨u,rfl,hu,hb⟩
    have F4:=h_ (F3.out.call hb)
    have P4:=h_ (P3.out.below hb)
    clear F3 P3
    have O4:=h_ (hu)
    clear hb
    have c0_4:=F4.out.c3 0 rfl
    go_wp2_with fail
    clear c0_4
    refine (add_r (P4.out.rd BM.out) (O4.out.rd (by have:bl 1≤64:=bl64 (by decide); omega))).mono ?_
    rintro q w5 ⟨u,rfl,hu,hb⟩
    have F5:=h_ (F4.out.call hb)
    have P5:=h_ (P4.out.below hb)
    have O5:=h_ (O4.out.below hb)
    clear F4 P4 O4
    have R5:=h_ (hu)
    clear hb
    have c0_5:=F5.out.c3 0 rfl
    obtain ⟨a5,k5,c5,rfl⟩:=R5.out.form
    go_wp2
    have HX:N=md+1:=HR.out
    rw [HX]
    refine bodyPost_ret (v:=.slice a5 k5 c5) (by simp [results,Tryz.results181,go_sem]) rfl ?_
    exact ⟨_,rfl,R5.out,F5.out.b⟩
def Nm (w:World) (v:Value) (n:Bool) (m:Nat):Prop:=∃ a k c,v=.agg #[.bool n,.slice a k c]∧Dg w (.slice a k c) m
theorem Nm.below {w w':World} {v:Value} {n:Bool} {m:Nat} (h:Nm w v n m) (hb:Below w.heap.size w w'):Nm w' v n m:=by
 obtain ⟨a,k,c,h1,h2⟩:=h; exact ⟨a,k,c,h1,h2.below hb⟩
theorem Nm.drew {w:World} {v:Value} {n:Bool} {m:Nat} (h:Nm w v n m):Nm w.drew v n m:=by
 obtain ⟨a,k,c,h1,h2⟩:=h; exact ⟨a,k,c,h1,h2.drew⟩
theorem Nm.alloc {w:World} {v:Value} {n:Bool} {m:Nat} (h:Nm w v n m) (o:Obj):Nm (w.alloc o) v n m:=by
 obtain ⟨a,k,c,h1,h2⟩:=h; exact ⟨a,k,c,h1,h2.alloc o⟩
theorem Nm.kp {w w':World} {v:Value} {n:Bool} {m:Nat} (h:Nm w v n m) (K:Kp w w'):Nm w' v n m:=by
 obtain ⟨a,k,c,h1,h2⟩:=h; exact ⟨a,k,c,h1,h2.kp K⟩
theorem Nm.dg {w:World} {a:Option Addr} {k c:Nat} {n n':Bool} {m:Nat} (h:Nm w (.agg #[.bool n',.slice a k c]) n m):Dg w (.slice a k c) m∧n'=n:=by
 obtain ⟨a',k',c',h1,h2⟩:=h
 simp only [Value.agg.injEq,Array.mk.injEq,List.cons.injEq,Value.bool.injEq,and_true] at h1
 obtain ⟨r1,r2⟩:=h1
 rw [r2]
 exact ⟨h2,r1⟩
def RetNm (n:Bool) (m:Nat) (w:World) (e:Ending) (w':World):Prop:=∃ u,e=.returned u∧Nm w' u n m∧Below w.heap.size w w'
theorem Floor_r {w:World} {u:Value} {d:Dn} (hu:Ry w u d) (sd:Sd d) (s:Nat) (hs:s≤9000) (g:Bool) (hg:decide (signN d < 0)=g) :
  Calls Tryz.prog 163 #[u,.int .i64 (s:Int)] w (RetNm g (unitsN d s (g)) w):=by
 have CS:=h_ (fun w (h:Ry w u d)=>Sign_d h)
 have CU:=h_ (fun w (h:Ry w u d)=>Units_r h sd s hs (g))
 obtain ⟨a1,k1,c1,rfl⟩:=hu.form
 generalize signN d=sg at *
 generalize unitsN d s (g)=N at *
 have HUU:=h_ hu
 clear hu sd hs
 go_enter Tryz.func163,Tryz.ntmps163
 have F0:=h_ (Fx.two w 42 #[.bool d.neg,.slice a1 k1 c1,.int .i64 d.e] 221 #[.bool false,.slice none 0 0] rfl rfl)
 have X0:=h_ ((HUU.out.alloc (.cells #[.bool d.neg,.slice a1 k1 c1,.int .i64 d.e] 42)).alloc (.cells #[.bool false,.slice none 0 0] 221))
 clear HUU
 go_upto_region 1 with (fail)
 generalize World.alloc (World.alloc _ _) _=w0 at F0 X0 ⊢
 have c0_0:=F0.out.c3 0 rfl
 have c1_0:=F0.out.c2 1 rfl
 go_wp2_with fail
 clear c0_0 c1_0
 refine (CS.out _ X0.out).mono ?_
 rintro q w1 ⟨rfl,hb⟩
 have F1:=h_ (F0.out.call hb)
 have X1:=h_ (X0.out.below hb)
 clear F0 X0
 clear hb
 have c0_1:=F1.out.c3 0 rfl
 have c1_1:=F1.out.c2 1 rfl
 go_wp2_with fail
 clear c0_1 c1_1
 refine (CU.out _ X1.out).mono ?_
 rintro q w2 ⟨u,rfl,hu,hb⟩
 have F2:=h_ (F1.out.call hb)
 have X2:=h_ (X1.out.below hb)
 clear F1 X1
 have U2:=h_ (hu)
 clear hb
 have c0_2:=F2.out.c3 0 rfl
 have c1_2:=F2.out.c2 1 rfl
 obtain ⟨a3,k3,c3,rfl⟩:=U2.out.form
 go_wp2
 obtain ⟨f0,p0⟩:=F2.out.s2 1 rfl (.bool g) (.slice a3 k3 c3) rfl rfl
 have p:=p0
 have f:=f0
 clear f0 p0
 generalize (World.setCell (World.setCell _ _ _) _ _)=W at f p ⊢
 have g1:=f.c2 1 rfl
 refine bodyPost_ret (v:=.agg #[.bool g,.slice a3 k3 c3]) (by simp [results,Tryz.results163,go_sem,g1]) rfl ?_
 exact ⟨_,rfl,⟨_,_,_,rfl,U2.out.kp p⟩,f.b⟩
theorem Ceil_r {w:World} {u:Value} {d:Dn} (hu:Ry w u d) (sd:Sd d) (s:Nat) (hs:s≤9000) (g:Bool) (hg:decide (signN d < 0)=g) :
  Calls Tryz.prog 164 #[u,.int .i64 (s:Int)] w (RetNm g (unitsN d s (!g)) w):=by
 have CS:=h_ (fun w (h:Ry w u d)=>Sign_d h)
 have CU:=h_ (fun w (h:Ry w u d)=>Units_r h sd s hs (!g))
 obtain ⟨a1,k1,c1,rfl⟩:=hu.form
 generalize signN d=sg at *
 generalize unitsN d s (!g)=N at *
 have HUU:=h_ hu
 clear hu sd hs
 go_enter Tryz.func164,Tryz.ntmps164
 have F0:=h_ (Fx.two w 42 #[.bool d.neg,.slice a1 k1 c1,.int .i64 d.e] 221 #[.bool false,.slice none 0 0] rfl rfl)
 have X0:=h_ ((HUU.out.alloc (.cells #[.bool d.neg,.slice a1 k1 c1,.int .i64 d.e] 42)).alloc (.cells #[.bool false,.slice none 0 0] 221))
 clear HUU
 go_upto_region 1 with (fail)
 generalize World.alloc (World.alloc _ _) _=w0 at F0 X0 ⊢
 have c0_0:=F0.out.c3 0 rfl
 have c1_0:=F0.out.c2 1 rfl
 go_wp2_with fail
 clear c0_0 c1_0
 refine (CS.out _ X0.out).mono ?_
 rintro q w1 ⟨rfl,hb⟩
 have F1:=h_ (F0.out.call hb)
 have X1:=h_ (X0.out.below hb)
 clear F0 X0
 clear hb
 have c0_1:=F1.out.c3 0 rfl
 have c1_1:=F1.out.c2 1 rfl
 go_wp2_with fail
 clear c0_1 c1_1
 refine (CU.out _ X1.out).mono ?_
 rintro q w2 ⟨u,rfl,hu,hb⟩
 have F2:=h_ (F1.out.call hb)
 have X2:=h_ (X1.out.below hb)
 clear F1 X1
 have U2:=h_ (hu)
 clear hb
 have c0_2:=F2.out.c3 0 rfl
 have c1_2:=F2.out.c2 1 rfl
 obtain ⟨a3,k3,c3,rfl⟩:=U2.out.form
 go_wp2
 obtain ⟨f0,p0⟩:=F2.out.s2 1 rfl (.bool g) (.slice a3 k3 c3) rfl rfl
 have p:=p0
 have f:=f0
 clear f0 p0
 generalize (World.setCell (World.setCell _ _ _) _ _)=W at f p ⊢
 have g1:=f.c2 1 rfl
 refine bodyPost_ret (v:=.agg #[.bool g,.slice a3 k3 c3]) (by simp [results,Tryz.results164,go_sem,g1]) rfl ?_
 exact ⟨_,rfl,⟨_,_,_,rfl,U2.out.kp p⟩,f.b⟩
theorem Minus_m {w:World} {u v:Value} {m q:Nat} (hu:Nm w u false m) (hv:Rd w v q) (hq:q≤m) (hm:bl m≤6000000) :
  Calls Tryz.prog 168 #[u,v] w (RetNm false (m - q) w):=by
 obtain ⟨a1,k1,c1,rfl,hd⟩:=hu
 obtain ⟨a2,k2,c2,rfl⟩:=hv.form
 have CS:=h_ (fun w u (h:Dg w u m) (k:Rd w (.slice a2 k2 c2) q)=>sub_r (h.rd hm) k)
 have e1:subE m q=0:=by unfold subE; rw [if_neg (by omega)]
 rw [e1] at CS
 generalize m - q=z at *
 have HD:=h_ hd
 have HV:=h_ hv
 clear hd hv hq hm e1
 go_enter Tryz.func168,Tryz.ntmps168
 have F0:=h_ (Fx.two w 221 #[.bool false,.slice a1 k1 c1] 221 #[.bool false,.slice none 0 0] rfl rfl)
 have X0:=h_ ((HD.out.alloc (.cells #[.bool false,.slice a1 k1 c1] 221)).alloc (.cells #[.bool false,.slice none 0 0] 221))
 have Y0:=h_ ((HV.out.alloc (.cells #[.bool false,.slice a1 k1 c1] 221)).alloc (.cells #[.bool false,.slice none 0 0] 221))
 clear HD HV
 go_upto_region 1 with (fail)
 generalize World.alloc (World.alloc _ _) _=w0 at F0 X0 Y0 ⊢
 have c0_0:=F0.out.c2 0 rfl
 have c1_0:=F0.out.c2 1 rfl
 go_wp2_with fail
 clear c0_0 c1_0
 refine (CS.out _ _ X0.out Y0.out).mono ?_
 rintro q w1 ⟨u,rfl,hu,hb⟩
 have F1:=h_ (F0.out.call hb)
 have X1:=h_ (X0.out.below hb)
 have Y1:=h_ (Y0.out.below hb)
 clear F0 X0 Y0
 have U1:=h_ (hu)
 clear hb
 have c0_1:=F1.out.c2 0 rfl
 have c1_1:=F1.out.c2 1 rfl
 obtain ⟨a3,k3,c3,rfl⟩:=U1.out.form
 go_wp2
 obtain ⟨f0,p0⟩:=F1.out.s2 1 rfl (.bool false) (.slice a3 k3 c3) rfl rfl
 have p:=p0
 have f:=f0
 clear f0 p0
 generalize (World.setCell (World.setCell _ _ _) _ _)=W at f p ⊢
 have g1:=f.c2 1 rfl
 refine bodyPost_ret (v:=.agg #[.bool false,.slice a3 k3 c3]) (by simp [results,Tryz.results168,go_sem,g1]) rfl ?_
 exact ⟨_,rfl,⟨_,_,_,rfl,U1.out.kp p⟩,f.b⟩
theorem Plus_false {w:World} {u v:Value} {m q:Nat} (hu:Nm w u false m) (hv:Rd w v q) (bm:bl m≤1000000) :
  Calls Tryz.prog 166 #[u,v] w (RetNm false (m+q) w):=by
 obtain ⟨a1,k1,c1,rfl,hd⟩:=hu
 obtain ⟨a2,k2,c2,rfl⟩:=hv.form
 have CS:=h_ (fun w u (h:Dg w u m) (k:Rd w (.slice a2 k2 c2) q)=>add_r (h.rd (by omega)) k)
 generalize m+q=z at *
 have HD:=h_ hd
 have HV:=h_ hv
 clear hd hv bm
 go_enter Tryz.func166,Tryz.ntmps166
 have F0:=h_ (Fx.two w 221 #[.bool false,.slice a1 k1 c1] 221 #[.bool false,.slice none 0 0] rfl rfl)
 have X0:=h_ ((HD.out.alloc (.cells #[.bool false,.slice a1 k1 c1] 221)).alloc (.cells #[.bool false,.slice none 0 0] 221))
 have Y0:=h_ ((HV.out.alloc (.cells #[.bool false,.slice a1 k1 c1] 221)).alloc (.cells #[.bool false,.slice none 0 0] 221))
 clear HD HV
 go_upto_region 1 with (fail)
 generalize World.alloc (World.alloc _ _) _=w0 at F0 X0 Y0 ⊢
 have c0_0:=F0.out.c2 0 rfl
 have c1_0:=F0.out.c2 1 rfl
 go_wp2_with fail
 clear c0_0 c1_0
 refine (CS.out _ _ X0.out Y0.out).mono ?_
 rintro q w1 ⟨u,rfl,hu,hb⟩
 have F1:=h_ (F0.out.call hb)
 have X1:=h_ (X0.out.below hb)
 have Y1:=h_ (Y0.out.below hb)
 clear F0 X0 Y0
 have U1:=h_ (hu)
 clear hb
 have c0_1:=F1.out.c2 0 rfl
 have c1_1:=F1.out.c2 1 rfl
 obtain ⟨a3,k3,c3,rfl⟩:=U1.out.form
 go_wp2
 obtain ⟨f0,p0⟩:=F1.out.s2 1 rfl (.bool false) (.slice a3 k3 c3) rfl rfl
 have p:=p0
 have f:=f0
 clear f0 p0
 generalize (World.setCell (World.setCell _ _ _) _ _)=W at f p ⊢
 have g1:=f.c2 1 rfl
 refine bodyPost_ret (v:=.agg #[.bool false,.slice a3 k3 c3]) (by simp [results,Tryz.results166,go_sem,g1]) rfl ?_
 exact ⟨_,rfl,⟨_,_,_,rfl,U1.out.kp p⟩,f.b⟩
theorem Plus_true {w:World} {u v:Value} {m q:Nat} (hu:Nm w u true m) (hv:Rd w v q) (hq:m≤q) (bq:bl q≤6000000) :
  Calls Tryz.prog 166 #[u,v] w (RetNm false (q - m) w):=by
 obtain ⟨a1,k1,c1,rfl,hd⟩:=hu
 obtain ⟨a2,k2,c2,rfl⟩:=hv.form
 have bm:bl m≤6000000:=Nat.le_trans (bl_mono hq) bq
 have CS:=h_ (fun w u (k:Rd w (.slice a2 k2 c2) q) (h:Dg w u m)=>sub_r k (h.rd bm))
 have e1:subE q m=0:=by unfold subE; rw [if_neg (by omega)]
 rw [e1] at CS
 generalize q - m=z at *
 have HD:=h_ hd
 have HV:=h_ hv
 clear hd hv hq bm e1 bq
 go_enter Tryz.func166,Tryz.ntmps166
 have F0:=h_ (Fx.two w 221 #[.bool true,.slice a1 k1 c1] 221 #[.bool false,.slice none 0 0] rfl rfl)
 have X0:=h_ ((HD.out.alloc (.cells #[.bool true,.slice a1 k1 c1] 221)).alloc (.cells #[.bool false,.slice none 0 0] 221))
 have Y0:=h_ ((HV.out.alloc (.cells #[.bool true,.slice a1 k1 c1] 221)).alloc (.cells #[.bool false,.slice none 0 0] 221))
 clear HD HV
 go_upto_region 1 with (fail)
 generalize World.alloc (World.alloc _ _) _=w0 at F0 X0 Y0 ⊢
 have c0_0:=F0.out.c2 0 rfl
 have c1_0:=F0.out.c2 1 rfl
 go_wp2_with fail
 clear c0_0 c1_0
 refine (CS.out _ _ Y0.out X0.out).mono ?_
 rintro q w1 ⟨u,rfl,hu,hb⟩
 have F1:=h_ (F0.out.call hb)
 have X1:=h_ (X0.out.below hb)
 have Y1:=h_ (Y0.out.below hb)
 clear F0 X0 Y0
 have U1:=h_ (hu)
 clear hb
 have c0_1:=F1.out.c2 0 rfl
 have c1_1:=F1.out.c2 1 rfl
 obtain ⟨a3,k3,c3,rfl⟩:=U1.out.form
 go_wp2
 obtain ⟨f0,p0⟩:=F1.out.s2 1 rfl (.bool false) (.slice a3 k3 c3) rfl rfl
 have p:=p0
 have f:=f0
 clear f0 p0
 generalize (World.setCell (World.setCell _ _ _) _ _)=W at f p ⊢
 have g1:=f.c2 1 rfl
 refine bodyPost_ret (v:=.agg #[.bool false,.slice a3 k3 c3]) (by simp [results,Tryz.results166,go_sem,g1]) rfl ?_
 exact ⟨_,rfl,⟨_,_,_,rfl,U1.out.kp p⟩,f.b⟩
def plusN (g:Bool) (m q:Nat):Nat:=if g then q - m else m+q
theorem Plus_m {w:World} {u v:Value} {g:Bool} {m q:Nat} (hu:Nm w u g m) (hv:Rd w v q) (hq:g=true→m≤q) (bm:bl m≤1000000) (bq:bl q≤1000000) :
  Calls Tryz.prog 166 #[u,v] w (RetNm false (plusN g m q) w):=by
 cases g
 ·exact Plus_false hu hv bm
 ·exact Plus_true hu hv (hq rfl) (by omega)
end Go.Proofs.YtobpioceopfkpaaGreatDoor
