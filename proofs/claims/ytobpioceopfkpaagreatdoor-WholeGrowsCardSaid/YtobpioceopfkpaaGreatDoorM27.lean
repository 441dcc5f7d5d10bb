/-
  Lemmas for WholeTurned and WholeGrows and WholeRises, part 27 of 36: what the program's functions do, and plain facts; without conditions.
-/
import Derived.Test.YtobpioceopfkpaaGreatDoorM26
import Derived.Test.YtobpioceopfkpaaGreatDoorM20
import Derived.Test.YtobpioceopfkpaaGreatDoorM22
import Derived.Test.YtobpioceopfkpaaGreatDoorM18
import Derived.Test.YtobpioceopfkpaaGreatDoorM23
set_option maxRecDepth 100000
set_option maxHeartbeats 4000000
namespace Go.Proofs.YtobpioceopfkpaaGreatDoor
open Go.RowKit
theorem RPow_r {w:World} {u:Value} {d:Dn} (hu:Cy w u d) (sd:Sd d) (m:Nat) (hn:(bareN d).neg=false) (hf:bl (bareN d).m * m≤60000) (hf2:(bareN d).e.natAbs * m≤60000) (h64:(bareN d).m < 18446744073709551616) (hm:m≤60000) :
  Calls Tryz.prog 100 #[u,.int .i64 (m:Int)] w (RetCE (bareN ⟨false,(bareN d).m^m,(bareN d).e * (m:Int)⟩) 0 w):=by
 have CA:=h_ (fun w u (h:Cy w u d)=>Bare_s h.ry sd)
 have CF:=h_ (fun w u (h:Cy w u d)=>Fits_r h sd (m:Int) (by omega))
 have e0:(m:Int).natAbs=m:=Int.natAbs_natCast m
 rw [e0,decide_eq_true hf,decide_eq_true hf2] at CF
 have sb:=sd.bare
 generalize bareN d=B at *
 obtain ⟨bn,bm,be⟩:=B
 simp only at sb hn hf hf2 h64 ⊢
 subst hn
 have CP:=h_ (fun w u (h:Dg w u bm)=>Pow_n (k:=m) (h.rd (by omega)) (by rw [Nat.mul_comm]; exact hf) hm h64)
 have bp:bl (bm^m)≤60001:=Nat.le_trans (pow_bl bm m) (by rw [Nat.mul_comm]; omega)
 have hem:(be * (m:Int)).natAbs≤60000:=by rw [Int.natAbs_mul,e0]; exact hf2
 obtain ⟨p,hp⟩:∃ p,p=bm^m:=⟨_,rfl⟩
 obtain ⟨f,hfe⟩:∃ f,f=be * (m:Int):=⟨_,rfl⟩
 rw [← hp] at CP bp
 rw [← hfe] at hem
 have CM:=h_ (fun w u (h:Dg w u p)=>Make_s (neg:=false) (e:=f) (h.rd (by omega)) (by omega) (by omega))
 rw [← hp,← hfe]
 have q1:IntKind.i64.wrap f=f:=IntWalk.i64_in _ (by omega)
 have q2:be * (m:Int)=f:=hfe.symm
 generalize bareN ⟨false,p,f⟩=R at *
 obtain ⟨rn,rm,re⟩:=R
 obtain ⟨mm,hmm⟩:∃ mm:Int,mm=(m:Int):=⟨_,rfl⟩
 rw [← hmm] at CF CP q2 ⊢
 have z1:decide (mm < 0)=false:=decide_eq_false (by omega)
 have z2:¬ mm < 0:=by omega
 obtain ⟨dn,dm,de⟩:=d
 obtain ⟨a1,k1,c1,rfl⟩:=hu.fm
 have X:=h_ hu
 clear hu sd sb hf hf2 h64 hm bp hem hp hfe hmm e0
 go_enter Tryz.func100,Tryz.ntmps100
 have F0:=h_ (Fx.two w 42 #[.bool dn,.slice a1 k1 c1,.int .i64 de] 42 #[.bool false,.slice none 0 0,.int .i64 0] rfl rfl)
 have X0:=h_ ((X.out.alloc (.cells #[.bool dn,.slice a1 k1 c1,.int .i64 de] 42)).alloc (.cells #[.bool false,.slice none 0 0,.int .i64 0] 42))
 clear X
 go_upto_region 1 with (fail)
 generalize World.alloc (World.alloc _ _) _=w0 at F0 X0 ⊢
 have c0_0:=F0.out.c3 0 rfl
 have c1_0:=F0.out.c3 1 rfl
 go_wp2_with fail
 clear c0_0 c1_0
 refine (CA.out _ _ X0.out).mono ?_
 rintro q w1 ⟨u,rfl,hu,hb⟩
 have F1:=h_ (F0.out.call hb)
 have X1:=h_ (X0.out.below hb)
 clear F0 X0
 have B1:=h_ (hu)
 clear hb
 have c0_1:=F1.out.c3 0 rfl
 have c1_1:=F1.out.c3 1 rfl
 obtain ⟨a3,k3,c3,rfl⟩:=B1.out.fm
 have D1:=h_ B1.out.dm
 clear B1 hu
 go_upto_region 2 with (fail)
 clear c0_1 c1_1
 have F2:=h_ (F1.out.new 42 #[.bool false,.slice a3 k3 c3,.int .i64 be] rfl)
 have X2:=h_ (X1.out.alloc (.cells #[.bool false,.slice a3 k3 c3,.int .i64 be] 42))
 have D2:=h_ (D1.out.alloc (.cells #[.bool false,.slice a3 k3 c3,.int .i64 be] 42))
 clear F1 X1 D1
 obtain ⟨g1,hg1⟩:∃ g,g=(World.heap w1).size:=⟨_,rfl⟩
 rw [← hg1] at F2 ⊢
 clear hg1
 simp only [List.nil_append,List.cons_append] at F2
 generalize World.alloc w1 _=W2 at F2 X2 D2 ⊢
 have c0_2:=F2.out.c3 0 rfl
 have c1_2:=F2.out.c3 1 rfl
 have c2_2:=F2.out.c3 2 rfl
 go_wp2_with fail
 clear c0_2 c1_2 c2_2
 refine (CF.out _ _ X2.out).mono ?_
 rintro q w3 ⟨rfl,hb⟩
 have F3:=h_ (F2.out.call hb)
 have X3:=h_ (X2.out.below hb)
 have D3:=h_ (D2.out.below hb)
 clear F2 X2 D2
 clear hb
 have c0_3:=F3.out.c3 0 rfl
 have c1_3:=F3.out.c3 1 rfl
 have c2_3:=F3.out.c3 2 rfl
 go_wp2_with fail
 clear c0_3 c1_3 c2_3
 refine (CP.out _ _ D3.out).mono ?_
 rintro q w4 ⟨u,rfl,hu,hb⟩
 have F4:=h_ (F3.out.call hb)
 have X4:=h_ (X3.out.below hb)
 have D4:=h_ (D3.out.below hb)
 clear F3 X3 D3
 have P4:=h_ (hu)
 clear hb
 have c0_4:=F4.out.c3 0 rfl
 have c1_4:=F4.out.c3 1 rfl
 have c2_4:=F4.out.c3 2 rfl
 go_wp2_with fail
 clear c0_4 c1_4 c2_4
 refine (CM.out _ _ P4.out).mono ?_
 rintro q w5 ⟨u,rfl,hu,hb⟩
 have F5:=h_ (F4.out.call hb)
 have X5:=h_ (X4.out.below hb)
 have D5:=h_ (D4.out.below hb)
 have P5:=h_ (P4.out.below hb)
 clear F4 X4 D4 P4
 have R5:=h_ (hu)
 clear hb
 have c0_5:=F5.out.c3 0 rfl
 have c1_5:=F5.out.c3 1 rfl
 have c2_5:=F5.out.c3 2 rfl
 obtain ⟨a4,k4,c4,rfl⟩:=R5.out.fm
 go_wp2
 obtain ⟨f,p⟩:=F5.out.s3 1 rfl (.bool rn) (.slice a4 k4 c4) (.int .i64 re) rfl rfl rfl
 generalize World.setCell (World.setCell (World.setCell _ _ _) _ _) _ _=W at f p ⊢
 have g1':=f.c3 1 rfl
 refine bodyPost_ret (v:=.tuple #[.agg #[.bool rn,.slice a4 k4 c4,.int .i64 re],.int .i64 0]) (by simp [results,Tryz.results100,go_sem,g1']) rfl ?_
 exact ⟨_,rfl,R5.out.kp p,f.b⟩
def RaisedOf (x:Dn) (m:Int) (d:Dn):Prop:=d.neg=false∧d.e=x.e * m∧(x.m=1∧d.m=1 ∨ 0≤m∧d.m=x.m^m.toNat)∧-4096≤d.e∧d.e≤4096∧bl d.m≤3500∧d.m % 2=1
theorem odd_bare {n:Bool} {m:Nat} {e:Int} (h:m % 2=1) (he:-200000≤e∧e≤200000):bareN ⟨n,m,e⟩=⟨n,m,e⟩:=by
 obtain ⟨j,rfl⟩:∃ j,m=2 * j+1:=⟨m / 2,by omega⟩
 exact bareN_odd he
theorem pow_odd {x:Nat} (h:x % 2=1) (m:Nat):x^m % 2=1:=by
 induction m with
 | zero=>rfl
 | succ m ih=>rw [Nat.pow_succ,Nat.mul_mod,ih,h]
theorem raised_r {w:World} {u:Value} {x:Dn} (hu:Cy w u x) (hodd:x.m % 2=1) (hm64:x.m < 18446744073709551616) (he:-100000≤x.e∧x.e≤100000) (m:Int) (hm:-9223372036854775808 < m∧m < 9223372036854775808) :
  Calls Tryz.prog 118 #[u,.int .i64 m] w (RetOk (RaisedOf x m) w):=by
 obtain ⟨n,xm,e⟩:=x
 simp only at hodd hm64 he
 have C1:=h_ (fun w=>shift_r w e m (by omega) hm)
 have bm:=bl64 hm64
 have BM:Hid (bl xm≤64):=bm
 have CL:=h_ (fun w u (h:Dg w u xm)=>bits_r (h.rd (by omega)))
 have HM:=h_ (And.intro hodd hm64)
 have HB1:=h_ (show bl xm=1→xm=1 from fun h=>by have:=lt_bl xm; rw [h] at this; omega)
 obtain ⟨ok,hok⟩:∃ ok,ok=decide (e.natAbs * m.natAbs≤4096):=⟨_,rfl⟩
 have hem:ok=true→(e * m).natAbs≤4096:=fun h=>by rw [h] at hok; rw [Int.natAbs_mul]; exact of_decide_eq_true hok.symm
 obtain ⟨f,hf⟩:∃ f,f=if e.natAbs * m.natAbs≤4096 then e * m else 0:=⟨_,rfl⟩
 have hfe:ok=true→f=e * m:=fun h=>by rw [h] at hok; rw [hf,if_pos (of_decide_eq_true hok.symm)]
 rw [← hok,← hf] at C1
 have HF:=h_ (And.intro hem hfe)
 obtain ⟨l,hl⟩:∃ l,l=bl xm:=⟨_,rfl⟩
 have HL:=h_ hl
 rw [← hl] at CL bm
 obtain ⟨a1,k1,c1,rfl⟩:=hu.fm
 have X:=h_ hu
 have HMM:=h_ hm
 clear hu hok hem hf hfe hl he hm hodd hm64
 cases ok
 case false =>
  go_enter Tryz.func118,Tryz.ntmps118
  have F0:=h_ (Fx.two w 42 #[.bool n,.slice a1 k1 c1,.int .i64 e] 42 #[.bool false,.slice none 0 0,.int .i64 0] rfl rfl)
  have X0:=h_ ((X.out.alloc (.cells #[.bool n,.slice a1 k1 c1,.int .i64 e] 42)).alloc (.cells #[.bool false,.slice none 0 0,.int .i64 0] 42))
  clear X
  go_upto_region 1 with (fail)
  generalize World.alloc (World.alloc _ _) _=w0 at F0 X0 ⊢
  have D0:=h_ X0.out.dm
  clear X0
  have c0_0:=F0.out.c3 0 rfl
  have c1_0:=F0.out.c3 1 rfl
  go_wp2_with fail
  clear c0_0 c1_0
  refine (C1.out _).mono ?_
  rintro q w1 ⟨rfl,hb⟩
  have F1:=h_ (F0.out.call hb)
  have D1:=h_ (D0.out.below hb)
  clear F0 D0
  clear hb
  have c0_1:=F1.out.c3 0 rfl
  have c1_1:=F1.out.c3 1 rfl
  go_wp2
  obtain ⟨f9,p⟩:=F1.out.s3 1 rfl (.bool false) (.slice none 0 0) (.int .i64 0) rfl rfl rfl
  generalize World.setCell (World.setCell (World.setCell _ _ _) _ _) _ _=W at f9 p ⊢
  have g1':=f9.c3 1 rfl
  refine bodyPost_ret (v:=.tuple #[.agg #[.bool false,.slice none 0 0,.int .i64 0],.bool false]) (by simp [results,Tryz.results118,go_sem,g1']) rfl ?_
  exact ⟨_,_,false,rfl,Cy.zero3 (D1.out.tab.kp p),nofun,f9.b⟩
 have HF2:Hid (f=e * m∧-4096≤f∧f≤4096):=by
  obtain ⟨h1,h2⟩:=HF.out
  have h3:=h2 rfl
  have h4:=h1 rfl
  rw [← h3] at h4
  exact ⟨h3,by omega,by omega⟩
 clear HF
 by_cases h3:l=1
 case pos =>
  have hm1:=h_ (HB1.out (HL.out ▸ h3))
  subst h3
  go_enter Tryz.func118,Tryz.ntmps118
  have F0:=h_ (Fx.two w 42 #[.bool n,.slice a1 k1 c1,.int .i64 e] 42 #[.bool false,.slice none 0 0,.int .i64 0] rfl rfl)
  have X0:=h_ ((X.out.alloc (.cells #[.bool n,.slice a1 k1 c1,.int .i64 e] 42)).alloc (.cells #[.bool false,.slice none 0 0,.int .i64 0] 42))
  clear X
  go_upto_region 1 with (fail)
  generalize World.alloc (World.alloc _ _) _=w0 at F0 X0 ⊢
  have D0:=h_ X0.out.dm
  clear X0
  have c0_0:=F0.out.c3 0 rfl
  have c1_0:=F0.out.c3 1 rfl
  go_wp2_with fail
  clear c0_0 c1_0
  refine (C1.out _).mono ?_
  rintro q w1 ⟨rfl,hb⟩
  have F1:=h_ (F0.out.call hb)
  have D1:=h_ (D0.out.below hb)
  clear F0 D0
  clear hb
  have c0_1:=F1.out.c3 0 rfl
  have c1_1:=F1.out.c3 1 rfl
  go_wp2_with fail
  clear c0_1 c1_1
  refine (CL.out _ _ D1.out).mono ?_
  rintro q w2 ⟨rfl,hb⟩
  have F2:=h_ (F1.out.call hb)
  have D2:=h_ (D1.out.below hb)
  clear F1 D1
  clear hb
  have c0_2:=F2.out.c3 0 rfl
  have c1_2:=F2.out.c3 1 rfl
  go_wp2
  obtain ⟨f9,p⟩:=F2.out.s3 1 rfl (.bool false) (.slice a1 k1 c1) (.int .i64 f) rfl rfl rfl
  generalize World.setCell (World.setCell (World.setCell _ _ _) _ _) _ _=W at f9 p ⊢
  have g1':=f9.c3 1 rfl
  refine bodyPost_ret (v:=.tuple #[.agg #[.bool false,.slice a1 k1 c1,.int .i64 f],.bool true]) (by simp [results,Tryz.results118,go_sem,g1']) rfl ?_
  exact ⟨_,⟨false,xm,f⟩,true,rfl,⟨_,rfl,D2.out.kp p,Nat.le_trans BM.out (by decide),by have:=HF2.out; show _≤f; omega,by have:=HF2.out; show f≤_; omega⟩,fun _=>⟨rfl,HF2.out.1,.inl ⟨hm1.out,hm1.out⟩,HF2.out.2.1,HF2.out.2.2,Nat.le_trans BM.out (by decide),HM.out.1⟩,f9.b⟩
 have z4:((l:Int) == 1)=false:=by rw [beq_eq_false_iff_ne]; omega
 have z5:¬ (l:Int)=1:=by omega
 have z6:¬ l=1:=h3
 by_cases h4:m < 0
 case pos =>
  have y1:decide (m < 0)=true:=decide_eq_true h4
  go_enter Tryz.func118,Tryz.ntmps118
  have F0:=h_ (Fx.two w 42 #[.bool n,.slice a1 k1 c1,.int .i64 e] 42 #[.bool false,.slice none 0 0,.int .i64 0] rfl rfl)
  have X0:=h_ ((X.out.alloc (.cells #[.bool n,.slice a1 k1 c1,.int .i64 e] 42)).alloc (.cells #[.bool false,.slice none 0 0,.int .i64 0] 42))
  clear X
  go_upto_region 1 with (fail)
  generalize World.alloc (World.alloc _ _) _=w0 at F0 X0 ⊢
  have D0:=h_ X0.out.dm
  clear X0
  have c0_0:=F0.out.c3 0 rfl
  have c1_0:=F0.out.c3 1 rfl
  go_wp2_with fail
  clear c0_0 c1_0
  refine (C1.out _).mono ?_
  rintro q w1 ⟨rfl,hb⟩
  have F1:=h_ (F0.out.call hb)
  have D1:=h_ (D0.out.below hb)
  clear F0 D0
  clear hb
  have c0_1:=F1.out.c3 0 rfl
  have c1_1:=F1.out.c3 1 rfl
  go_wp2_with fail
  clear c0_1 c1_1
  refine (CL.out _ _ D1.out).mono ?_
  rintro q w2 ⟨rfl,hb⟩
  have F2:=h_ (F1.out.call hb)
  have D2:=h_ (D1.out.below hb)
  clear F1 D1
  clear hb
  have c0_2:=F2.out.c3 0 rfl
  have c1_2:=F2.out.c3 1 rfl
  go_wp2
  obtain ⟨f9,p⟩:=F2.out.s3 1 rfl (.bool false) (.slice none 0 0) (.int .i64 0) rfl rfl rfl
  generalize World.setCell (World.setCell (World.setCell _ _ _) _ _) _ _=W at f9 p ⊢
  have g1':=f9.c3 1 rfl
  refine bodyPost_ret (v:=.tuple #[.agg #[.bool false,.slice none 0 0,.int .i64 0],.bool false]) (by simp [results,Tryz.results118,go_sem,g1']) rfl ?_
  exact ⟨_,_,false,rfl,Cy.zero3 (D2.out.tab.kp p),nofun,f9.b⟩
 have y1:decide (m < 0)=false:=decide_eq_false h4
 by_cases h5:54 < m
 case pos =>
  have y2:decide (54 < m)=true:=decide_eq_true h5
  go_enter Tryz.func118,Tryz.ntmps118
  have F0:=h_ (Fx.two w 42 #[.bool n,.slice a1 k1 c1,.int .i64 e] 42 #[.bool false,.slice none 0 0,.int .i64 0] rfl rfl)
  have X0:=h_ ((X.out.alloc (.cells #[.bool n,.slice a1 k1 c1,.int .i64 e] 42)).alloc (.cells #[.bool false,.slice none 0 0,.int .i64 0] 42))
  clear X
  go_upto_region 1 with (fail)
  generalize World.alloc (World.alloc _ _) _=w0 at F0 X0 ⊢
  have D0:=h_ X0.out.dm
  clear X0
  have c0_0:=F0.out.c3 0 rfl
  have c1_0:=F0.out.c3 1 rfl
  go_wp2_with fail
  clear c0_0 c1_0
  refine (C1.out _).mono ?_
  rintro q w1 ⟨rfl,hb⟩
  have F1:=h_ (F0.out.call hb)
  have D1:=h_ (D0.out.below hb)
  clear F0 D0
  clear hb
  have c0_1:=F1.out.c3 0 rfl
  have c1_1:=F1.out.c3 1 rfl
  go_wp2_with fail
  clear c0_1 c1_1
  refine (CL.out _ _ D1.out).mono ?_
  rintro q w2 ⟨rfl,hb⟩
  have F2:=h_ (F1.out.call hb)
  have D2:=h_ (D1.out.below hb)
  clear F1 D1
  clear hb
  have c0_2:=F2.out.c3 0 rfl
  have c1_2:=F2.out.c3 1 rfl
  go_wp2
  obtain ⟨f9,p⟩:=F2.out.s3 1 rfl (.bool false) (.slice none 0 0) (.int .i64 0) rfl rfl rfl
  generalize World.setCell (World.setCell (World.setCell _ _ _) _ _) _ _=W at f9 p ⊢
  have g1':=f9.c3 1 rfl
  refine bodyPost_ret (v:=.tuple #[.agg #[.bool false,.slice none 0 0,.int .i64 0],.bool false]) (by simp [results,Tryz.results118,go_sem,g1']) rfl ?_
  exact ⟨_,_,false,rfl,Cy.zero3 (D2.out.tab.kp p),nofun,f9.b⟩
 have y2:decide (54 < m)=false:=decide_eq_false h5
 obtain ⟨j,rfl⟩:∃ j:Nat,m=(j:Int):=⟨m.toNat,by omega⟩
 have hj:j≤54:=by omega
 have lj:bl xm * j≤3456:=Nat.le_trans (Nat.mul_le_mul BM.out hj) (by decide)
 have o1:bareN ⟨false,xm,0⟩=⟨false,xm,0⟩:=odd_bare HM.out.1 (by decide)
 have o2:bareN ⟨false,xm^j,0⟩=⟨false,xm^j,0⟩:=odd_bare (pow_odd HM.out.1 j) (by decide)
 have CP:=h_ (fun w u (h:Cy w u ⟨false,xm,0⟩)=>RPow_r (m:=j) h ⟨Nat.le_trans BM.out (by decide),by show (-4000:Int)≤0; decide,by show (0:Int)≤4000; decide⟩ (by rw [o1]) (by rw [o1]; exact Nat.le_trans lj (by decide)) (by rw [o1]; simp) (by rw [o1]; exact HM.out.2) (by omega))
 rw [o1] at CP
 have e1:(⟨false,xm,0⟩:Dn).e * (j:Int)=0:=Int.zero_mul _
 rw [e1,o2] at CP
 have bp:bl (xm^j)≤3500:=Nat.le_trans (pow_bl xm j) (by rw [Nat.mul_comm]; omega)
 have HP:=h_ (And.intro bp (pow_odd HM.out.1 j))
 obtain ⟨p,hp⟩:∃ p,p=xm^j:=⟨_,rfl⟩
 have HPP:=h_ hp
 rw [← hp] at CP HP
 clear o1 o2 e1 lj hj bp hp h5 h4 h3
 go_enter Tryz.func118,Tryz.ntmps118
 have F0:=h_ (Fx.two w 42 #[.bool n,.slice a1 k1 c1,.int .i64 e] 42 #[.bool false,.slice none 0 0,.int .i64 0] rfl rfl)
 have X0:=h_ ((X.out.alloc (.cells #[.bool n,.slice a1 k1 c1,.int .i64 e] 42)).alloc (.cells #[.bool false,.slice none 0 0,.int .i64 0] 42))
 clear X
 go_upto_region 1 with (fail)
 generalize World.alloc (World.alloc _ _) _=w0 at F0 X0 ⊢
 have D0:=h_ X0.out.dm
 clear X0
 have c0_0:=F0.out.c3 0 rfl
 have c1_0:=F0.out.c3 1 rfl
 go_wp2_with fail
 clear c0_0 c1_0
 refine (C1.out _).mono ?_
 rintro q w1 ⟨rfl,hb⟩
 have F1:=h_ (F0.out.call hb)
 have D1:=h_ (D0.out.below hb)
 clear F0 D0
 clear hb
 have c0_1:=F1.out.c3 0 rfl
 have c1_1:=F1.out.c3 1 rfl
 go_wp2_with fail
 clear c0_1 c1_1
 refine (CL.out _ _ D1.out).mono ?_
 rintro q w2 ⟨rfl,hb⟩
 have F2:=h_ (F1.out.call hb)
 have D2:=h_ (D1.out.below hb)
 clear F1 D1
 clear hb
 have c0_2:=F2.out.c3 0 rfl
 have c1_2:=F2.out.c3 1 rfl
 have Y2:Hid (Cy w2 (.agg #[.bool false,.slice a1 k1 c1,.int .i64 0]) ⟨false,xm,0⟩):=⟨_,rfl,D2.out,Nat.le_trans BM.out (by decide),by show _≤(0:Int); decide,by show (0:Int)≤_; decide⟩
 go_wp2_with fail
 clear c0_2 c1_2
 refine (CP.out _ _ Y2.out).mono ?_
 rintro q w3 ⟨u,rfl,hu,hb⟩
 have F3:=h_ (F2.out.call hb)
 have D3:=h_ (D2.out.below hb)
 have Y3:=h_ (Y2.out.below hb)
 clear F2 D2 Y2
 have R3:=h_ (hu)
 clear hb
 have c0_3:=F3.out.c3 0 rfl
 have c1_3:=F3.out.c3 1 rfl
 clear Y3 D3
 obtain ⟨a4,k4,c4,rfl⟩:=R3.out.fm
 have E3:=h_ R3.out.dm
 clear R3 hu
 go_upto_region 9 with (fail)
 clear c0_3 c1_3
 have F4:=h_ (F3.out.new 42 #[.bool false,.slice a4 k4 c4,.int .i64 0] rfl)
 have E4:=h_ (E3.out.alloc (.cells #[.bool false,.slice a4 k4 c4,.int .i64 0] 42))
 clear F3 E3
 obtain ⟨g1,hg1⟩:∃ g,g=(World.heap w3).size:=⟨_,rfl⟩
 rw [← hg1] at F4 ⊢
 clear hg1
 simp only [List.nil_append,List.cons_append] at F4
 generalize World.alloc w3 _=W4 at F4 E4 ⊢
 have c0_4:=F4.out.c3 0 rfl
 have c1_4:=F4.out.c3 1 rfl
 have c2_4:=F4.out.c3 2 rfl
 go_upto_region 10 with (fail)
 clear c0_4 c1_4 c2_4
 obtain ⟨f9,p9⟩:=F4.out.set 2 2 rfl rfl (u:=.int .i64 f) rfl
 generalize World.setCell _ _ _=W2 at f9 p9 ⊢
 have F5:=h_ (show Fx w W2 [(w.heap.size,42,#[.bool n,.slice a1 k1 c1,.int .i64 e]),(w.heap.size+1,42,#[.bool false,.slice none 0 0,.int .i64 0]),(g1,42,#[.bool false,.slice a4 k4 c4,.int .i64 f])] from f9)
 have E5:=h_ (E4.out.kp p9)
 clear f9 p9 F4 E4
 have c0_5:=F5.out.c3 0 rfl
 have c1_5:=F5.out.c3 1 rfl
 have c2_5:=F5.out.c3 2 rfl
 go_wp2
 obtain ⟨f9,pk⟩:=F5.out.s3 1 rfl (.bool false) (.slice a4 k4 c4) (.int .i64 f) rfl rfl rfl
 generalize World.setCell (World.setCell (World.setCell _ _ _) _ _) _ _=W at f9 pk ⊢
 have g1':=f9.c3 1 rfl
 refine bodyPost_ret (v:=.tuple #[.agg #[.bool false,.slice a4 k4 c4,.int .i64 f],.bool true]) (by simp [results,Tryz.results118,go_sem,g1']) rfl ?_
 exact ⟨_,⟨false,p,f⟩,true,rfl,⟨_,rfl,E5.out.kp pk,Nat.le_trans HP.out.1 (by decide),by have:=HF2.out; show _≤f; omega,by have:=HF2.out; show f≤_; omega⟩,fun _=>⟨rfl,HF2.out.1,.inr ⟨by omega,by rw [HPP.out]; simp⟩,HF2.out.2.1,HF2.out.2.2,HP.out.1,HP.out.2⟩,f9.b⟩
def PowerOf (x:Dn) (M:Int) (k:Nat) (d:Dn):Prop:=∃ g r,g=Nat.gcd M.natAbs k∧RootOf x (k / g) r∧RaisedOf r (M.tdiv (g:Int)) d
def RetPw (R:Dn→Prop) (w:World) (q:Ending) (w':World):Prop:=∃ v d ok,q=.returned (.tuple #[v,.bool ok,.int .i64 0])∧Cy w' v d∧(ok=true→R d)∧Below w.heap.size w w'
theorem topN_odd {n:Bool} {m:Nat} {e:Int} (h:m % 2=1) (he:-200000≤e∧e≤200000):topN ⟨n,m,e⟩=(bl m:Int) - 1+e:=by
 unfold topN
 rw [odd_bare h he,if_neg (by simp only; omega)]
theorem odd_of_pow {x k y:Nat} (h:x^k=y) (hy:y % 2=1) (hk:0 < k):x % 2=1:=by
 obtain ⟨j,rfl⟩:∃ j,k=j+1:=⟨k - 1,by omega⟩
 rw [Nat.pow_succ] at h
 have h1:x^j * x % 2=1:=by rw [h]; exact hy
 rw [Nat.mul_mod] at h1
 rcases (by omega:x % 2=0 ∨ x % 2=1) with h2 | h2
 ·rw [h2,Nat.mul_zero] at h1; simp at h1
 ·exact h2
theorem Power_r {w:World} {u:Value} {x:Dn} (hu:Cy w u x) (sd:Sd x) (hn:(bareN x).neg=false) (h0:(bareN x).m ≠ 0) (hodd:(bareN x).m % 2=1) (h64:(bareN x).m < 18446744073709551616) (M:Int) (k:Nat) (hM:-9223372036854775808 < M∧M < 9223372036854775808) (hM0:M ≠ 0) (hk:0 < k∧k < 9223372036854775808) :
  Calls Tryz.prog 81 #[u,.agg #[.int .i64 M,.int .i64 (k:Int)]] w (RetPw (PowerOf (bareN x) M k) w):=by
 have CA:=h_ (fun w u (h:Cy w u x)=>Bare_s h.ry sd)
 have sb:=sd.bare
 generalize bareN x=X at *
 obtain ⟨g,hg⟩:∃ g,g=Nat.gcd M.natAbs k:=⟨_,rfl⟩
 have g0:0 < g:=hg ▸ Nat.gcd_pos_of_pos_right _ hk.1
 have gk:g ∣ k:=hg ▸ Nat.gcd_dvd_right _ _
 have gm:(g:Int) ∣ M:=by rw [Int.ofNat_dvd_left,hg]; exact Nat.gcd_dvd_left _ _
 obtain ⟨k1,hk1⟩:∃ k1,k1=k / g:=⟨_,rfl⟩
 obtain ⟨m1,hm1⟩:∃ m1,m1=M.tdiv (g:Int):=⟨_,rfl⟩
 have hP:∀ d,PowerOf X M k d ↔ ∃ r,RootOf X k1 r∧RaisedOf r m1 d:=by
  intro d
  unfold PowerOf
  constructor
  ·rintro ⟨g',r,rfl,h1,h2⟩; rw [← hg] at h1 h2; rw [hk1,hm1]; exact ⟨r,h1,h2⟩
  ·rintro ⟨r,h1,h2⟩; rw [hk1] at h1; rw [hm1] at h2; exact ⟨g,r,hg,h1,h2⟩
 have HP:=h_ hP
 have k10:0 < k1:=by rw [hk1]; exact Nat.div_pos (Nat.le_of_dvd hk.1 gk) g0
 have k1l:k1≤k:=by rw [hk1]; exact Nat.div_le_self _ _
 have m1l:m1.natAbs≤M.natAbs:=by rw [hm1,Int.natAbs_tdiv]; exact Nat.div_le_self _ _
 have m10:m1 ≠ 0:=by
  intro h
  have h2:=Int.tdiv_mul_cancel gm
  rw [← hm1,h,Int.zero_mul] at h2
  exact hM0 h2.symm
 have CW:=h_ (fun w=>Low_r w M k g hM hk hg hm1.symm hk1.symm)
 generalize PowerOf X M k=R at *
 obtain ⟨xn,xm,xe⟩:=X
 simp only at sb hn h0 hodd h64
 subst hn
 have CS:=h_ (fun w u (h:Cy w u ⟨false,xm,xe⟩)=>Sign_d h.ry)
 rw [show signN ⟨false,xm,xe⟩=1 from by unfold signN; rw [if_neg h0]; rfl] at CS
 have CR:=h_ (fun w u (h:Cy w u ⟨false,xm,xe⟩)=>rooted_r (k:=k1) h h0 h64 (by simp only; omega) (by omega))
 have z1:(m1 == 0)=false:=by rw [beq_eq_false_iff_ne]; exact m10
 have HX:=h_ (And.intro hodd (And.intro h64 sb))
 have HK:=h_ k10
 have HM:=h_ (show -9223372036854775808 < m1∧m1 < 9223372036854775808 by omega)
 clear hP hg g0 gk gm hk1 hm1 k10 k1l m1l hM hk hM0
 obtain ⟨dn,dm,de⟩:=x
 obtain ⟨a1,l1,c1,rfl⟩:=hu.fm
 have XX:=h_ hu
 clear hu sd sb h0 hodd h64
 go_enter Tryz.func81,Tryz.ntmps81
 have F0:=h_ (Fx.three w 42 #[.bool dn,.slice a1 l1 c1,.int .i64 de] 133 #[.int .i64 M,.int .i64 (k:Int)] 42 #[.bool false,.slice none 0 0,.int .i64 0] rfl rfl rfl)
 have X0:=h_ ((((XX.out).alloc (.cells #[.bool dn,.slice a1 l1 c1,.int .i64 de] 42)).alloc (.cells #[.int .i64 M,.int .i64 (k:Int)] 133)).alloc (.cells #[.bool false,.slice none 0 0,.int .i64 0] 42))
 clear XX
 go_upto_region 1 with (fail)
 generalize World.alloc (World.alloc (World.alloc _ _) _) _=w0 at F0 X0 ⊢
 have c0_0:=F0.out.c3 0 rfl
 have c1_0:=F0.out.c2 1 rfl
 have c2_0:=F0.out.c3 2 rfl
 go_wp2_with fail
 clear c0_0 c1_0 c2_0
 refine (CA.out _ _ X0.out).mono ?_
 rintro q w1 ⟨u,rfl,hu,hb⟩
 have F1:=h_ (F0.out.call hb)
 have X1:=h_ (X0.out.below hb)
 clear F0 X0
 have B1:=h_ (hu)
 clear hb
 have c0_1:=F1.out.c3 0 rfl
 have c1_1:=F1.out.c2 1 rfl
 have c2_1:=F1.out.c3 2 rfl
 clear X1
 obtain ⟨a3,k3,c3,rfl⟩:=B1.out.fm
 clear hu
 go_upto_region 2 with (fail)
 clear c0_1 c1_1 c2_1
 obtain ⟨f,p⟩:=F1.out.s3 0 rfl (.bool false) (.slice a3 k3 c3) (.int .i64 xe) rfl rfl rfl
 generalize (World.setCell (World.setCell (World.setCell _ _ _) _ _) _ _)=W at f p ⊢
 have F2:=h_ (f)
 have B2:=h_ (B1.out.kp p)
 clear F1 B1
 clear f p
 simp only [List.set_cons_zero] at F2
 have c0_2:=F2.out.c3 0 rfl
 have c1_2:=F2.out.c2 1 rfl
 have c2_2:=F2.out.c3 2 rfl
 go_wp2_with fail
 clear c0_2 c1_2 c2_2
 refine (CW.out _).mono ?_
 rintro q w3 ⟨rfl,hb⟩
 have F3:=h_ (F2.out.call hb)
 have B3:=h_ (B2.out.below hb)
 clear F2 B2
 clear hb
 have c0_3:=F3.out.c3 0 rfl
 have c1_3:=F3.out.c2 1 rfl
 have c2_3:=F3.out.c3 2 rfl
 go_upto_region 3 with (fail)
 clear c0_3 c1_3 c2_3
 obtain ⟨f,p⟩:=F3.out.s2 1 rfl (.int .i64 m1) (.int .i64 (k1:Int)) rfl rfl
 generalize (World.setCell (World.setCell _ _ _) _ _)=W at f p ⊢
 have F4:=h_ (f)
 have B4:=h_ (B3.out.kp p)
 clear F3 B3
 clear f p
 simp only [List.set_cons_zero,List.set_cons_succ] at F4
 have c0_4:=F4.out.c3 0 rfl
 have c1_4:=F4.out.c2 1 rfl
 have c2_4:=F4.out.c3 2 rfl
 go_wp2_with fail
 clear c0_4 c1_4 c2_4
 refine (CS.out _ _ B4.out).mono ?_
 rintro q w5 ⟨rfl,hb⟩
 have F5:=h_ (F4.out.call hb)
 have B5:=h_ (B4.out.below hb)
 clear F4 B4
 clear hb
 have c0_5:=F5.out.c3 0 rfl
 have c1_5:=F5.out.c2 1 rfl
 have c2_5:=F5.out.c3 2 rfl
 go_wp2_with fail
 clear c0_5 c1_5 c2_5
 refine (CR.out _ _ B5.out).mono ?_
 rintro q w6 ⟨v,r,ok,rfl,hu,h1,hb⟩
 have F6:=h_ (F5.out.call hb)
 have B6:=h_ (B5.out.below hb)
 clear F5 B5
 have R6:=h_ (hu)
 clear hb
 have c0_6:=F6.out.c3 0 rfl
 have c1_6:=F6.out.c2 1 rfl
 have c2_6:=F6.out.c3 2 rfl
 clear B6
 obtain ⟨rn,rm,re⟩:=r
 obtain ⟨a4,k4,c4,rfl⟩:=R6.out.fm
 have H1:=h_ h1
 clear h1 hu
 go_upto_region 8 with (fail)
 clear c0_6 c1_6 c2_6
 have F7:=h_ (F6.out.new 42 #[.bool rn,.slice a4 k4 c4,.int .i64 re] rfl)
 have R7:=h_ (R6.out.alloc (.cells #[.bool rn,.slice a4 k4 c4,.int .i64 re] 42))
 clear F6 R6
 obtain ⟨g1,hg1⟩:∃ g,g=(World.heap w6).size:=⟨_,rfl⟩
 rw [← hg1] at F7 ⊢
 clear hg1
 simp only [List.nil_append,List.cons_append] at F7
 generalize World.alloc w6 _=W7 at F7 R7 ⊢
 have c0_7:=F7.out.c3 0 rfl
 have c1_7:=F7.out.c2 1 rfl
 have c2_7:=F7.out.c3 2 rfl
 have c3_7:=F7.out.c3 3 rfl
 cases ok
 case false =>
  go_wp2
  obtain ⟨f9,pk⟩:=F7.out.s3 2 rfl (.bool false) (.slice none 0 0) (.int .i64 0) rfl rfl rfl
  generalize World.setCell (World.setCell (World.setCell _ _ _) _ _) _ _=W at f9 pk ⊢
  have g1':=f9.c3 2 rfl
  refine bodyPost_ret (v:=.tuple #[.agg #[.bool false,.slice none 0 0,.int .i64 0],.bool false,.int .i64 0]) (by simp [results,Tryz.results81,go_sem,g1']) rfl ?_
  exact ⟨_,_,false,rfl,Cy.zero3 (R7.out.tab.kp pk),nofun,f9.b⟩
 have RO:Hid (RootOf ⟨false,xm,xe⟩ k1 ⟨rn,rm,re⟩):=H1.out (by trivial)
 clear H1
 have hre:-100000≤re∧re≤100000:=by
  have h1:re * (k1:Int)=xe:=RO.out.2.2.1
  have h2:re.natAbs * k1=xe.natAbs:=by rw [← h1,Int.natAbs_mul,Int.natAbs_natCast]
  have h3:re.natAbs * 1≤re.natAbs * k1:=Nat.mul_le_mul_left _ HK.out
  have:=HX.out.2.2
  omega
 have CQ:=h_ (fun w u (h:Cy w u ⟨rn,rm,re⟩)=>raised_r h (odd_of_pow RO.out.2.1 HX.out.1 HK.out) RO.out.2.2.2.2 hre m1 HM.out)
 clear hre
 go_wp2_with fail
 clear c0_7 c1_7 c2_7 c3_7
 refine (CQ.out _ _ R7.out).mono ?_
 rintro q w8 ⟨v,q,ok,rfl,hu,h1,hb⟩
 have F8:=h_ (F7.out.call hb)
 have R8:=h_ (R7.out.below hb)
 clear F7 R7
 have P8:=h_ (hu)
 clear hb
 have c0_8:=F8.out.c3 0 rfl
 have c1_8:=F8.out.c2 1 rfl
 have c2_8:=F8.out.c3 2 rfl
 have c3_8:=F8.out.c3 3 rfl
 clear R8
 obtain ⟨pn,pm,pe⟩:=q
 obtain ⟨a5,k5,c5,rfl⟩:=P8.out.fm
 have H1:=h_ h1
 clear h1 hu
 go_upto_region 11 with (fail)
 clear c0_8 c1_8 c2_8 c3_8
 have F9:=h_ (F8.out.new 42 #[.bool pn,.slice a5 k5 c5,.int .i64 pe] rfl)
 have P9:=h_ (P8.out.alloc (.cells #[.bool pn,.slice a5 k5 c5,.int .i64 pe] 42))
 clear F8 P8
 obtain ⟨g2,hg2⟩:∃ g,g=(World.heap w8).size:=⟨_,rfl⟩
 rw [← hg2] at F9 ⊢
 clear hg2
 simp only [List.nil_append,List.cons_append] at F9
 generalize World.alloc w8 _=W9 at F9 P9 ⊢
 have c0_9:=F9.out.c3 0 rfl
 have c1_9:=F9.out.c2 1 rfl
 have c2_9:=F9.out.c3 2 rfl
 have c3_9:=F9.out.c3 3 rfl
 have c4_9:=F9.out.c3 4 rfl
 cases ok
 case false =>
  go_wp2
  obtain ⟨f9,pk⟩:=F9.out.s3 2 rfl (.bool false) (.slice none 0 0) (.int .i64 0) rfl rfl rfl
  generalize World.setCell (World.setCell (World.setCell _ _ _) _ _) _ _=W at f9 pk ⊢
  have g1':=f9.c3 2 rfl
  refine bodyPost_ret (v:=.tuple #[.agg #[.bool false,.slice none 0 0,.int .i64 0],.bool false,.int .i64 0]) (by simp [results,Tryz.results81,go_sem,g1']) rfl ?_
  exact ⟨_,_,false,rfl,Cy.zero3 (P9.out.tab.kp pk),nofun,f9.b⟩
 have PO:Hid (RaisedOf ⟨rn,rm,re⟩ m1 ⟨pn,pm,pe⟩):=H1.out (by trivial)
 clear H1
 have pb:bareN ⟨pn,pm,pe⟩=⟨pn,pm,pe⟩:=odd_bare PO.out.2.2.2.2.2.2 (by have h1:=PO.out.2.2.2.1; have h2:=PO.out.2.2.2.2.1; simp only at h1 h2; omega)
 have ps:Sw ⟨pn,pm,pe⟩:=⟨Nat.le_trans PO.out.2.2.2.2.2.1 (by decide),by have h1:=PO.out.2.2.2.1; simp only at h1 ⊢; omega,by have h2:=PO.out.2.2.2.2.1; simp only at h2 ⊢; omega⟩
 have p0:pm ≠ 0:=by have h2:=PO.out.2.2.2.2.2.2; simp only at h2; omega
 have CB:=h_ (fun w u (h:Cy w u ⟨pn,pm,pe⟩)=>Break_g h.ry ps (by rw [pb]; exact p0) (by rw [pb]; exact topN_odd PO.out.2.2.2.2.2.2 (by have h1:=PO.out.2.2.2.1; have h2:=PO.out.2.2.2.2.1; simp only at h1 h2; omega)))
 have CA2:=h_ (fun w u (h:Cy w u ⟨pn,pm,pe⟩)=>Bare_w h.ry ps)
 rw [pb] at CB CA2
 clear pb ps p0
 generalize breakB _ _=br at *
 go_wp2_with fail
 clear c0_9 c1_9 c2_9 c3_9 c4_9
 refine (CB.out _ _ P9.out).mono ?_
 rintro q w10 ⟨rfl,hb⟩
 have F10:=h_ (F9.out.call hb)
 have P10:=h_ (P9.out.below hb)
 clear F9 P9
 clear hb
 have c0_10:=F10.out.c3 0 rfl
 have c1_10:=F10.out.c2 1 rfl
 have c2_10:=F10.out.c3 2 rfl
 have c3_10:=F10.out.c3 3 rfl
 have c4_10:=F10.out.c3 4 rfl
 cases br
 case false =>
  go_wp2
  obtain ⟨f9,pk⟩:=F10.out.s3 2 rfl (.bool false) (.slice none 0 0) (.int .i64 0) rfl rfl rfl
  generalize World.setCell (World.setCell (World.setCell _ _ _) _ _) _ _=W at f9 pk ⊢
  have g1':=f9.c3 2 rfl
  refine bodyPost_ret (v:=.tuple #[.agg #[.bool false,.slice none 0 0,.int .i64 0],.bool false,.int .i64 0]) (by simp [results,Tryz.results81,go_sem,g1']) rfl ?_
  exact ⟨_,_,false,rfl,Cy.zero3 (P10.out.tab.kp pk),nofun,f9.b⟩
 go_wp2_with fail
 clear c0_10 c1_10 c2_10 c3_10 c4_10
 refine (CA2.out _ _ P10.out).mono ?_
 rintro q w11 ⟨u,rfl,hu,hb⟩
 have F11:=h_ (F10.out.call hb)
 have P11:=h_ (P10.out.below hb)
 clear F10 P10
 have Q11:=h_ (hu)
 clear hb
 have c0_11:=F11.out.c3 0 rfl
 have c1_11:=F11.out.c2 1 rfl
 have c2_11:=F11.out.c3 2 rfl
 have c3_11:=F11.out.c3 3 rfl
 have c4_11:=F11.out.c3 4 rfl
 clear P11
 obtain ⟨a6,k6,c6,rfl⟩:=Q11.out.fm
 clear hu
 go_upto_region 14 with (fail)
 clear c0_11 c1_11 c2_11 c3_11 c4_11
 obtain ⟨f,p⟩:=F11.out.s3 4 rfl (.bool pn) (.slice a6 k6 c6) (.int .i64 pe) rfl rfl rfl
 generalize (World.setCell (World.setCell (World.setCell _ _ _) _ _) _ _)=W at f p ⊢
 have F12:=h_ (f)
 have Q12:=h_ (Q11.out.kp p)
 clear F11 Q11
 clear f p
 simp only [List.set_cons_zero,List.set_cons_succ] at F12
 have c0_12:=F12.out.c3 0 rfl
 have c1_12:=F12.out.c2 1 rfl
 have c2_12:=F12.out.c3 2 rfl
 have c3_12:=F12.out.c3 3 rfl
 have c4_12:=F12.out.c3 4 rfl
 go_wp2
 obtain ⟨f9,pk⟩:=F12.out.s3 2 rfl (.bool pn) (.slice a6 k6 c6) (.int .i64 pe) rfl rfl rfl
 generalize World.setCell (World.setCell (World.setCell _ _ _) _ _) _ _=W at f9 pk ⊢
 have g1':=f9.c3 2 rfl
 refine bodyPost_ret (v:=.tuple #[.agg #[.bool pn,.slice a6 k6 c6,.int .i64 pe],.bool true,.int .i64 0]) (by simp [results,Tryz.results81,go_sem,g1']) rfl ?_
 exact ⟨_,⟨pn,pm,pe⟩,true,rfl,Q12.out.kp pk,fun _=>(HP.out _).2 ⟨_,RO.out,PO.out⟩,f9.b⟩
theorem Round_nog {w:World} {u:Value} {i:In} (hu:Iv w u i) (z:Int) (cr:∀ w u,Iv w u i→Calls Tryz.prog 95 #[u,.int .i64 z] w fun e w'=>e=.returned (.bool false)∧Below w.heap.size w w') :
  Calls Tryz.prog 94 #[u,.bool false,.int .i64 z] w fun e w'=>e=.returned (.tuple #[.int .u64 0,.int .u8 0,.bool false])∧Below w.heap.size w w':=by
 obtain ⟨⟨n,m,e⟩,⟨n',m',e'⟩⟩:=i
 have CR:=h_ cr
 obtain ⟨a1,k1,c1',a2,k2,c2',rfl,hx,hy⟩:=hu.fm
 have HX:=h_ hu
 have HY:=h_ hx
 have HZ:=h_ hy
 clear hu hx hy cr
 go_enter Tryz.func94,Tryz.ntmps94
 have F0:=h_ (Fx.one w 92 #[.bool n,.slice a1 k1 c1',.int .i64 e,.bool n',.slice a2 k2 c2',.int .i64 e'] rfl)
 have X0:=h_ (HX.out.alloc (.cells #[.bool n,.slice a1 k1 c1',.int .i64 e,.bool n',.slice a2 k2 c2',.int .i64 e'] 92))
 have Y0:=h_ (HY.out.alloc (.cells #[.bool n,.slice a1 k1 c1',.int .i64 e,.bool n',.slice a2 k2 c2',.int .i64 e'] 92))
 have Z0:=h_ (HZ.out.alloc (.cells #[.bool n,.slice a1 k1 c1',.int .i64 e,.bool n',.slice a2 k2 c2',.int .i64 e'] 92))
 clear HX HY HZ
 go_upto_region 1 with (fail)
 generalize World.alloc _ _=w0 at F0 X0 Y0 Z0 ⊢
 have c0_0:=F0.out.c6 0 rfl
 go_wp2_with fail
 clear c0_0
 refine (CR.out _ _ X0.out).mono ?_
 rintro q w1 ⟨rfl,hb⟩
 have F1:=h_ (F0.out.call hb)
 have X1:=h_ (X0.out.below hb)
 have Y1:=h_ (Y0.out.below hb)
 have Z1:=h_ (Z0.out.below hb)
 clear F0 X0 Y0 Z0
 clear hb
 have c0_1:=F1.out.c6 0 rfl
 go_wp2
 refine bodyPost_ret (v:=.tuple #[.int .u64 0,.int .u8 0,.bool false]) (by simp [results,Tryz.results94,go_sem]) rfl ?_
 exact ⟨rfl,F1.out.b⟩
structure EndI (d:Dn):Prop where
 ng:d.neg=false
 sw:Sw d
 br:bareN d=d
 od:d.m ≠ 0→d.m % 2=1
theorem EndI.of {p:Nat} {e:Int} (hb:bl p≤4000) (he:-19000≤e∧e≤15000):EndI (bareN ⟨false,p,e⟩):=by
 by_cases h0:p=0
 ·subst h0
  rw [bareN_zero (d:=⟨false,0,e⟩) rfl]
  exact ⟨rfl,⟨by decide,by decide,by decide⟩,bareN_zero rfl,fun h=>absurd rfl h⟩
 ·obtain ⟨k,j,hw,hd,hl⟩:=bareN_full (n:=false) h0 (by omega:-100000≤e∧e≤100000)
  rw [hd]
  refine ⟨rfl,⟨by show bl (2 * j+1)≤4000; omega,by show -20000≤e+(k:Int); omega,by show e+(k:Int)≤20000; omega⟩,bareN_odd (by omega),fun _=>by show (2 * j+1) % 2=1; omega⟩
theorem EndI.zero:EndI ⟨false,0,0⟩:=⟨rfl,⟨by decide,by decide,by decide⟩,bareN_zero rfl,fun h=>absurd rfl h⟩
theorem EndI.top {d:Dn} (h:EndI d) (h0:d.m ≠ 0):topN (bareN d)=(bl (bareN d).m:Int) - 1+(bareN d).e:=by
 rw [h.br]
 obtain ⟨n,m,e⟩:=d
 have h1:=h.sw.2
 simp only at h1
 exact topN_odd (h.od h0) (by omega)
theorem EndI.brk {d:Dn} (h:EndI d) (h0:d.m ≠ 0) {w:World} {u:Value} (hu:Cy w u d):Calls Tryz.prog 119 #[u] w fun e w'=>e=.returned (.bool (breakB d.m d.e))∧Below w.heap.size w w':=by
 have:=Break_g hu.ry h.sw (by rw [h.br]; exact h0) (h.top h0)
 rwa [h.br] at this
theorem EndI.to {d:Dn} (h:EndI d) (h0:d.m ≠ 0) (more:Bool) (z:Int) (hz:0≤z∧z≤3) {w:World} {u:Value} (hu:Cy w u d) :
  Calls Tryz.prog 40 #[u,.bool more,.int .i64 z] w fun e w'=>e=.returned (.tuple #[.int .u64 (toB d.m d.e more z:Nat),.int .u8 (toF d.m d.e more z),.int .i64 0])∧Below w.heap.size w w':=by
 have:=To_g hu.ry h.sw (by rw [h.br]; exact h.ng) (by rw [h.br]; exact h0) (h.top h0) more z hz
 rwa [h.br] at this
theorem EndI.sign {d:Dn} (h:EndI d):decide (0 < signN d)=decide (d.m ≠ 0):=by
 unfold signN
 rw [h.ng]
 by_cases h0:d.m=0
 ·simp [h0]
 ·simp [h0]
theorem EndI.zk {d:Dn} (h:EndI d):Zk 20000 d:=⟨h.sw.2.1,by have:=h.sw.2.1; omega,by have:=h.sw.2.2; omega⟩
theorem EndI.hi0 {a b:Dn} (ha:EndI a) (hb:EndI b) (hc:CmpD a b≤0) (h0:a.m ≠ 0):b.m ≠ 0:=by
 intro h1
 rw [CmpD_zk (K:=20000) (by decide) ha.zk hb.zk] at hc
 have h2:¬ zv 20000 b < zv 20000 a:=fun h=>by have:=cmpI_pos_iff.2 h; omega
 have h3:zv 20000 b=0:=zv_zero h1
 have h4:0 < mz 20000 a:=Nat.pos_of_ne_zero (fun h=>h0 (mz_zero.1 h))
 have h5:zv 20000 a=(mz 20000 a:Int):=by unfold zv; rw [ha.ng]; simp
 rw [h3,h5] at h2
 omega
def rndOk (i:In) (z:Int):Bool:=decide (i.lo.m ≠ 0) && !breakB i.lo.m i.lo.e && !breakB i.hi.m i.hi.e && decide (toB i.lo.m i.lo.e false z=toB i.hi.m i.hi.e false z) && decide (toF i.lo.m i.lo.e false z=toF i.hi.m i.hi.e false z)
theorem round_any {i:In} (e1:EndI i.lo) (e2:EndI i.hi) (hc:CmpD i.lo i.hi≤0) (z:Int) (hz:0≤z∧z≤3) :
  ∃ (B:Nat) (f:Int) (ok:Bool),(∀ w u,Iv w u i→Calls Tryz.prog 94 #[u,.bool false,.int .i64 z] w fun e w'=>e=.returned (.tuple #[.int .u64 (B:Int),.int .u8 f,.bool ok])∧Below w.heap.size w w') ∧
   (ok=true→f ≠ 0∧f=toF i.lo.m i.lo.e false z∧i.lo.m ≠ 0∧i.hi.m ≠ 0∧B=toB i.lo.m i.lo.e false z∧B=toB i.hi.m i.hi.e false z)∧(ok=false→B=0∧f=0∧rndOk i z=false):=by
 have cr:∀ w u,Iv w u i→Calls Tryz.prog 95 #[u,.int .i64 z] w fun e w'=>e=.returned (.bool (decide (i.lo.m ≠ 0)))∧Below w.heap.size w w':=fun w u h=>Dright_g h e1.sw e2.sw hc z hz e1.sign
 by_cases h0:i.lo.m=0
 ·refine ⟨0,0,false,fun w u h=>Round_nog h z (fun w u h=>?_),nofun,fun _=>⟨rfl,rfl,by simp [rndOk,h0]⟩⟩
  have:=cr w u h
  rwa [decide_eq_false (by simp [h0])] at this
 have h1:=e1.hi0 e2 hc h0
 rw [decide_eq_true h0] at cr
 by_cases hb:breakB i.lo.m i.lo.e=true ∨ breakB i.hi.m i.hi.e=true
 ·exact ⟨0,0,false,fun w u h=>Round_no h z cr (fun w u h=>e1.brk h0 h) (fun w u h=>e2.brk h1 h) (fun _=>hb),nofun,fun _=>⟨rfl,rfl,by rcases hb with h | h <;> simp [rndOk,h]⟩⟩
 have b1:breakB i.lo.m i.lo.e=false:=by cases h:breakB i.lo.m i.lo.e; rfl; exact absurd (.inl h) hb
 have b2:breakB i.hi.m i.hi.e=false:=by cases h:breakB i.hi.m i.hi.e; rfl; exact absurd (.inr h) hb
 have RT:=fun w u (h:Iv w u i)=>Round_two h z cr (fun w u h=>e1.brk h0 h) (fun w u h=>e2.brk h1 h) rfl b1 b2 (fun w u h=>e1.to h0 false z hz h) (fun w u h=>e2.to h1 false z hz h)
 by_cases hq:toB i.lo.m i.lo.e false z=toB i.hi.m i.hi.e false z∧toF i.lo.m i.lo.e false z=toF i.hi.m i.hi.e false z
 ·rw [if_pos hq] at RT
  exact ⟨_,_,true,RT,fun _=>⟨toF_ne (e1.od h0) b1,rfl,h0,h1,rfl,hq.1⟩,nofun⟩
 ·rw [if_neg hq] at RT
  refine ⟨0,0,false,RT,nofun,fun _=>⟨rfl,rfl,?_⟩⟩
  by_cases h2:toB i.lo.m i.lo.e false z=toB i.hi.m i.hi.e false z
  ·have h3:¬ toF i.lo.m i.lo.e false z=toF i.hi.m i.hi.e false z:=fun h=>hq ⟨h2,h⟩
   simp [rndOk,h3]
  ·simp [rndOk,h2]
theorem loose_any {i:In} (e1:EndI i.lo) (e2:EndI i.hi) (hc:CmpD i.lo i.hi≤0) (z:Int) (hz:0≤z∧z≤3) {w:World} {u:Value} (hu:Iv w u i) :
  Calls Tryz.prog 46 #[u,.bool false,.int .i64 z] w fun e w'=>∃ (B f:Int) (o:Bool),e=.returned (.tuple #[.int .u64 B,.int .u8 f,.bool o])∧Go.bits .or .u8 f 1 ≠ 0∧Below w.heap.size w w':=by
 have cr:∀ w u,Iv w u i→Calls Tryz.prog 95 #[u,.int .i64 z] w fun e w'=>e=.returned (.bool (decide (i.lo.m ≠ 0)))∧Below w.heap.size w w':=fun w u h=>Dright_g h e1.sw e2.sw hc z hz e1.sign
 have L:=Loose_g hu z hz cr (B:=toB i.lo.m i.lo.e true z) (C:=toB i.hi.m i.hi.e true z) (f:=toF i.lo.m i.lo.e true z) (k:=toF i.hi.m i.hi.e true z)
  (fun hg w u h=>e1.to (of_decide_eq_true hg) true z hz h) (fun hg w u h=>e2.to (e1.hi0 e2 hc (of_decide_eq_true hg)) true z hz h)
 refine L.mono ?_
 rintro e w' ⟨h1,h2⟩
 rw [h1]
 split
 ·split
  ·exact ⟨_,_,_,rfl,or_ne (toF_vals _ _ _ _),h2⟩
  ·exact ⟨_,_,_,rfl,or_ne (toF_vals _ _ _ _),h2⟩
 ·exact ⟨0,0,false,rfl,by decide,h2⟩
def QE (i:In):Prop:=EndI i.lo∧EndI i.hi∧CmpD i.lo i.hi≤0
end Go.Proofs.YtobpioceopfkpaaGreatDoor
