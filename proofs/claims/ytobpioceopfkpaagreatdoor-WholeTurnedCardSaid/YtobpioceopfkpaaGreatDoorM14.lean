/-
  Lemmas for WholeTurned and WholeGrows and WholeRises, part 14 of 36: what the program's functions do, and plain facts; without conditions.
-/
import Derived.Test.YtobpioceopfkpaaGreatDoorM07
import Derived.Test.YtobpioceopfkpaaGreatDoorM13
import Derived.Test.YtobpioceopfkpaaGreatDoorM11
set_option maxRecDepth 100000
set_option maxHeartbeats 4000000
namespace Go.Proofs.YtobpioceopfkpaaGreatDoor
open Go.RowKit
theorem mz_mul {K K':Int} {A B:Dn} (ha:-K≤A.e) (hb:-K'≤B.e) (g:Bool):mz (K+K') ⟨g,A.m * B.m,A.e+B.e⟩=mz K A * mz K' B:=by
 unfold mz
 simp only
 have e1:(A.e+B.e+(K+K')).toNat=(A.e+K).toNat+(B.e+K').toNat:=by omega
 rw [e1,Nat.pow_add]
 generalize 2^(A.e+K).toNat=p
 generalize 2^(B.e+K').toNat=q
 rw [Nat.mul_assoc,Nat.mul_assoc,Nat.mul_left_comm B.m]
theorem zv_mul {K K':Int} {A B:Dn} (ha:-K≤A.e) (hb:-K'≤B.e):zv (K+K') ⟨A.neg != B.neg,A.m * B.m,A.e+B.e⟩=zv K A * zv K' B:=by
 have h:=mz_mul ha hb (A.neg != B.neg)
 unfold zv
 rw [h,Int.natCast_mul]
 generalize (mz K A:Int)=p
 generalize (mz K' B:Int)=q
 cases A.neg <;> cases B.neg <;> simp [Int.neg_mul,Int.mul_neg]
theorem mz_wid {K:Int} {A:Dn} {low:Int} (hl:-K≤low) (h:low≤A.e) (g:Bool):mz K ⟨g,widN A.m (A.e - low),low⟩=mz K A:=by
 unfold mz widN
 simp only
 by_cases h0:A.e - low≤0
 ·rw [if_pos h0]
  have:A.e=low:=by omega
  rw [this]
 ·rw [if_neg h0]
  have e1:(A.e+K).toNat=(A.e - low).toNat+(low+K).toNat:=by omega
  rw [e1,Nat.pow_add,Nat.mul_assoc]
theorem zv_zero {K:Int} {d:Dn} (h:d.m=0):zv K d=0:=by
 unfold zv; rw [mz_zero.2 h]; simp
theorem zv_add {K:Int} {A B:Dn} (hK:0≤K) (ha:-K≤A.e∧A.e≤2147483648) (hb:-K≤B.e∧B.e≤2147483648) (hK2:K≤2147483648):zv K (addD A B)=zv K A+zv K B:=by
 unfold addD
 by_cases h0:A.m=0
 ·rw [if_pos h0,zv_zero h0,Int.zero_add]
 rw [if_neg h0]
 by_cases h1:B.m=0
 ·rw [if_pos h1,zv_zero h1,Int.add_zero]
 rw [if_neg h1]
 have hl1:min A.e B.e≤A.e:=Int.min_le_left _ _
 have hl2:min A.e B.e≤B.e:=Int.min_le_right _ _
 have hl3:-K≤min A.e B.e:=by omega
 generalize min A.e B.e=low at *
 have wa:=mz_wid hl3 hl1 false
 have wb:=mz_wid hl3 hl2 false
 generalize widN A.m (A.e - low)=p at *
 generalize widN B.m (B.e - low)=q at *
 have hp:(mz K A:Int)=((p * 2^(low+K).toNat:Nat):Int):=by rw [← wa]; rfl
 have hq:(mz K B:Int)=((q * 2^(low+K).toNat:Nat):Int):=by rw [← wb]; rfl
 have hle:-2147483648≤low∧low≤2147483648:=by omega
 have key:∀ g (r:Nat),zv K (bareN ⟨g,r,low⟩)=if g then -((r * 2^(low+K).toNat:Nat):Int) else ((r * 2^(low+K).toNat:Nat):Int):=fun g r=>by
  rw [zv_bareN hK hl3 hle]; rfl
 generalize 2^(low+K).toNat=P at *
 have zA:zv K A=if A.neg then -((p * P:Nat):Int) else ((p * P:Nat):Int):=by unfold zv; rw [hp]
 have zB:zv K B=if B.neg then -((q * P:Nat):Int) else ((q * P:Nat):Int):=by unfold zv; rw [hq]
 rw [zA,zB]
 by_cases hs:A.neg=B.neg
 ·rw [if_pos hs,key,hs,Nat.add_mul]
  cases B.neg <;> simp <;> omega
 ·rw [if_neg hs]
  have hnb:B.neg=!A.neg:=by cases hA:A.neg <;> cases hB:B.neg <;> simp [hA,hB] at hs ⊢
  by_cases hlt:p < q
  ·rw [if_pos hlt,key,hnb,Nat.sub_mul]
   have:p * P≤q * P:=Nat.mul_le_mul_right _ (Nat.le_of_lt hlt)
   cases A.neg <;> simp <;> omega
  ·rw [if_neg hlt,key,hnb,Nat.sub_mul]
   have:q * P≤p * P:=Nat.mul_le_mul_right _ (by omega)
   cases A.neg <;> simp <;> omega
def Zk (K:Int) (d:Dn):Prop:=-K≤d.e∧-2147483648≤d.e∧d.e≤2147483648
theorem CmpD_zk {K:Int} {a b:Dn} (hK:0≤K) (ha:Zk K a) (hb:Zk K b):CmpD a b=cmpI (zv K a) (zv K b):=CmpD_is hK ha.1 hb.1 ha.2 hb.2
theorem cmpI_neg_iff {x y:Int}:cmpI x y < 0 ↔ x < y:=by unfold cmpI; split; omega; split <;> omega
theorem cmpI_pos_iff {x y:Int}:0 < cmpI x y ↔ y < x:=by unfold cmpI; split; omega; split <;> omega
theorem lessD_zk {K:Int} {a b:Dn} (hK:0≤K) (ha:Zk K a) (hb:Zk K b):zv K (lessD a b)≤zv K a∧zv K (lessD a b)≤zv K b∧(lessD a b=a ∨ lessD a b=b):=by
 unfold lessD
 by_cases h:CmpD a b < 0
 ·rw [if_pos h]
  rw [CmpD_zk hK ha hb,cmpI_neg_iff] at h
  exact ⟨Int.le_refl _,by omega,.inl rfl⟩
 ·rw [if_neg h]
  rw [CmpD_zk hK ha hb,cmpI_neg_iff] at h
  exact ⟨by omega,Int.le_refl _,.inr rfl⟩
theorem moreD_zk {K:Int} {a b:Dn} (hK:0≤K) (ha:Zk K a) (hb:Zk K b):zv K a≤zv K (moreD a b)∧zv K b≤zv K (moreD a b)∧(moreD a b=a ∨ moreD a b=b):=by
 unfold moreD
 by_cases h:0 < CmpD a b
 ·rw [if_pos h]
  rw [CmpD_zk hK ha hb,cmpI_pos_iff] at h
  exact ⟨Int.le_refl _,by omega,.inl rfl⟩
 ·rw [if_neg h]
  rw [CmpD_zk hK ha hb,cmpI_pos_iff] at h
  exact ⟨by omega,Int.le_refl _,.inr rfl⟩
theorem lessD_all {P:Dn→Prop} {a b:Dn} (ha:P a) (hb:P b):P (lessD a b):=by unfold lessD; split; exact ha; exact hb
theorem moreD_all {P:Dn→Prop} {a b:Dn} (ha:P a) (hb:P b):P (moreD a b):=by unfold moreD; split; exact ha; exact hb
theorem min4_all {P:Dn→Prop} {a b c d:Dn} (ha:P a) (hb:P b) (hc:P c) (hd:P d):P (min4 a b c d):=lessD_all hd (lessD_all hc (lessD_all hb ha))
theorem max4_all {P:Dn→Prop} {a b c d:Dn} (ha:P a) (hb:P b) (hc:P c) (hd:P d):P (max4 a b c d):=moreD_all hd (moreD_all hc (moreD_all hb ha))
theorem min4_le_max4 {K:Int} {a b c d:Dn} (hK:0≤K) (ha:Zk K a) (hb:Zk K b) (hc:Zk K c) (hd:Zk K d):zv K (min4 a b c d)≤zv K (max4 a b c d):=by
 have l1:=lessD_zk hK hb ha
 have z1:Zk K (lessD b a):=lessD_all hb ha
 have l2:=lessD_zk hK hc z1
 have z2:Zk K (lessD c (lessD b a)):=lessD_all hc z1
 have l3:=lessD_zk hK hd z2
 have m1:=moreD_zk hK hb ha
 have y1:Zk K (moreD b a):=moreD_all hb ha
 have m2:=moreD_zk hK hc y1
 have y2:Zk K (moreD c (moreD b a)):=moreD_all hc y1
 have m3:=moreD_zk hK hd y2
 have e1:min4 a b c d=lessD d (lessD c (lessD b a)):=rfl
 have e2:max4 a b c d=moreD d (moreD c (moreD b a)):=rfl
 rw [e1,e2]
 omega
def Pt (w:World) (v:Value) (lo hi:Nat) (neg:Bool):Prop:=∃ a k c a' k' c',v=.agg #[.slice a k c,.slice a' k' c',.bool neg]∧Dg w (.slice a k c) lo∧Dg w (.slice a' k' c') hi
theorem Pt.below {w w':World} {v:Value} {lo hi:Nat} {n:Bool} (h:Pt w v lo hi n) (hb:Below w.heap.size w w'):Pt w' v lo hi n:=by
 obtain ⟨a,k,c,a',k',c',h1,h2,h3⟩:=h; exact ⟨a,k,c,a',k',c',h1,h2.below hb,h3.below hb⟩
theorem Pt.alloc {w:World} {v:Value} {lo hi:Nat} {n:Bool} (h:Pt w v lo hi n) (o:Obj):Pt (w.alloc o) v lo hi n:=by
 obtain ⟨a,k,c,a',k',c',h1,h2,h3⟩:=h; exact ⟨a,k,c,a',k',c',h1,h2.alloc o,h3.alloc o⟩
theorem Pt.kp {w w':World} {v:Value} {lo hi:Nat} {n:Bool} (h:Pt w v lo hi n) (K:Kp w w'):Pt w' v lo hi n:=by
 obtain ⟨a,k,c,a',k',c',h1,h2,h3⟩:=h; exact ⟨a,k,c,a',k',c',h1,h2.kp K,h3.kp K⟩
theorem Pt.fst {w:World} {a:Option Addr} {k c:Nat} {a':Option Addr} {k' c':Nat} {lo hi:Nat} {n n':Bool} (h:Pt w (.agg #[.slice a k c,.slice a' k' c',.bool n']) lo hi n):Dg w (.slice a k c) lo∧Dg w (.slice a' k' c') hi:=by
 obtain ⟨_,_,_,_,_,_,he,h1,h2⟩:=h
 simp at he
 obtain ⟨⟨rfl,rfl,rfl⟩,⟨rfl,rfl,rfl⟩,rfl⟩:=he
 exact ⟨h1,h2⟩
theorem times_s {w:World} {u:Value} {m:Nat} (h:Rd w u m) {n:Nat} (hn:n < 18446744073709551616) (hb:bl m≤60000):Calls Tryz.prog 138 #[u,.int .u64 (n:Int)] w (RetDgE (m * n) 0 w):=by
 have h1:=times_r h hn
 have hb2:=bl64 hn
 have e1:mulN m n=m * n:=by unfold mulN; rw [if_neg (by omega)]
 have e2:mulE m n=0:=by unfold mulE; split; rfl; rw [if_neg (by omega)]
 rw [e1,e2] at h1
 exact h1
theorem ltimes_r {w:World} {u v:Value} {lo hi:Nat} (hu:Rd w u lo) (hv:Rd w v hi) (n:Int) (k:Nat) (hk:k=n.natAbs) (hn:-1000000000≤n∧n≤1000000000) (h1:bl lo≤60000) (h2:bl hi≤60000) :
  Calls Tryz.prog 154 #[u,v,.int .i64 n] w fun e w'=>∃ r,e=.returned r∧Pt w' r (lo * k) (hi * k) (decide (n < 0))∧Below w.heap.size w w':=by
 obtain ⟨a1,k1,c1,rfl⟩:=hu.form
 obtain ⟨a2,k2,c2,rfl⟩:=hv.form
 have C1:=h_ (fun w (h:Rd w (.slice a1 k1 c1) lo)=>times_s h (n:=k) (by omega) h1)
 have C2:=h_ (fun w (h:Rd w (.slice a2 k2 c2) hi)=>times_s h (n:=k) (by omega) h2)
 have HU:=h_ hu
 have HV:=h_ hv
 generalize lo * k=rl at *
 generalize hi * k=rh at *
 have HN:∃ z:Int,(if n < 0 then IntKind.i64.wrap (-n) else n)=z∧IntKind.u64.wrap z=(k:Int):=by
  refine ⟨_,rfl,?_⟩
  split
  ·rw [IntWalk.i64_in _ (by omega),IntKind.wrap_u64]; omega
  ·rw [IntKind.wrap_u64]; omega
 obtain ⟨z,hz,hzk⟩:=HN
 have HZ:=h_ hz
 generalize hd:decide (n < 0)=d at *
 have HD:=h_ hd
 clear hu hv h1 h2 hk hn hz
 cases d
 case true =>
  have hq:IntKind.i64.wrap (-n)=z:=by rw [← HZ.out,if_pos (of_decide_eq_true hd)]
  clear HZ HD
  go_enter Tryz.func154,Tryz.ntmps154
  have F0:=h_ (Fx.two w 212 #[.slice none 0 0,.slice none 0 0,.bool false] 212 #[.slice none 0 0,.slice none 0 0,.bool true] rfl rfl)
  have X0:=h_ ((HU.out.alloc (.cells #[.slice none 0 0,.slice none 0 0,.bool false] 212)).alloc (.cells #[.slice none 0 0,.slice none 0 0,.bool true] 212))
  have Y0:=h_ ((HV.out.alloc (.cells #[.slice none 0 0,.slice none 0 0,.bool false] 212)).alloc (.cells #[.slice none 0 0,.slice none 0 0,.bool true] 212))
  clear HU HV
  go_wp2_with fail
  generalize World.alloc (World.alloc _ _) _=w0 at F0 X0 Y0 ⊢
  have c0_0:=F0.out.c3 0 rfl
  have c1_0:=F0.out.c3 1 rfl
  clear c0_0 c1_0
  refine (C1.out _ X0.out).mono ?_
  rintro q w1 ⟨u,rfl,hu,hb⟩
  have F1:=h_ (F0.out.call hb)
  have X1:=h_ (X0.out.below hb)
  have Y1:=h_ (Y0.out.below hb)
  clear F0 X0 Y0
  have U1:=h_ (hu)
  clear hb
  have c0_1:=F1.out.c3 0 rfl
  have c1_1:=F1.out.c3 1 rfl
  clear X1
  obtain ⟨a3,k3,c3,rfl⟩:=U1.out.form
  go_upto_region 5 with (fail)
  clear c0_1 c1_1
  obtain ⟨f,p⟩:=F1.out.s3_0 1 rfl (.slice a3 k3 c3) rfl
  generalize (World.setCell _ _ _)=W at f p ⊢
  have F2:=h_ (f)
  have Y2:=h_ (Y1.out.kp p)
  have U2:=h_ (U1.out.kp p)
  clear F1 Y1 U1
  clear f p
  simp only [List.set_cons_zero,List.set_cons_succ] at F2
  have c0_2:=F2.out.c3 0 rfl
  have c1_2:=F2.out.c3 1 rfl
  go_wp2_with fail
  clear c0_2 c1_2
  refine (C2.out _ Y2.out).mono ?_
  rintro q w3 ⟨u,rfl,hu,hb⟩
  have F3:=h_ (F2.out.call hb)
  have Y3:=h_ (Y2.out.below hb)
  have U3:=h_ (U2.out.below hb)
  clear F2 Y2 U2
  have V3:=h_ (hu)
  clear hb
  have c0_3:=F3.out.c3 0 rfl
  have c1_3:=F3.out.c3 1 rfl
  clear Y3
  obtain ⟨a4,k4,c4,rfl⟩:=V3.out.form
  go_upto_region 6 with (fail)
  clear c0_3 c1_3
  obtain ⟨f,p⟩:=F3.out.s3_1 1 rfl (.slice a4 k4 c4) rfl
  generalize (World.setCell _ _ _)=W at f p ⊢
  have F4:=h_ (f)
  have U4:=h_ (U3.out.kp p)
  have V4:=h_ (V3.out.kp p)
  clear F3 U3 V3
  clear f p
  simp only [List.set_cons_zero,List.set_cons_succ] at F4
  have c0_4:=F4.out.c3 0 rfl
  have c1_4:=F4.out.c3 1 rfl
  go_wp2
  obtain ⟨f0,p0⟩:=F4.out.s3 0 rfl (.slice a3 k3 c3) (.slice a4 k4 c4) (.bool true) rfl rfl rfl
  have p:=p0
  have f:=f0
  clear f0 p0
  generalize (World.setCell (World.setCell (World.setCell _ _ _) _ _) _ _)=W at f p ⊢
  have g0:=f.c3 0 rfl
  refine bodyPost_ret (v:=.agg #[.slice a3 k3 c3,.slice a4 k4 c4,.bool true]) (by simp [results,Tryz.results154,go_sem,g0]) rfl ?_
  exact ⟨_,rfl,⟨_,_,_,_,_,_,rfl,U4.out.kp p,V4.out.kp p⟩,f.b⟩
 case false =>
  obtain rfl:n=z:=by rw [← HZ.out,if_neg (of_decide_eq_false hd)]
  clear HZ HD
  go_enter Tryz.func154,Tryz.ntmps154
  have F0:=h_ (Fx.two w 212 #[.slice none 0 0,.slice none 0 0,.bool false] 212 #[.slice none 0 0,.slice none 0 0,.bool false] rfl rfl)
  have X0:=h_ ((HU.out.alloc (.cells #[.slice none 0 0,.slice none 0 0,.bool false] 212)).alloc (.cells #[.slice none 0 0,.slice none 0 0,.bool false] 212))
  have Y0:=h_ ((HV.out.alloc (.cells #[.slice none 0 0,.slice none 0 0,.bool false] 212)).alloc (.cells #[.slice none 0 0,.slice none 0 0,.bool false] 212))
  clear HU HV
  go_wp2_with fail
  generalize World.alloc (World.alloc _ _) _=w0 at F0 X0 Y0 ⊢
  have c0_0:=F0.out.c3 0 rfl
  have c1_0:=F0.out.c3 1 rfl
  clear c0_0 c1_0
  refine (C1.out _ X0.out).mono ?_
  rintro q w1 ⟨u,rfl,hu,hb⟩
  have F1:=h_ (F0.out.call hb)
  have X1:=h_ (X0.out.below hb)
  have Y1:=h_ (Y0.out.below hb)
  clear F0 X0 Y0
  have U1:=h_ (hu)
  clear hb
  have c0_1:=F1.out.c3 0 rfl
  have c1_1:=F1.out.c3 1 rfl
  clear X1
  obtain ⟨a3,k3,c3,rfl⟩:=U1.out.form
  go_upto_region 5 with (fail)
  clear c0_1 c1_1
  obtain ⟨f,p⟩:=F1.out.s3_0 1 rfl (.slice a3 k3 c3) rfl
  generalize (World.setCell _ _ _)=W at f p ⊢
  have F2:=h_ (f)
  have Y2:=h_ (Y1.out.kp p)
  have U2:=h_ (U1.out.kp p)
  clear F1 Y1 U1
  clear f p
  simp only [List.set_cons_zero,List.set_cons_succ] at F2
  have c0_2:=F2.out.c3 0 rfl
  have c1_2:=F2.out.c3 1 rfl
  go_wp2_with fail
  clear c0_2 c1_2
  refine (C2.out _ Y2.out).mono ?_
  rintro q w3 ⟨u,rfl,hu,hb⟩
  have F3:=h_ (F2.out.call hb)
  have Y3:=h_ (Y2.out.below hb)
  have U3:=h_ (U2.out.below hb)
  clear F2 Y2 U2
  have V3:=h_ (hu)
  clear hb
  have c0_3:=F3.out.c3 0 rfl
  have c1_3:=F3.out.c3 1 rfl
  clear Y3
  obtain ⟨a4,k4,c4,rfl⟩:=V3.out.form
  go_upto_region 6 with (fail)
  clear c0_3 c1_3
  obtain ⟨f,p⟩:=F3.out.s3_1 1 rfl (.slice a4 k4 c4) rfl
  generalize (World.setCell _ _ _)=W at f p ⊢
  have F4:=h_ (f)
  have U4:=h_ (U3.out.kp p)
  have V4:=h_ (V3.out.kp p)
  clear F3 U3 V3
  clear f p
  simp only [List.set_cons_zero,List.set_cons_succ] at F4
  have c0_4:=F4.out.c3 0 rfl
  have c1_4:=F4.out.c3 1 rfl
  go_wp2
  obtain ⟨f0,p0⟩:=F4.out.s3 0 rfl (.slice a3 k3 c3) (.slice a4 k4 c4) (.bool false) rfl rfl rfl
  have p:=p0
  have f:=f0
  clear f0 p0
  generalize (World.setCell (World.setCell (World.setCell _ _ _) _ _) _ _)=W at f p ⊢
  have g0:=f.c3 0 rfl
  refine bodyPost_ret (v:=.agg #[.slice a3 k3 c3,.slice a4 k4 c4,.bool false]) (by simp [results,Tryz.results154,go_sem,g0]) rfl ?_
  exact ⟨_,rfl,⟨_,_,_,_,_,_,rfl,U4.out.kp p,V4.out.kp p⟩,f.b⟩
theorem ends_r {w:World} {u:Value} {lo hi:Nat} {neg:Bool} (hu:Pt w u lo hi neg) (s e:Int) (hs:s=-e) (he:-100000≤e∧e≤100000) (h1:bl lo≤30000) (h2:bl hi≤30000) :
  Calls Tryz.prog 156 #[u,.int .i64 s] w (RetI (withinN lo hi e neg) w):=by
 obtain ⟨a1,k1,c1,a2,k2,c2,rfl,hx,hy⟩:=hu
 have HX:=h_ (hx.rd (by omega))
 have HY:=h_ (hy.rd (by omega))
 have CW:=h_ (fun w (h:Rd w (.slice a1 k1 c1) lo) (k:Rd w (.slice a2 k2 c2) hi)=>Within_r h k neg s e hs he h1 h2)
 generalize withinN lo hi e neg=I at *
 obtain ⟨⟨an,am,ae⟩,⟨bn,bm,be⟩⟩:=I
 clear hx hy hs he h1 h2
 go_enter Tryz.func156,Tryz.ntmps156
 have F0:=h_ (Fx.two w 212 #[.slice a1 k1 c1,.slice a2 k2 c2,.bool neg] 92 #[.bool false,.slice none 0 0,.int .i64 0,.bool false,.slice none 0 0,.int .i64 0] rfl rfl)
 have X0:=h_ ((HX.out.alloc (.cells #[.slice a1 k1 c1,.slice a2 k2 c2,.bool neg] 212)).alloc (.cells #[.bool false,.slice none 0 0,.int .i64 0,.bool false,.slice none 0 0,.int .i64 0] 92))
 have Y0:=h_ ((HY.out.alloc (.cells #[.slice a1 k1 c1,.slice a2 k2 c2,.bool neg] 212)).alloc (.cells #[.bool false,.slice none 0 0,.int .i64 0,.bool false,.slice none 0 0,.int .i64 0] 92))
 clear HX HY
 go_upto_region 1 with (fail)
 generalize World.alloc (World.alloc _ _) _=w0 at F0 X0 Y0 ⊢
 have c0_0:=F0.out.c3 0 rfl
 have c1_0:=F0.out.c6 1 rfl
 go_wp2_with fail
 clear c0_0 c1_0
 refine (CW.out _ X0.out Y0.out).mono ?_
 rintro q w1 ⟨u,rfl,hu,hb⟩
 have F1:=h_ (F0.out.call hb)
 have X1:=h_ (X0.out.below hb)
 have Y1:=h_ (Y0.out.below hb)
 clear F0 X0 Y0
 have I1:=h_ (hu)
 clear hb
 have c0_1:=F1.out.c3 0 rfl
 have c1_1:=F1.out.c6 1 rfl
 obtain ⟨a3,k3,c3,a4,k4,c4,rfl,h1,h2⟩:=I1.out.fm
 clear h1 h2
 go_wp2
 obtain ⟨f0,p0⟩:=F1.out.s6 1 rfl (.bool an) (.slice a3 k3 c3) (.int .i64 ae) (.bool bn) (.slice a4 k4 c4) (.int .i64 be) rfl rfl rfl rfl rfl rfl
 have p:=p0
 have f:=f0
 clear f0 p0
 generalize (World.setCell (World.setCell (World.setCell (World.setCell (World.setCell (World.setCell _ _ _) _ _) _ _) _ _) _ _) _ _)=W at f p ⊢
 have g1:=f.c6 1 rfl
 refine bodyPost_ret (v:=.agg #[.bool an,.slice a3 k3 c3,.int .i64 ae,.bool bn,.slice a4 k4 c4,.int .i64 be]) (by simp [results,Tryz.results156,go_sem,g1]) rfl ?_
 exact ⟨_,rfl,I1.out.kp p,f.b⟩
theorem Ln2_r {w:World} (t:Tab w) (s:Nat) (hs:8≤s∧s≤9000) (h1:bl (atanhP 1 3 s).lo≤6000000) (h2:bl (atanhP 1 3 s).hi≤6000000) :
  Calls Tryz.prog 155 #[.int .i64 (s:Int)] w fun e w'=>∃ x y,e=.returned (.tuple #[x,y,.int .i64 0])∧Dg w' x ((atanhP 1 3 s).lo+(atanhP 1 3 s).lo)∧Dg w' y ((atanhP 1 3 s).hi+(atanhP 1 3 s).hi)∧Below w.heap.size w w':=by
 have CA:=h_ (fun w u v (h:Rd w u 1) (k:Rd w v 3)=>Atanh_r h k s hs (by decide) (by decide) (by decide))
 generalize (atanhP 1 3 s).lo=lo at *
 generalize (atanhP 1 3 s).hi=hi at *
 have HT:=h_ t
 clear hs t
 go_enter Tryz.func155,Tryz.ntmps155
 have F0:=h_ (Fx.nil w)
 go_wp2_with fail
 refine (of_any (n:=1) (by decide) HT.out).mono ?_
 rintro q w1 ⟨u,rfl,hu,hb⟩
 have F1:=h_ (F0.out.call hb)
 clear F0
 have U1:=h_ (hu)
 clear hb
 obtain ⟨a3,k3,c3,rfl⟩:=U1.out.form
 go_wp2_with fail
 refine (of_any (n:=3) (by decide) U1.out.tab).mono ?_
 rintro q w2 ⟨u,rfl,hu,hb⟩
 have F2:=h_ (F1.out.call hb)
 have U2:=h_ (U1.out.below hb)
 clear F1 U1
 have V2:=h_ (hu)
 clear hb
 obtain ⟨a4,k4,c4,rfl⟩:=V2.out.form
 go_wp2_with fail
 refine (CA.out _ _ _ (U2.out.rd (by decide)) (V2.out.rd (by decide))).mono ?_
 rintro q w3 ⟨u,v,rfl,hx,hy,hb⟩
 have F3:=h_ (F2.out.call hb)
 have U3:=h_ (U2.out.below hb)
 have V3:=h_ (V2.out.below hb)
 clear F2 U2 V2
 have X3:=h_ (hx)
 have Y3:=h_ (hy)
 clear hb
 clear U3 V3
 obtain ⟨a5,k5,c5,rfl⟩:=X3.out.form
 obtain ⟨a6,k6,c6,rfl⟩:=Y3.out.form
 go_wp2_with fail
 refine (add_r (X3.out.rd h1) (X3.out.rd h1)).mono ?_
 rintro q w4 ⟨u,rfl,hu,hb⟩
 have F4:=h_ (F3.out.call hb)
 have X4:=h_ (X3.out.below hb)
 have Y4:=h_ (Y3.out.below hb)
 clear F3 X3 Y3
 have P4:=h_ (hu)
 clear hb
 obtain ⟨a7,k7,c7,rfl⟩:=P4.out.form
 go_wp2_with fail
 refine (add_r (Y4.out.rd h2) (Y4.out.rd h2)).mono ?_
 rintro q w5 ⟨u,rfl,hu,hb⟩
 have F5:=h_ (F4.out.call hb)
 have X5:=h_ (X4.out.below hb)
 have Y5:=h_ (Y4.out.below hb)
 have P5:=h_ (P4.out.below hb)
 clear F4 X4 Y4 P4
 have Q5:=h_ (hu)
 clear hb
 obtain ⟨a8,k8,c8,rfl⟩:=Q5.out.form
 go_wp2
 refine bodyPost_ret (v:=.tuple #[.slice a7 k7 c7,.slice a8 k8 c8,.int .i64 0]) (by simp [results,Tryz.results155,go_sem]) rfl ?_
 exact ⟨_,_,rfl,P5.out,Q5.out,F5.out.b⟩
def nearC (m:Nat):Bool:=decide (2^(bl m - 1)+(2^(bl m - 1)+2^(bl m - 1))≤m+m)
def nearO (m:Nat):Nat:=if nearC m then 2^(bl m - 1)+2^(bl m - 1) else 2^(bl m - 1)
def nearE (m:Nat) (t:Int):Int:=if nearC m then t+1 else t
def RetN (m:Nat) (t:Int) (w:World) (e:Ending) (w':World):Prop:=∃ x y,e=.returned (.tuple #[x,y,.bool (decide (m < nearO m)),.int .i64 (nearE m t),.bool true]) ∧
 Dg w' x (if m < nearO m then nearO m - m else m - nearO m)∧Dg w' y (m+nearO m)∧Below w.heap.size w w'
theorem cmpN_nonneg {m n:Nat}:0≤cmpN m n ↔ n≤m:=by unfold cmpN; split; omega; split <;> omega
theorem Near_r {w:World} {u:Value} {d:Dn} (hu:Ry w u d) (sd:Sd d) (hn:(bareN d).neg=false) (h0:(bareN d).m ≠ 0) (hb:bl (bareN d).m≤60) :
  Calls Tryz.prog 152 #[u] w (RetN (bareN d).m (topN (bareN d)) w):=by
 have CA:=h_ (fun w (h:Ry w u d)=>Bare_s h sd)
 obtain ⟨a1,k1,c1,rfl⟩:=hu.form
 have bd:=sd.bare
 have tb:=topN_le bd
 have CT:=h_ (fun w u (h:Cy w u (bareN d))=>Top_d h.ry)
 have CS:=h_ (fun w u (h:Cy w u (bareN d))=>Sign_d h.ry)
 generalize topN (bareN d)=t at *
 generalize bareN d=D at *
 obtain ⟨n,m,e⟩:=D
 simp only at hn h0 hb CT CS bd
 subst hn
 have hs:signN ⟨false,m,e⟩=1:=by unfold signN; rw [if_neg h0]; rfl
 rw [hs] at CS
 have hpos:=bl_pos h0
 obtain ⟨b,hbb⟩:∃ b,b=bl m - 1:=⟨_,rfl⟩
 obtain ⟨lm,hlm⟩:∃ l,l=bl m:=⟨_,rfl⟩
 have q1:IntKind.i64.wrap ((lm:Int) - 1)=(b:Int):=by rw [IntWalk.i64_in _ (by omega)]; omega
 have t1:decide (4000 < (lm:Int))=false:=decide_eq_false (by omega)
 have hz:decide (m=0)=false:=decide_eq_false h0
 have C0:=h_ (fun w u (h:Dg w u m)=>bits_r (h.rd (by omega)))
 have CR:Hid (RetN m t w=fun e w'=>∃ x y,e=.returned (.tuple #[x,y,.bool (decide (m < nearO m)),.int .i64 (nearE m t),.bool true])∧Dg w' x (if m < nearO m then nearO m - m else m - nearO m)∧Dg w' y (m+nearO m)∧Below w.heap.size w w'):=rfl
 have hc:nearC m=decide (2^b+(2^b+2^b)≤m+m):=by rw [hbb]; rfl
 have ho:nearO m=if nearC m then 2^b+2^b else 2^b:=by rw [hbb]; rfl
 have he:nearE m t=if nearC m then t+1 else t:=rfl
 have hp:2^b≤2^60:=Nat.pow_le_pow_right (by decide) (by omega)
 have hm:m < 2^60:=Nat.lt_of_lt_of_le (lt_bl m) (Nat.pow_le_pow_right (by decide) hb)
 have CH:=h_ (fun w u (h:Dg w u 1)=>shl_s (h.rd (by decide)) b (by have:bl 1=1:=rfl; omega))
 rw [Nat.one_mul] at CH
 rw [← hlm] at C0
 rw [CR.out]
 clear CR
 generalize RetN m t w=RR at *
 generalize nearE m t=E at *
 generalize nearO m=o at *
 generalize nearC m=cc at *
 generalize 2^b=one at *
 have BB:Hid (∀ x,x≤8000000000000000000→bl x≤6000000):=fun x hx=>Nat.le_trans (bl64 (by omega)) (by decide)
 have CN:=h_ (fun w u v (h:Rd w u (m+m)) (k:Rd w v (one+(one+one)))=>cmp_r h k)
 have CG:=h_ (cmpN_nonneg (m:=m+m) (n:=one+(one+one)))
 have HP:=h_ (And.intro hp hm)
 generalize cmpN (m+m) (one+(one+one))=c at *
 have q2:IntKind.i64.wrap (t+1)=t+1:=IntWalk.i64_in _ (by omega)
 obtain ⟨tb1,tb2⟩:=tb
 have t2:decide (t < -1048576)=false:=decide_eq_false (by omega)
 have t3:decide (1048576 < t)=false:=decide_eq_false (by omega)
 have HC:=h_ hc
 have HO:=h_ ho
 have HEE:=h_ he
 obtain ⟨mm,hmm⟩:∃ x,x=if m < o then o - m else m - o:=⟨_,rfl⟩
 obtain ⟨dd,hdd⟩:∃ x,x=decide (m < o):=⟨_,rfl⟩
 rw [← hmm,← hdd]
 have HMM:=h_ hmm
 have HDD:=h_ hdd
 clear hmm hdd
 clear hbb hlm hpos hb h0 bd sd hc ho he hp hm hs tb1 tb2
 go_enter Tryz.func152,Tryz.ntmps152
 have F0:=h_ (Fx.one w 42 #[.bool d.neg,.slice a1 k1 c1,.int .i64 d.e] rfl)
 have X0:=h_ (hu.alloc (.cells #[.bool d.neg,.slice a1 k1 c1,.int .i64 d.e] 42))
 clear hu
 go_upto_region 1 with (fail)
 generalize World.alloc _ _=w0 at F0 X0 ⊢
 have c0_0:=F0.out.c3 0 rfl
 go_wp2_with fail
 clear c0_0
 refine (CA.out _ X0.out).mono ?_
 rintro q w1 ⟨u,rfl,hu,hb⟩
 have F1:=h_ (F0.out.call hb)
 have X1:=h_ (X0.out.below hb)
 clear F0 X0
 have U1:=h_ (hu)
 clear hb
 have c0_1:=F1.out.c3 0 rfl
 clear X1
 obtain ⟨a3,k3,c3,rfl⟩:=U1.out.fm
 go_upto_region 2 with (fail)
 clear c0_1
 obtain ⟨f,p⟩:=F1.out.s3 0 rfl (.bool false) (.slice a3 k3 c3) (.int .i64 e) rfl rfl rfl
 generalize (World.setCell (World.setCell (World.setCell _ _ _) _ _) _ _)=W at f p ⊢
 have F2:=h_ (f)
 have U2:=h_ (U1.out.kp p)
 clear F1 U1
 clear f p
 simp only [List.set_cons_zero] at F2
 have c0_2:=F2.out.c3 0 rfl
 go_wp2_with fail
 clear c0_2
 refine (CT.out _ _ U2.out).mono ?_
 rintro q w3 ⟨rfl,hb⟩
 have F3:=h_ (F2.out.call hb)
 have U3:=h_ (U2.out.below hb)
 clear F2 U2
 clear hb
 have c0_3:=F3.out.c3 0 rfl
 go_wp2_with fail
 clear c0_3
 refine (CS.out _ _ U3.out).mono ?_
 rintro q w4 ⟨rfl,hb⟩
 have F4:=h_ (F3.out.call hb)
 have U4:=h_ (U3.out.below hb)
 clear F3 U3
 clear hb
 have c0_4:=F4.out.c3 0 rfl
 go_wp2_with fail
 clear c0_4
 refine (C0.out _ _ U4.out.dm).mono ?_
 rintro q w5 ⟨rfl,hb⟩
 have F5:=h_ (F4.out.call hb)
 have U5:=h_ (U4.out.below hb)
 clear F4 U4
 clear hb
 have c0_5:=F5.out.c3 0 rfl
 go_wp2_with fail
 clear c0_5
 refine (C0.out _ _ U5.out.dm).mono ?_
 rintro q w6 ⟨rfl,hb⟩
 have F6:=h_ (F5.out.call hb)
 have U6:=h_ (U5.out.below hb)
 clear F5 U5
 clear hb
 have c0_6:=F6.out.c3 0 rfl
 go_wp2_with fail
 clear c0_6
 refine (of_any (n:=1) (by decide) U6.out.tab).mono ?_
 rintro q w7 ⟨u,rfl,hu,hb⟩
 have F7:=h_ (F6.out.call hb)
 have U7:=h_ (U6.out.below hb)
 clear F6 U6
 have O7:=h_ (hu)
 clear hb
 have c0_7:=F7.out.c3 0 rfl
 obtain ⟨a4,k4,c4,rfl⟩:=O7.out.form
 go_wp2_with fail
 clear c0_7
 refine (CH.out _ _ O7.out).mono ?_
 rintro q w8 ⟨u,rfl,hu,hb⟩
 have F8:=h_ (F7.out.call hb)
 have U8:=h_ (U7.out.below hb)
 have O8:=h_ (O7.out.below hb)
 clear F7 U7 O7
 have P8:=h_ (hu)
 clear hb
 have c0_8:=F8.out.c3 0 rfl
 clear O8
 obtain ⟨a5,k5,c5,rfl⟩:=P8.out.form
 go_wp2_with fail
 clear c0_8
 refine (add_r (U8.out.dm.rd (BB.out _ (by have:=HP.out; omega))) (U8.out.dm.rd (BB.out _ (by have:=HP.out; omega)))).mono ?_
 rintro q w9 ⟨u,rfl,hu,hb⟩
 have F9:=h_ (F8.out.call hb)
 have U9:=h_ (U8.out.below hb)
 have P9:=h_ (P8.out.below hb)
 clear F8 U8 P8
 have A9:=h_ (hu)
 clear hb
 have c0_9:=F9.out.c3 0 rfl
 obtain ⟨a6,k6,c6,rfl⟩:=A9.out.form
 go_wp2_with fail
 clear c0_9
 refine (add_r (P9.out.rd (BB.out _ (by have:=HP.out; omega))) (P9.out.rd (BB.out _ (by have:=HP.out; omega)))).mono ?_
 rintro q w10 ⟨u,rfl,hu,hb⟩
 have F10:=h_ (F9.out.call hb)
 have U10:=h_ (U9.out.below hb)
 have P10:=h_ (P9.out.below hb)
 have A10:=h_ (A9.out.below hb)
 clear F9 U9 P9 A9
 have B10:=h_ (hu)
 clear hb
 have c0_10:=F10.out.c3 0 rfl
 obtain ⟨a7,k7,c7,rfl⟩:=B10.out.form
 go_wp2_with fail
 clear c0_10
 refine (add_r (P10.out.rd (BB.out _ (by have:=HP.out; omega))) (B10.out.rd (BB.out _ (by have:=HP.out; omega)))).mono ?_
 rintro q w11 ⟨u,rfl,hu,hb⟩
 have F11:=h_ (F10.out.call hb)
 have U11:=h_ (U10.out.below hb)
 have P11:=h_ (P10.out.below hb)
 have A11:=h_ (A10.out.below hb)
 have B11:=h_ (B10.out.below hb)
 clear F10 U10 P10 A10 B10
 have C11:=h_ (hu)
 clear hb
 have c0_11:=F11.out.c3 0 rfl
 obtain ⟨a8,k8,c8,rfl⟩:=C11.out.form
 go_wp2_with fail
 clear c0_11
 refine (CN.out _ _ _ (A11.out.rd (BB.out _ (by have:=HP.out; omega))) (C11.out.rd (BB.out _ (by have:=HP.out; omega)))).mono ?_
 rintro q w12 ⟨rfl,hb⟩
 have F12:=h_ (F11.out.call hb)
 have U12:=h_ (U11.out.below hb)
 have P12:=h_ (P11.out.below hb)
 have A12:=h_ (A11.out.below hb)
 have B12:=h_ (B11.out.below hb)
 have C12:=h_ (C11.out.below hb)
 clear F11 U11 P11 A11 B11 C11
 clear hb
 have c0_12:=F12.out.c3 0 rfl
 clear A12 B12 C12
 by_cases h0:0≤c
 ·have z1:decide (0≤c)=true:=decide_eq_true h0
  have hcc:cc=true:=by rw [HC.out]; exact decide_eq_true (CG.out.1 h0)
  have HO':Hid (o=one+one):=HO.out.trans (by rw [hcc]; rfl)
  have HE':Hid (E=t+1):=HEE.out.trans (by rw [hcc]; rfl)
  clear hcc h0
  go_wp2_with fail
  clear c0_12
  refine (add_r (P12.out.rd (BB.out _ (by have:=HP.out; omega))) (P12.out.rd (BB.out _ (by have:=HP.out; omega)))).mono ?_
  rintro q w13 ⟨u,rfl,hu,hb⟩
  have F13:=h_ (F12.out.call hb)
  have U13:=h_ (U12.out.below hb)
  have P13:=h_ (P12.out.below hb)
  clear F12 U12 P12
  have Q13:=h_ (hu)
  clear hb
  have c0_13:=F13.out.c3 0 rfl
  obtain ⟨a9,k9,c9,rfl⟩:=Q13.out.form
  go_wp2_with fail
  clear c0_13
  refine (add_r (U13.out.dm.rd (BB.out _ (by have:=HP.out; omega))) (Q13.out.rd (BB.out _ (by have:=HP.out; omega)))).mono ?_
  rintro q w14 ⟨u,rfl,hu,hb⟩
  have F14:=h_ (F13.out.call hb)
  have U14:=h_ (U13.out.below hb)
  have P14:=h_ (P13.out.below hb)
  have Q14:=h_ (Q13.out.below hb)
  clear F13 U13 P13 Q13
  have D14:=h_ (hu)
  clear hb
  have c0_14:=F14.out.c3 0 rfl
  obtain ⟨b3,e3,d3,rfl⟩:=D14.out.form
  go_wp2_with fail
  clear c0_14
  refine (sub_r (U14.out.dm.rd (BB.out _ (by have:=HP.out; omega))) (Q14.out.rd (BB.out _ (by have:=HP.out; omega)))).mono ?_
  rintro q w15 ⟨u,rfl,hu,hb⟩
  have F15:=h_ (F14.out.call hb)
  have U15:=h_ (U14.out.below hb)
  have P15:=h_ (P14.out.below hb)
  have Q15:=h_ (Q14.out.below hb)
  have D15:=h_ (D14.out.below hb)
  clear F14 U14 P14 Q14 D14
  have N15:=h_ (hu)
  clear hb
  have c0_15:=F15.out.c3 0 rfl
  obtain ⟨b4,e4,d4,rfl⟩:=N15.out.form
  by_cases hlt:m < (one+one)
  ·have hsub:subE m (one+one)=1:=by unfold subE; rw [if_pos hlt]
   rw [hsub]
   have HLT:=h_ hlt
   clear hsub hlt
   go_wp2_with fail
   clear c0_15
   refine (sub_r (Q15.out.rd (BB.out _ (by have:=HP.out; omega))) (U15.out.dm.rd (BB.out _ (by have:=HP.out; omega)))).mono ?_
   rintro q w16 ⟨u,rfl,hu,hb⟩
   have F16:=h_ (F15.out.call hb)
   have U16:=h_ (U15.out.below hb)
   have P16:=h_ (P15.out.below hb)
   have Q16:=h_ (Q15.out.below hb)
   have D16:=h_ (D15.out.below hb)
   have N16:=h_ (N15.out.below hb)
   clear F15 U15 P15 Q15 D15 N15
   have M16:=h_ (hu)
   clear hb
   have c0_16:=F16.out.c3 0 rfl
   obtain ⟨b5,e5,d5,rfl⟩:=M16.out.form
   go_wp2
   refine bodyPost_ret (v:=.tuple #[.slice b5 e5 d5,.slice b3 e3 d3,.bool true,.int .i64 (t+1),.bool true]) (by simp [results,Tryz.results152,go_sem]) rfl ?_
   rw [HMM.out,HDD.out,HO'.out,HE'.out,if_pos HLT.out,decide_eq_true HLT.out]
   exact ⟨_,_,rfl,M16.out,D16.out,F16.out.b⟩
  ·have hsub:subE m (one+one)=0:=by unfold subE; rw [if_neg hlt]
   rw [hsub]
   have HLT:=h_ hlt
   clear hsub hlt
   go_wp2
   refine bodyPost_ret (v:=.tuple #[.slice b4 e4 d4,.slice b3 e3 d3,.bool false,.int .i64 (t+1),.bool true]) (by simp [results,Tryz.results152,go_sem]) rfl ?_
   rw [HMM.out,HDD.out,HO'.out,HE'.out,if_neg HLT.out,decide_eq_false HLT.out]
   exact ⟨_,_,rfl,N15.out,D15.out,F15.out.b⟩
 ·have z1:decide (0≤c)=false:=decide_eq_false h0
  have hcc:cc=false:=by rw [HC.out]; exact decide_eq_false (fun h=>h0 (CG.out.2 h))
  have HO':Hid (o=one):=HO.out.trans (by rw [hcc]; rfl)
  have HE':Hid (E=t):=HEE.out.trans (by rw [hcc]; rfl)
  clear hcc h0
  go_wp2_with fail
  clear c0_12
  refine (add_r (U12.out.dm.rd (BB.out _ (by have:=HP.out; omega))) (P12.out.rd (BB.out _ (by have:=HP.out; omega)))).mono ?_
  rintro q w13 ⟨u,rfl,hu,hb⟩
  have F13:=h_ (F12.out.call hb)
  have U13:=h_ (U12.out.below hb)
  have P13:=h_ (P12.out.below hb)
  clear F12 U12 P12
  have D13:=h_ (hu)
  clear hb
  have c0_13:=F13.out.c3 0 rfl
  obtain ⟨b3,e3,d3,rfl⟩:=D13.out.form
  go_wp2_with fail
  clear c0_13
  refine (sub_r (U13.out.dm.rd (BB.out _ (by have:=HP.out; omega))) (P13.out.rd (BB.out _ (by have:=HP.out; omega)))).mono ?_
  rintro q w14 ⟨u,rfl,hu,hb⟩
  have F14:=h_ (F13.out.call hb)
  have U14:=h_ (U13.out.below hb)
  have P14:=h_ (P13.out.below hb)
  have D14:=h_ (D13.out.below hb)
  clear F13 U13 P13 D13
  have N14:=h_ (hu)
  clear hb
  have c0_14:=F14.out.c3 0 rfl
  obtain ⟨b4,e4,d4,rfl⟩:=N14.out.form
  by_cases hlt:m < one
  ·have hsub:subE m one=1:=by unfold subE; rw [if_pos hlt]
   rw [hsub]
   have HLT:=h_ hlt
   clear hsub hlt
   go_wp2_with fail
   clear c0_14
   refine (sub_r (P14.out.rd (BB.out _ (by have:=HP.out; omega))) (U14.out.dm.rd (BB.out _ (by have:=HP.out; omega)))).mono ?_
   rintro q w15 ⟨u,rfl,hu,hb⟩
   have F15:=h_ (F14.out.call hb)
   have U15:=h_ (U14.out.below hb)
   have P15:=h_ (P14.out.below hb)
   have D15:=h_ (D14.out.below hb)
   have N15:=h_ (N14.out.below hb)
   clear F14 U14 P14 D14 N14
   have M15:=h_ (hu)
   clear hb
   have c0_15:=F15.out.c3 0 rfl
   obtain ⟨b5,e5,d5,rfl⟩:=M15.out.form
   go_wp2
   refine bodyPost_ret (v:=.tuple #[.slice b5 e5 d5,.slice b3 e3 d3,.bool true,.int .i64 (t),.bool true]) (by simp [results,Tryz.results152,go_sem]) rfl ?_
   rw [HMM.out,HDD.out,HO'.out,HE'.out,if_pos HLT.out,decide_eq_true HLT.out]
   exact ⟨_,_,rfl,M15.out,D15.out,F15.out.b⟩
  ·have hsub:subE m one=0:=by unfold subE; rw [if_neg hlt]
   rw [hsub]
   have HLT:=h_ hlt
   clear hsub hlt
   go_wp2
   refine bodyPost_ret (v:=.tuple #[.slice b4 e4 d4,.slice b3 e3 d3,.bool false,.int .i64 (t),.bool true]) (by simp [results,Tryz.results152,go_sem]) rfl ?_
   rw [HMM.out,HDD.out,HO'.out,HE'.out,if_neg HLT.out,decide_eq_false HLT.out]
   exact ⟨_,_,rfl,N14.out,D14.out,F14.out.b⟩
end Go.Proofs.YtobpioceopfkpaaGreatDoor
