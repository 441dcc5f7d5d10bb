/-
  Lemmas for WholeTurned, part 1 of 1: what the program's functions do, and plain facts; without conditions.
-/
import Derived.Test.YtobpioceopfkpaaGreatDoorM36
set_option maxRecDepth 100000
set_option maxHeartbeats 4000000
namespace Go.Proofs.YtobpioceopfkpaaGreatDoor
open Go.RowKit
theorem root_same {X r s:Dn} {k:Nat} (h1:RootOf X k r) (h2:RootOf X k s) (hk:0 < k):r.m=s.m∧r.e=s.e:=by
 obtain ⟨-,a1,a2,-,-⟩:=h1
 obtain ⟨-,b1,b2,-,-⟩:=h2
 constructor
 ·have h:=a1.trans b1.symm
  rcases Nat.lt_trichotomy r.m s.m with hl | he | hg
  ·have:=Nat.pow_lt_pow_left hl (by omega:k ≠ 0); omega
  ·exact he
  ·have:=Nat.pow_lt_pow_left hg (by omega:k ≠ 0); omega
 ·have h:=a2.trans b2.symm
  exact Int.eq_of_mul_eq_mul_right (by omega:(k:Int) ≠ 0) h
theorem turned_exact {X a b:Dn} {M:Int} {k:Nat} (hM:M ≠ 0) (hk:0 < k) (ha:PowerOf X M k a) (hb:PowerOf X (-M) k b) :
  a.neg=false∧b.neg=false∧a.m=1∧b.m=1∧b.e=-a.e:=by
 obtain ⟨g,r,hg,r1,p1,p2,p3,-,-,-,-⟩:=ha
 obtain ⟨g',s,hg',s1,q1,q2,q3,-,-,-,-⟩:=hb
 rw [Int.natAbs_neg,← hg] at hg'
 subst hg'
 have g0:0 < g':=by rw [hg]; exact Nat.gcd_pos_of_pos_right _ hk
 have gk:g' ∣ k:=hg ▸ Nat.gcd_dvd_right _ _
 have gm:(g':Int) ∣ M:=by rw [Int.ofNat_dvd_left,hg]; exact Nat.gcd_dvd_left _ _
 have k1:0 < k / g':=Nat.div_pos (Nat.le_of_dvd hk gk) g0
 obtain ⟨e1,e2⟩:=root_same r1 s1 k1
 rw [← e1] at q3
 rw [← e2] at q2
 have hn:(-M).tdiv (g':Int)=-(M.tdiv (g':Int)):=Int.neg_tdiv _ _
 rw [hn] at q2 q3
 have m0:M.tdiv (g':Int) ≠ 0:=by
  intro h
  have h2:=Int.tdiv_mul_cancel gm
  rw [h,Int.zero_mul] at h2
  exact hM h2.symm
 generalize M.tdiv (g':Int)=m at *
 have r1m:r.m=1:=by
  rcases p3 with h | ⟨h,-⟩
  ·exact h.1
  ·rcases q3 with h2 | ⟨h2,-⟩
   ·exact h2.1
   ·omega
 have am:a.m=1:=by rcases p3 with h | ⟨-,h⟩; exact h.2; rw [h,r1m,Nat.one_pow]
 have bm:b.m=1:=by rcases q3 with h | ⟨-,h⟩; exact h.2; rw [h,r1m,Nat.one_pow]
 exact ⟨p1,q1,am,bm,by rw [q2,p2,Int.mul_neg]⟩
theorem bare_pow2 {n:Bool} {k:Nat} {f:Int} (hf:-100000≤f∧f≤100000):bareN ⟨n,2^k,f⟩=⟨n,1,f+(k:Int)⟩:=by
 have hp:=Nat.two_pow_pos k
 rw [bareN_pos (d:=⟨n,2^k,f⟩) (by show 2^k ≠ 0; omega)]
 have hl:lo (2^k)=k:=lo_eq (m:=0) (by rw [Nat.mul_zero,Nat.zero_add,Nat.mul_one])
 simp only
 rw [hl,Nat.div_self hp,cutN_in ⟨by omega,by omega⟩]
theorem pow2_bits {e:Int} (he:-4096≤e∧e≤4096) (hf:toF 1 e false 0=0):toB 1 e false 0 < 18446744073709551616∧fld (toB 1 e false 0) < 2047∧dyD (toB 1 e false 0)=⟨false,1,e⟩:=by
 have b1:bl 1=1:=rfl
 unfold toF at hf
 rw [b1] at hf
 have e1:((1:Nat):Int) - 1+e=e:=by omega
 rw [e1] at hf
 by_cases h1:1023 < e
 ·rw [if_pos h1] at hf; cases hf
 rw [if_neg h1] at hf
 by_cases h2:e < -1075
 ·rw [if_pos h2] at hf; cases hf
 rw [if_neg h2] at hf
 have h3:e ≠ -1075:=by
  intro h
  subst h
  revert hf
  decide +kernel
 have hB:toB 1 e false 0=(unitOf e+1074).toNat * 4503599627370496+1 * 2^(-(unitOf e - e)).toNat:=by
  unfold toB
  rw [b1,e1,if_neg h1,if_neg h2]
  have hn:unitOf e - e≤0:=by unfold unitOf; omega
  have hp:partsN 1 (unitOf e - e)=(1 * 2^(-(unitOf e - e)).toNat,false,false):=by unfold partsN; rw [if_pos hn]
  unfold wholeN
  rw [hp]
  simp only [Bool.or_self]
  rw [show awayN 0 (1 * 2^(-(unitOf e - e)).toNat % 2 == 1) false false=false from rfl]
  rfl
 rw [hB,Nat.one_mul]
 by_cases h4:e < -1022
 ·have hu:unitOf e=-1074:=by unfold unitOf; omega
  rw [hu]
  obtain ⟨k,hk⟩:∃ k:Nat,e=(k:Int) - 1074:=⟨(e+1074).toNat,by omega⟩
  subst hk
  have hk2:k < 52:=by omega
  have e2:(-(-1074 - ((k:Int) - 1074))).toNat=k:=by omega
  rw [e2,show ((-1074:Int)+1074).toNat=0 from rfl,Nat.zero_mul,Nat.zero_add]
  have hlt:2^k < 4503599627370496:=Nat.lt_of_lt_of_le (Nat.pow_lt_pow_right (by decide) hk2) (by decide)
  have hf0:fld (2^k)=0:=by unfold fld; rw [Nat.div_eq_of_lt hlt]
  have hm:mant (2^k)=2^k:=by unfold mant; rw [if_pos hf0]; unfold frc; exact Nat.mod_eq_of_lt hlt
  have hs:sgn (2^k)=false:=decide_eq_false (by omega)
  have hd:dyE (2^k)=-1074:=by unfold dyE; rw [hf0]; rfl
  refine ⟨by omega,by rw [hf0]; decide,?_⟩
  unfold dyD
  rw [hm,hs,hd,bare_pow2 (by decide)]
  congr 1
 ·have hu:unitOf e=e - 52:=by unfold unitOf; omega
  rw [hu]
  obtain ⟨k,hk⟩:∃ k:Nat,e=(k:Int) - 1022:=⟨(e+1022).toNat,by omega⟩
  subst hk
  have hk2:k≤2045:=by omega
  have e2:(-((k:Int) - 1022 - 52 - ((k:Int) - 1022))).toNat=52:=by omega
  have e3:((k:Int) - 1022 - 52+1074).toNat=k:=by omega
  have p52:(2:Nat)^52=4503599627370496:=by decide
  rw [e2,e3,p52]
  obtain ⟨b,hb⟩:∃ b,b=k * 4503599627370496+4503599627370496:=⟨_,rfl⟩
  rw [← hb]
  have hf0:fld b=k+1:=by unfold fld; omega
  have hr:frc b=0:=by unfold frc; omega
  have hm:mant b=2^52:=by unfold mant; rw [if_neg (by omega),hr,p52]
  have hs:sgn b=false:=decide_eq_false (by omega)
  have hd:dyE b=(k:Int)+1 - 1075:=by unfold dyE; omega
  refine ⟨by omega,by omega,?_⟩
  unfold dyD
  rw [hm,hs,hd,bare_pow2 (by omega)]
  congr 1
  omega
theorem kind_z {b:Nat} (hb:b < 18446744073709551616) (h0:fld b=0∧frc b=0) (w:World):Calls Tryz.prog 13 #[.int .u64 (b:Int)] w fun e w'=>e=.returned (.int .i64 0)∧w=w':=by
 have C:=h_ (fun w=>field_r hb w)
 have h1:=and_frac hb
 have h3:b % 4503599627370496=frc b:=rfl
 rw [h3,h0.2] at h1
 rw [h0.1] at C
 have h1:bits .and .u64 (b:Int) 4503599627370495=0:=h1
 clear h3 h0
 go_enter Tryz.func13,Tryz.ntmps13
 go_wp2_with fail
 refine (C.out _).mono ?_
 rintro q w1 ⟨rfl,rfl⟩
 go_wp2
 refine bodyPost_ret (v:=.int .i64 0) (by simp [results,Tryz.results13,go_sem]) rfl ⟨rfl,rfl⟩
def RetPT (PT:Int→Int→Prop) (w:World) (e:Ending) (w':World):Prop:=∃ (B f st n:Int),e=.returned (.tuple #[.agg #[.int .u64 B,.int .u8 f,.int .i64 st],.int .i64 n,.int .i64 0])∧PT B f∧Below w.heap.size w w'
theorem Turned_a {w:World} (t:Tab w) {x y:Nat} (hx:x < 18446744073709551616)  (hal:∀ w,Tab w→Calls Tryz.prog 8 #[] w fun e w'=>e=.returned (.bool true)∧Below w.heap.size w w') (h:¬ fld x < 2047):Calls Tryz.prog 5 #[.int .u64 (x:Int),.int .u64 (y:Int)] w fun e w'=>e=.returned (.bool true)∧Below w.heap.size w w':=by
 have CA:=h_ hal
 have HT:=h_ t
 have CF:=h_ (fun w=>finite_r hx w)
 rw [decide_eq_false h] at CF
 clear h
 clear t hal
 go_enter Tryz.func5,Tryz.ntmps5
 go_wp2_with fail
 refine (CA.out _ HT.out).mono ?_
 rintro q w1 ⟨rfl,hb⟩
 have B1:=h_ hb
 clear hb
 go_wp2_with fail
 refine (CF.out _).mono ?_
 rintro q w2 ⟨rfl,rfl⟩
 go_wp2
 go_ret
 exact ⟨rfl,B1.out⟩
theorem Turned_b {w:World} (t:Tab w) {x y:Nat} (hx:x < 18446744073709551616) (hy:y < 18446744073709551616) (hal:∀ w,Tab w→Calls Tryz.prog 8 #[] w fun e w'=>e=.returned (.bool true)∧Below w.heap.size w w') (fx:fld x < 2047) (h:¬ fld y < 2047):Calls Tryz.prog 5 #[.int .u64 (x:Int),.int .u64 (y:Int)] w fun e w'=>e=.returned (.bool true)∧Below w.heap.size w w':=by
 have CA:=h_ hal
 have HT:=h_ t
 have CF:=h_ (fun w=>finite_r hx w)
 rw [decide_eq_true fx] at CF
 have CY:=h_ (fun w=>finite_r hy w)
 rw [decide_eq_false h] at CY
 clear fx h
 clear t hal
 go_enter Tryz.func5,Tryz.ntmps5
 go_wp2_with fail
 refine (CA.out _ HT.out).mono ?_
 rintro q w1 ⟨rfl,hb⟩
 have B1:=h_ hb
 clear hb
 go_wp2_with fail
 refine (CF.out _).mono ?_
 rintro q w2 ⟨rfl,rfl⟩
 go_wp2_with fail
 refine (CY.out _).mono ?_
 rintro q w2 ⟨rfl,rfl⟩
 go_wp2
 go_ret
 exact ⟨rfl,B1.out⟩
theorem Turned_c {w:World} (t:Tab w) {x y:Nat} (hx:x < 18446744073709551616) (hy:y < 18446744073709551616) (hal:∀ w,Tab w→Calls Tryz.prog 8 #[] w fun e w'=>e=.returned (.bool true)∧Below w.heap.size w w') (fx:fld x < 2047) (fy:fld y < 2047) (h:sgn x=true):Calls Tryz.prog 5 #[.int .u64 (x:Int),.int .u64 (y:Int)] w fun e w'=>e=.returned (.bool true)∧Below w.heap.size w w':=by
 have CA:=h_ hal
 have HT:=h_ t
 have CF:=h_ (fun w=>finite_r hx w)
 rw [decide_eq_true fx] at CF
 have CY:=h_ (fun w=>finite_r hy w)
 rw [decide_eq_true fy] at CY
 have CN:=h_ (fun w=>neg_r hx w)
 rw [h] at CN
 clear fx fy h
 clear t hal
 go_enter Tryz.func5,Tryz.ntmps5
 go_wp2_with fail
 refine (CA.out _ HT.out).mono ?_
 rintro q w1 ⟨rfl,hb⟩
 have B1:=h_ hb
 clear hb
 go_wp2_with fail
 refine (CF.out _).mono ?_
 rintro q w2 ⟨rfl,rfl⟩
 go_wp2_with fail
 refine (CY.out _).mono ?_
 rintro q w2 ⟨rfl,rfl⟩
 go_wp2_with fail
 refine (CN.out _).mono ?_
 rintro q w2 ⟨rfl,rfl⟩
 go_wp2
 go_ret
 exact ⟨rfl,B1.out⟩
theorem Turned_d {w:World} (t:Tab w) {x y:Nat} (hx:x < 18446744073709551616) (hy:y < 18446744073709551616) (hal:∀ w,Tab w→Calls Tryz.prog 8 #[] w fun e w'=>e=.returned (.bool true)∧Below w.heap.size w w') (fx:fld x < 2047) (fy:fld y < 2047) (h:x=0):Calls Tryz.prog 5 #[.int .u64 (x:Int),.int .u64 (y:Int)] w fun e w'=>e=.returned (.bool true)∧Below w.heap.size w w':=by
 have CA:=h_ hal
 have HT:=h_ t
 subst h
 have CF:=h_ (fun w=>finite_r hx w)
 rw [decide_eq_true fx] at CF
 have CY:=h_ (fun w=>finite_r hy w)
 rw [decide_eq_true fy] at CY
 have CN:=h_ (fun w=>neg_r hx w)
 rw [show sgn 0=false from rfl] at CN
 clear fx fy
 clear t hal
 go_enter Tryz.func5,Tryz.ntmps5
 go_wp2_with fail
 refine (CA.out _ HT.out).mono ?_
 rintro q w1 ⟨rfl,hb⟩
 have B1:=h_ hb
 clear hb
 go_wp2_with fail
 refine (CF.out _).mono ?_
 rintro q w2 ⟨rfl,rfl⟩
 go_wp2_with fail
 refine (CY.out _).mono ?_
 rintro q w2 ⟨rfl,rfl⟩
 go_wp2_with fail
 refine (CN.out _).mono ?_
 rintro q w2 ⟨rfl,rfl⟩
 go_wp2
 go_ret
 exact ⟨rfl,B1.out⟩
theorem Turned_e {w:World} (t:Tab w) {x y:Nat} (hx:x < 18446744073709551616) (hy:y < 18446744073709551616) (hal:∀ w,Tab w→Calls Tryz.prog 8 #[] w fun e w'=>e=.returned (.bool true)∧Below w.heap.size w w') (fx:fld x < 2047) (fy:fld y < 2047) (hs:sgn x=false) (x0:x ≠ 0) (h:fld y=0∧frc y=0):Calls Tryz.prog 5 #[.int .u64 (x:Int),.int .u64 (y:Int)] w fun e w'=>e=.returned (.bool true)∧Below w.heap.size w w':=by
 have CA:=h_ hal
 have HT:=h_ t
 have CF:=h_ (fun w=>finite_r hx w)
 rw [decide_eq_true fx] at CF
 have CY:=h_ (fun w=>finite_r hy w)
 rw [decide_eq_true fy] at CY
 have CN:=h_ (fun w=>neg_r hx w)
 rw [hs] at CN
 have z1:((x:Int) == 0)=false:=by rw [beq_eq_false_iff_ne]; omega
 have z2:(x == 0)=false:=by rw [beq_eq_false_iff_ne]; exact x0
 have CK:=h_ (fun w=>kind_z hy h w)
 clear fx fy hs x0 h
 clear t hal
 go_enter Tryz.func5,Tryz.ntmps5
 go_wp2_with fail
 refine (CA.out _ HT.out).mono ?_
 rintro q w1 ⟨rfl,hb⟩
 have B1:=h_ hb
 clear hb
 go_wp2_with fail
 refine (CF.out _).mono ?_
 rintro q w2 ⟨rfl,rfl⟩
 go_wp2_with fail
 refine (CY.out _).mono ?_
 rintro q w2 ⟨rfl,rfl⟩
 go_wp2_with fail
 refine (CN.out _).mono ?_
 rintro q w2 ⟨rfl,rfl⟩
 go_wp2_with fail
 refine (CK.out _).mono ?_
 rintro q w2 ⟨rfl,rfl⟩
 go_wp2
 go_ret
 exact ⟨rfl,B1.out⟩
theorem Turned_go {w:World} (t:Tab w) {x y y':Nat} (hx:x < 18446744073709551616) (hy:y < 18446744073709551616) (hal:∀ w,Tab w→Calls Tryz.prog 8 #[] w fun e w'=>e=.returned (.bool true)∧Below w.heap.size w w')
  (fx:fld x < 2047) (fy:fld y < 2047) (hs:sgn x=false) (x0:x ≠ 0) (ny:¬ (fld y=0∧frc y=0)) (hxor:bits .xor .u64 (y:Int) 9223372036854775808=(y':Int)) {P1 P2:Int→Int→Prop}
  (cp:∀ w,Tab w→Calls Tryz.prog 11 #[.int .u64 (x:Int),.int .u64 (y:Int),howV 0 1024] w (RetPT P1 w)) (cq:∀ w,Tab w→Calls Tryz.prog 11 #[.int .u64 (x:Int),.int .u64 (y':Int),howV 0 1024] w (RetPT P2 w))
  (law:∀ B C:Int,P1 B 0→P2 C 0→∃ a b:Nat,B=a∧C=b∧(a < 18446744073709551616∧fld a < 2047∧Sd (dyD a))∧(b < 18446744073709551616∧fld b < 2047∧Sd (dyD b))∧CmpD (MulD (dyD a) (dyD b)) (ofN 1)=0) :
  Calls Tryz.prog 5 #[.int .u64 (x:Int),.int .u64 (y:Int)] w fun e w'=>e=.returned (.bool true)∧Below w.heap.size w w':=by
 have CA:=h_ hal
 have CF:=h_ (fun w=>finite_r hx w)
 rw [decide_eq_true fx] at CF
 have CY:=h_ (fun w=>finite_r hy w)
 rw [decide_eq_true fy] at CY
 have CN:=h_ (fun w=>neg_r hx w)
 rw [hs] at CN
 have z1:((x:Int) == 0)=false:=by rw [beq_eq_false_iff_ne]; omega
 have z2:(x == 0)=false:=by rw [beq_eq_false_iff_ne]; exact x0
 have CK:=h_ (fun w=>kind_r hy fy ny w)
 obtain ⟨k,hk⟩:∃ k:Int,k=if fld y=0 then 1 else 2:=⟨_,rfl⟩
 rw [← hk] at CK
 have z3:(k == 0)=false:=by rw [beq_eq_false_iff_ne,hk]; split <;> decide
 have CH:=h_ Plain_r
 have CP:=h_ cp
 have CQ:=h_ cq
 have HL:=h_ law
 have HT:=h_ t
 clear t hal hx hy fx fy hs x0 ny hk cp cq law
 unfold howV at *
 go_enter Tryz.func5,Tryz.ntmps5
 go_wp2_with fail
 refine (CA.out _ HT.out).mono ?_
 rintro q w1 ⟨rfl,hb⟩
 have F1:=h_ ((Fz.nil w).call hb)
 have T1:=h_ (HT.out.below hb)
 clear hb HT
 go_wp2_with fail
 refine (CF.out _).mono ?_
 rintro q w2 ⟨rfl,rfl⟩
 go_wp2_with fail
 refine (CY.out _).mono ?_
 rintro q w2 ⟨rfl,rfl⟩
 go_wp2_with fail
 refine (CN.out _).mono ?_
 rintro q w2 ⟨rfl,rfl⟩
 go_wp2_with fail
 refine (CK.out _).mono ?_
 rintro q w2 ⟨rfl,rfl⟩
 go_wp2_with fail
 refine (CH.out _).mono ?_
 rintro q w2 ⟨rfl,hb⟩
 have F2:=h_ (F1.out.call hb)
 have T2:=h_ (T1.out.below hb)
 clear F1 T1
 clear hb
 go_upto_region 6 with (fail)
 have F3:=h_ (F2.out.new 28 #[.int .i64 0,.int .i64 64,.int .i64 1024,.pointer none])
 have T3:=h_ (T2.out.alloc (.cells #[.int .i64 0,.int .i64 64,.int .i64 1024,.pointer none] 28))
 clear F2 T2
 obtain ⟨g1,hg1⟩:∃ g,g=(World.heap w2).size:=⟨_,rfl⟩
 rw [← hg1] at F3 ⊢
 clear hg1
 simp only [List.nil_append] at F3
 generalize World.alloc w2 _=W3 at F3 T3 ⊢
 have c0_3:=F3.out.c4 0 rfl
 go_wp2_with fail
 clear c0_3
 refine (CP.out _ T3.out).mono ?_
 rintro q w4 ⟨Bp,fp,sp,np,rfl,hp,hb⟩
 have F4:=h_ (F3.out.call hb)
 have T4:=h_ (T3.out.below hb)
 clear F3 T3
 clear hb
 have c0_4:=F4.out.c4 0 rfl
 have HP:=h_ hp
 clear hp
 go_upto_region 7 with (fail)
 clear c0_4
 have F5:=h_ (F4.out.new 32 #[.int .u64 Bp,.int .u8 fp,.int .i64 sp])
 have T5:=h_ (T4.out.alloc (.cells #[.int .u64 Bp,.int .u8 fp,.int .i64 sp] 32))
 clear F4 T4
 obtain ⟨g2,hg2⟩:∃ g,g=(World.heap w4).size:=⟨_,rfl⟩
 rw [← hg2] at F5 ⊢
 clear hg2
 simp only [List.nil_append,List.cons_append] at F5
 generalize World.alloc w4 _=W5 at F5 T5 ⊢
 have c0_5:=F5.out.c4 0 rfl
 have c1_5:=F5.out.c3 1 rfl
 go_wp2_with fail
 clear c0_5 c1_5
 refine (CQ.out _ T5.out).mono ?_
 rintro q w6 ⟨Bq,fq,sq,nq,rfl,hq,hb⟩
 have F6:=h_ (F5.out.call hb)
 have T6:=h_ (T5.out.below hb)
 clear F5 T5
 clear hb
 have c0_6:=F6.out.c4 0 rfl
 have c1_6:=F6.out.c3 1 rfl
 have HQ:=h_ hq
 clear hq
 go_upto_region 8 with (fail)
 clear c0_6 c1_6
 have F7:=h_ (F6.out.new 32 #[.int .u64 Bq,.int .u8 fq,.int .i64 sq])
 have T7:=h_ (T6.out.alloc (.cells #[.int .u64 Bq,.int .u8 fq,.int .i64 sq] 32))
 clear F6 T6
 obtain ⟨g3,hg3⟩:∃ g,g=(World.heap w6).size:=⟨_,rfl⟩
 rw [← hg3] at F7 ⊢
 clear hg3
 simp only [List.nil_append,List.cons_append] at F7
 generalize World.alloc w6 _=W7 at F7 T7 ⊢
 have c0_7:=F7.out.c4 0 rfl
 have c1_7:=F7.out.c3 1 rfl
 have c2_7:=F7.out.c3 2 rfl
 by_cases h1:fp=0
 case neg =>
  have y1:(fp == 0)=false:=by rw [beq_eq_false_iff_ne]; exact h1
  have y2:(fp != 0)=true:=by simp [h1]
  clear h1
  go_wp2
  go_ret
  exact ⟨rfl,F7.out.b⟩
 subst h1
 by_cases h2:fq=0
 case neg =>
  have y1:(fq == 0)=false:=by rw [beq_eq_false_iff_ne]; exact h2
  have y2:(fq != 0)=true:=by simp [h2]
  clear h2
  go_wp2
  go_ret
  exact ⟨rfl,F7.out.b⟩
 subst h2
 obtain ⟨a,b,ea,eb,⟨a1,a2,a3⟩,⟨b1,b2,b3⟩,hc⟩:=HL.out _ _ HP.out HQ.out
 subst ea eb
 have CD1:=h_ (fun w (t:Tab w)=>dyad_r a1 a2 t)
 have CD2:=h_ (fun w (t:Tab w)=>dyad_r b1 b2 t)
 generalize dyD a=da at *
 generalize dyD b=db at *
 have CM:=h_ (fun w u v (h:Cy w u da) (k:Cy w v db)=>Mul_s h.ry k.ry a3 b3)
 generalize MulD da db=dm at *
 have CO:=h_ (fun w (t:Tab w)=>Of_d t 1 (by decide))
 have CC:=h_ (fun w u v (h:Cy w u dm) (k:Cy w v (ofN 1))=>Cmp_d h.ry k.ry)
 rw [hc] at CC
 generalize ofN 1=o1 at *
 obtain ⟨dan,dam,dae⟩:=da
 obtain ⟨dbn,dbm,dbe⟩:=db
 obtain ⟨dmn,dmm,dme⟩:=dm
 obtain ⟨on,om,oe⟩:=o1
 clear a1 a2 a3 b1 b2 b3 hc HL HP HQ
 go_wp2_with fail
 clear c0_7 c1_7 c2_7
 refine (CD1.out _ T7.out).mono ?_
 rintro q w8 ⟨u,rfl,hu,hb⟩
 have F8:=h_ (F7.out.call hb)
 have T8:=h_ (T7.out.below hb)
 clear F7 T7
 have D8:=h_ (hu)
 clear hb
 have c0_8:=F8.out.c4 0 rfl
 have c1_8:=F8.out.c3 1 rfl
 have c2_8:=F8.out.c3 2 rfl
 obtain ⟨p1,l1,e1,rfl⟩:=D8.out.fm
 clear hu
 go_upto_region 11 with (fail)
 clear c0_8 c1_8 c2_8
 have F9:=h_ (F8.out.new 42 #[.bool dan,.slice p1 l1 e1,.int .i64 dae])
 have T9:=h_ (T8.out.alloc (.cells #[.bool dan,.slice p1 l1 e1,.int .i64 dae] 42))
 have D9:=h_ (D8.out.alloc (.cells #[.bool dan,.slice p1 l1 e1,.int .i64 dae] 42))
 clear F8 T8 D8
 obtain ⟨g4,hg4⟩:∃ g,g=(World.heap w8).size:=⟨_,rfl⟩
 rw [← hg4] at F9 ⊢
 clear hg4
 simp only [List.nil_append,List.cons_append] at F9
 generalize World.alloc w8 _=W9 at F9 T9 D9 ⊢
 have c0_9:=F9.out.c4 0 rfl
 have c1_9:=F9.out.c3 1 rfl
 have c2_9:=F9.out.c3 2 rfl
 have c3_9:=F9.out.c3 3 rfl
 go_wp2_with fail
 clear c0_9 c1_9 c2_9 c3_9
 refine (CD2.out _ T9.out).mono ?_
 rintro q w10 ⟨u,rfl,hu,hb⟩
 have F10:=h_ (F9.out.call hb)
 have T10:=h_ (T9.out.below hb)
 have D10:=h_ (D9.out.below hb)
 clear F9 T9 D9
 have E10:=h_ (hu)
 clear hb
 have c0_10:=F10.out.c4 0 rfl
 have c1_10:=F10.out.c3 1 rfl
 have c2_10:=F10.out.c3 2 rfl
 have c3_10:=F10.out.c3 3 rfl
 obtain ⟨p2,l2,e2,rfl⟩:=E10.out.fm
 clear hu
 go_upto_region 12 with (fail)
 clear c0_10 c1_10 c2_10 c3_10
 have F11:=h_ (F10.out.new 42 #[.bool dbn,.slice p2 l2 e2,.int .i64 dbe])
 have T11:=h_ (T10.out.alloc (.cells #[.bool dbn,.slice p2 l2 e2,.int .i64 dbe] 42))
 have D11:=h_ (D10.out.alloc (.cells #[.bool dbn,.slice p2 l2 e2,.int .i64 dbe] 42))
 have E11:=h_ (E10.out.alloc (.cells #[.bool dbn,.slice p2 l2 e2,.int .i64 dbe] 42))
 clear F10 T10 D10 E10
 obtain ⟨g5,hg5⟩:∃ g,g=(World.heap w10).size:=⟨_,rfl⟩
 rw [← hg5] at F11 ⊢
 clear hg5
 simp only [List.nil_append,List.cons_append] at F11
 generalize World.alloc w10 _=W11 at F11 T11 D11 E11 ⊢
 have c0_11:=F11.out.c4 0 rfl
 have c1_11:=F11.out.c3 1 rfl
 have c2_11:=F11.out.c3 2 rfl
 have c3_11:=F11.out.c3 3 rfl
 have c4_11:=F11.out.c3 4 rfl
 go_wp2_with fail
 clear c0_11 c1_11 c2_11 c3_11 c4_11
 refine (CM.out _ _ _ D11.out E11.out).mono ?_
 rintro q w12 ⟨u,rfl,hu,hb⟩
 have F12:=h_ (F11.out.call hb)
 have T12:=h_ (T11.out.below hb)
 have D12:=h_ (D11.out.below hb)
 have E12:=h_ (E11.out.below hb)
 clear F11 T11 D11 E11
 have M12:=h_ (hu)
 clear hb
 have c0_12:=F12.out.c4 0 rfl
 have c1_12:=F12.out.c3 1 rfl
 have c2_12:=F12.out.c3 2 rfl
 have c3_12:=F12.out.c3 3 rfl
 have c4_12:=F12.out.c3 4 rfl
 obtain ⟨p3,l3,e3,rfl⟩:=M12.out.fm
 clear hu
 go_upto_region 13 with (fail)
 clear D12 E12
 clear c0_12 c1_12 c2_12 c3_12 c4_12
 have F13:=h_ (F12.out.new 42 #[.bool dmn,.slice p3 l3 e3,.int .i64 dme])
 have T13:=h_ (T12.out.alloc (.cells #[.bool dmn,.slice p3 l3 e3,.int .i64 dme] 42))
 have M13:=h_ (M12.out.alloc (.cells #[.bool dmn,.slice p3 l3 e3,.int .i64 dme] 42))
 clear F12 T12 M12
 obtain ⟨g6,hg6⟩:∃ g,g=(World.heap w12).size:=⟨_,rfl⟩
 rw [← hg6] at F13 ⊢
 clear hg6
 simp only [List.nil_append,List.cons_append] at F13
 generalize World.alloc w12 _=W13 at F13 T13 M13 ⊢
 have c0_13:=F13.out.c4 0 rfl
 have c1_13:=F13.out.c3 1 rfl
 have c2_13:=F13.out.c3 2 rfl
 have c3_13:=F13.out.c3 3 rfl
 have c4_13:=F13.out.c3 4 rfl
 have c5_13:=F13.out.c3 5 rfl
 clear c0_13 c1_13 c2_13 c3_13 c4_13 c5_13
 have FCD:=h_ (((F13.out.drew).c3 5 rfl).1)
 go_region_held3 (fun w'=>(w'.cell? ⟨g6,0,none⟩=some (.bool dmn)∧w'.cell? ⟨g6,1,none⟩=some (.slice p3 l3 e3)∧w'.cell? ⟨g6,2,none⟩=some (.int .i64 dme))) (first | with_reducible exact FCD.out | with_reducible exact FC.out) (first | (go_at_call 17; (with_reducible refine (CC.out _ _ _ M14.out O14.out).mono ?_); rintro q ww15 ⟨rfl,hb⟩; have F15:=h_ (F14.out.call hb); have T15:=h_ (T14.out.below hb); have M15:=h_ (M14.out.below hb); have O15:=h_ (O14.out.below hb); have FC:=h_ ((F15.out.c3 5 rfl).1); have c0_15:=F15.out.c4 0 rfl; have c1_15:=F15.out.c3 1 rfl; have c2_15:=F15.out.c3 2 rfl; have c3_15:=F15.out.c3 3 rfl; have c4_15:=F15.out.c3 4 rfl; have c5_15:=F15.out.c3 5 rfl; clear hb) | (go_at_call 18; (with_reducible refine (CO.out _ (T13.out.drew)).mono ?_); rintro q ww14 ⟨u,rfl,hu,hb⟩; have F14:=h_ ((F13.out.drew).call hb); have T14:=h_ ((T13.out.drew).below hb); have M14:=h_ ((M13.out.drew).below hb); have O14:=h_ (hu); obtain ⟨p4,l4,e4,rfl⟩:=O14.out.fm; have FC:=h_ ((F14.out.c3 5 rfl).1); have c0_14:=F14.out.c4 0 rfl; have c1_14:=F14.out.c3 1 rfl; have c2_14:=F14.out.c3 2 rfl; have c3_14:=F14.out.c3 3 rfl; have c4_14:=F14.out.c3 4 rfl; have c5_14:=F14.out.c3 5 rfl; clear hb))
 go_wp2
 go_ret
 exact ⟨rfl,F15.out.b⟩
def flipN (y:Nat):Nat:=if y < 9223372036854775808 then y+9223372036854775808 else y - 9223372036854775808
theorem flip_is {y:Nat} (hy:y < 18446744073709551616):flipN y < 18446744073709551616∧fld (flipN y)=fld y∧frc (flipN y)=frc y∧sgn (flipN y)=!sgn y:=by
 unfold flipN fld frc sgn
 by_cases h:y < 9223372036854775808
 ·rw [if_pos h,decide_eq_true (by omega:9223372036854775808≤y+9223372036854775808),decide_eq_false (by omega:¬ 9223372036854775808≤y)]
  exact ⟨by omega,by omega,by omega,rfl⟩
 ·rw [if_neg h,decide_eq_false (by omega:¬ 9223372036854775808≤y - 9223372036854775808),decide_eq_true (by omega:9223372036854775808≤y)]
  exact ⟨by omega,by omega,by omega,rfl⟩
theorem flip_dy {y:Nat} (hy:y < 18446744073709551616):(dyD (flipN y)).m=(dyD y).m∧(dyD (flipN y)).e=(dyD y).e∧((dyD y).m ≠ 0→(dyD (flipN y)).neg=!(dyD y).neg):=by
 obtain ⟨-,h1,h2,h3⟩:=flip_is hy
 have hm:mant (flipN y)=mant y:=by unfold mant; rw [h1,h2]
 have he:dyE (flipN y)=dyE y:=by unfold dyE; rw [h1]
 unfold dyD
 rw [hm,he,h3]
 by_cases h0:mant y=0
 ·rw [bareN_zero (d:=⟨!sgn y,mant y,dyE y⟩) h0,bareN_zero (d:=⟨sgn y,mant y,dyE y⟩) h0]
  exact ⟨rfl,rfl,fun h=>absurd rfl h⟩
 ·rw [bareN_pos (d:=⟨!sgn y,mant y,dyE y⟩) h0,bareN_pos (d:=⟨sgn y,mant y,dyE y⟩) h0]
  exact ⟨rfl,rfl,fun _=>rfl⟩
theorem prod_one {e:Int} (he:-4096≤e∧e≤4096):CmpD (MulD ⟨false,1,e⟩ ⟨false,1,-e⟩) (ofN 1)=0:=by
 have h1:bareN ⟨false,1,e⟩=⟨false,1,e⟩:=odd_bare rfl (by omega)
 have h2:bareN ⟨false,1,-e⟩=⟨false,1,-e⟩:=odd_bare rfl (by omega)
 unfold MulD mulD
 rw [h1,h2]
 have h3:e+-e=0:=by omega
 have h4:CmpD (bareN ⟨false,1,0⟩) (ofN 1)=0:=by kernel_rfl
 show CmpD (bareN ⟨false,1,e+-e⟩) (ofN 1)=0
 rw [h3]
 exact h4
theorem pow2_span {e:Int} (he:-4096≤e∧e≤4096) (hf:toF 1 e false 0=0):-4000≤e∧e≤4000:=by
 have b1:bl 1=1:=rfl
 unfold toF at hf
 rw [b1,show ((1:Nat):Int) - 1+e=e by omega] at hf
 by_cases h1:1023 < e
 ·rw [if_pos h1] at hf; cases hf
 rw [if_neg h1] at hf
 by_cases h2:e < -1075
 ·rw [if_pos h2] at hf; cases hf
 omega
theorem turned_law {x y:Nat} (hy:YOk y) {B C:Nat} (h1:PPd (dyD x) (dyD y) 0 B 0 true) (h2:PPd (dyD x) (dyD (flipN y)) 0 C 0 true) :
  (B < 18446744073709551616∧fld B < 2047∧Sd (dyD B))∧(C < 18446744073709551616∧fld C < 2047∧Sd (dyD C))∧CmpD (MulD (dyD B) (dyD C)) (ofN 1)=0:=by
 rcases h1 rfl with ⟨d,hd,hB,hF⟩ | ⟨h,-⟩
 ·rcases h2 rfl with ⟨d',hd',hC,hG⟩ | ⟨h,-⟩
  ·obtain ⟨y1,y2,-⟩:=dyD_parts hy.fy hy.ny
   obtain ⟨f1,f2,f3⟩:=flip_dy hy.hy
   have hM:ofM (dyD (flipN y))=-ofM (dyD y):=by
    unfold ofM
    rw [f1,f2,f3 y2]
    cases (dyD y).neg <;> simp
   have hK:ofK (dyD (flipN y))=ofK (dyD y):=by unfold ofK; rw [f2]
   have hM0:ofM (dyD y) ≠ 0:=by
    have hp:=Nat.two_pow_pos (max (dyD y).e 0).toNat
    have:(dyD y).m * 2^(max (dyD y).e 0).toNat ≠ 0:=Nat.mul_ne_zero y2 (by omega)
    unfold ofM
    generalize (dyD y).m * 2^(max (dyD y).e 0).toNat=q at *
    split <;> omega
   have hK0:0 < ofK (dyD y):=Nat.two_pow_pos _
   unfold ExactOf at hd hd'
   rw [hM,hK] at hd'
   obtain ⟨n1,n2,m1,m2,e2⟩:=turned_exact hM0 hK0 hd hd'
   obtain ⟨-,r,-,-,-,-,-,b1,b2,-,-⟩:=hd
   obtain ⟨-,r',-,-,-,-,-,c1,c2,-,-⟩:=hd'
   rw [m1] at hB hF
   rw [m2] at hC hG
   obtain ⟨p1,p2,p3⟩:=pow2_bits ⟨b1,b2⟩ hF.symm
   obtain ⟨q1,q2,q3⟩:=pow2_bits ⟨c1,c2⟩ hG.symm
   rw [← hB] at p1 p2 p3
   rw [← hC] at q1 q2 q3
   refine ⟨⟨p1,p2,?_⟩,⟨q1,q2,?_⟩,?_⟩
   ·rw [p3]; exact ⟨(by show bl 1≤4000; decide),by show -4000≤d.e; exact (pow2_span ⟨b1,b2⟩ hF.symm).1,by show d.e≤4000; exact (pow2_span ⟨b1,b2⟩ hF.symm).2⟩
   ·rw [q3]; exact ⟨(by show bl 1≤4000; decide),by show -4000≤d'.e; exact (pow2_span ⟨c1,c2⟩ hG.symm).1,by show d'.e≤4000; exact (pow2_span ⟨c1,c2⟩ hG.symm).2⟩
   ·rw [p3,q3,e2]; exact prod_one ⟨b1,b2⟩
  ·exact absurd rfl h
 ·exact absurd rfl h
theorem xor_flip {y:Nat} (hy:y < 18446744073709551616):bits .xor .u64 (y:Int) 9223372036854775808=(flipN y:Int):=by
 have h:=u64_xor_nat y 9223372036854775808 hy (by decide)
 have e:((9223372036854775808:Nat):Int)=9223372036854775808:=rfl
 rw [e] at h
 rw [h]
 congr 1
 have hd:(y ^^^ 9223372036854775808) / 2^63=(y / 2^63) ^^^ (9223372036854775808 / 2^63):=Nat.xor_div_two_pow
 have hm:(y ^^^ 9223372036854775808) % 2^63=(y % 2^63) ^^^ (9223372036854775808 % 2^63):=Nat.xor_mod_two_pow
 have e1:9223372036854775808 / 2^63=1:=by decide
 have e2:9223372036854775808 % 2^63=0:=by decide
 rw [e1] at hd
 rw [e2,Nat.xor_zero] at hm
 have e3:(2:Nat)^63=9223372036854775808:=by decide
 rw [e3] at hd hm
 generalize y ^^^ 9223372036854775808=x at *
 unfold flipN
 rcases (by omega:y / 9223372036854775808=0 ∨ y / 9223372036854775808=1) with h0 | h0
 ·rw [h0] at hd
  have hd:x / 9223372036854775808=1:=hd
  rw [if_pos (by omega)]
  omega
 ·rw [h0] at hd
  have hd:x / 9223372036854775808=0:=hd
  rw [if_neg (by omega)]
  omega
theorem zero_of {x:Nat} (hx:x < 18446744073709551616) (hs:sgn x=false) (h:fld x=0∧frc x=0):x=0:=by
 have h1:¬ 9223372036854775808≤x:=of_decide_eq_false hs
 unfold fld frc at h
 omega
theorem turned_walk (w:World) (t:Tab w) (x y:Nat) (hx:x < 18446744073709551616) (hy:y < 18446744073709551616) (hal:∀ w,Tab w→Calls Tryz.prog 8 #[] w fun e w'=>e=.returned (.bool true)∧Below w.heap.size w w') :
  Calls Tryz.prog 5 #[.int .u64 (x:Int),.int .u64 (y:Int)] w fun e w'=>e=.returned (.bool true)∧Below w.heap.size w w':=by
 by_cases fx:fld x < 2047
 ·by_cases fy:fld y < 2047
  ·cases hs:sgn x
   ·by_cases x0:x=0
    ·exact Turned_d t hx hy hal fx fy x0
    ·by_cases ny:fld y=0∧frc y=0
     ·exact Turned_e t hx hy hal fx fy hs x0 ny
     ·have Y:YOk y:=⟨hy,fy,ny⟩
      obtain ⟨f1,f2,f3,-⟩:=flip_is hy
      have Y':YOk (flipN y):=⟨f1,by rw [f2]; exact fy,by rw [f2,f3]; exact ny⟩
      by_cases h1:x=4607182418800017408
      ·subst h1
       refine Turned_go (y':=flipN y) t hx hy hal fx fy hs x0 ny (xor_flip hy) (P1:=fun B f=>B=4607182418800017408∧f=0) (P2:=fun B f=>B=4607182418800017408∧f=0)
        (fun w t=>(Pow_one Y (by decide) (by decide) t).mono ?_) (fun w t=>(Pow_one Y' (by decide) (by decide) t).mono ?_) ?_
       ·rintro e w' ⟨h1,h2⟩; exact ⟨_,_,_,_,h1,⟨rfl,rfl⟩,h2⟩
       ·rintro e w' ⟨h1,h2⟩; exact ⟨_,_,_,_,h1,⟨rfl,rfl⟩,h2⟩
       ·rintro B C ⟨rfl,-⟩ ⟨rfl,-⟩
        have hf:fld 4607182418800017408 < 2047:=by decide
        have hd:dyD 4607182418800017408=⟨false,1,0⟩:=by kernel_rfl
        refine ⟨4607182418800017408,4607182418800017408,rfl,rfl,⟨by decide,hf,?_⟩,⟨by decide,hf,?_⟩,?_⟩
        ·rw [hd]; exact ⟨by decide,by decide,by decide⟩
        ·rw [hd]; exact ⟨by decide,by decide,by decide⟩
        ·rw [hd]; exact prod_one (e:=0) (by decide)
      ·have hx63:x < 9223372036854775808:=by have:¬ 9223372036854775808≤x:=of_decide_eq_false hs; omega
       have X:XOk x:=⟨hx63,fx,fun h=>x0 (zero_of hx hs h),h1⟩
       refine Turned_go (y':=flipN y) t hx hy hal fx fy hs x0 ny (xor_flip hy) (P1:=fun B f=>(∃ B':Nat,B=B'∧PPd (dyD x) (dyD y) 0 B' f true) ∨ f ≠ 0) (P2:=fun B f=>(∃ B':Nat,B=B'∧PPd (dyD x) (dyD (flipN y)) 0 B' f true) ∨ f ≠ 0)
        (fun w t=>(Pow_t (.inr rfl) X Y (by decide) t).mono ?_) (fun w t=>(Pow_t (.inr rfl) X Y' (by decide) t).mono ?_) ?_
       ·rintro e w' ⟨B,f,st,n,h1,h2,h3⟩
        refine ⟨B,f,st,n,h1,?_,h3⟩
        rcases h2 with ⟨-,h2⟩ | ⟨-,h2⟩
        ·exact .inl h2
        ·exact .inr h2.1
       ·rintro e w' ⟨B,f,st,n,h1,h2,h3⟩
        refine ⟨B,f,st,n,h1,?_,h3⟩
        rcases h2 with ⟨-,h2⟩ | ⟨-,h2⟩
        ·exact .inl h2
        ·exact .inr h2.1
       ·rintro B C (⟨b,rfl,hb⟩ | h) (⟨c,rfl,hc⟩ | h')
        ·exact ⟨b,c,rfl,rfl,turned_law Y hb hc⟩
        ·exact absurd rfl h'
        ·exact absurd rfl h
        ·exact absurd rfl h
   ·exact Turned_c t hx hy hal fx fy hs
  ·exact Turned_b t hx hy hal fx fy
 ·exact Turned_a t hx hal fx
end Go.Proofs.YtobpioceopfkpaaGreatDoor
