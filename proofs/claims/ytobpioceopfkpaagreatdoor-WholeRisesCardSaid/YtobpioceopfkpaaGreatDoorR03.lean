/-
  Lemmas for WholeRises, part 3 of 3: what the program's functions do, and plain facts; without conditions.
-/
import Derived.Test.YtobpioceopfkpaaGreatDoorR02
import Derived.Test.YtobpioceopfkpaaGreatDoorM36
set_option maxRecDepth 100000
set_option maxHeartbeats 4000000
namespace Go.Proofs.YtobpioceopfkpaaGreatDoor
open Rl
theorem nat_two (a:Rat):∃ n:Nat,1100≤n∧a≤(2:Rat)^n:=by
 obtain ⟨n,h⟩:=arch a
 refine ⟨n+1100,by omega,Rat.le_trans h ?_⟩
 rw [← two_cast]
 have h1:n+1100 < 2^(n+1100):=Nat.lt_two_pow_self
 exact_mod_cast (by omega:n≤2^(n+1100))
theorem toB_big {n:Nat} (h:1024≤n) (z:Int):toB 1 (n:Int) false z=overB z:=by
 have:bl 1=1:=by decide
 unfold toB
 rw [this,if_pos (by omega)]
theorem toB_wee {n:Nat} (h:1076≤n) (z:Int):toB 1 (-(n:Int)) false z=underB z:=by
 have:bl 1=1:=by decide
 unfold toB
 rw [this,if_neg (by omega),if_pos (by omega)]
theorem val_one (e:Int):val 1 e=(2:Rat)^e:=by unfold val; push_cast; grind
theorem sure_over {b:Rat} {M K:Nat} {z:Int} (hK:0 < K) (h:((2:Rat)^1024)^K≤b^M):Sure b M K z (overB z):=by
 obtain ⟨n,hn,hb⟩:=nat_two (b^M)
 refine ⟨1,(1024:Nat),1,(n:Nat),by decide,by decide,(toB_big (by decide) z).symm,(toB_big (by omega) z).symm,?_,?_⟩
 ·rw [val_one,z_nat]; exact h
 ·rw [val_one,z_nat]
  refine Rat.le_trans hb (pow_self_le ?_ hK)
  rw [← two_cast]
  exact_mod_cast Nat.two_pow_pos n
theorem sure_under {b:Rat} {M K:Nat} {z:Int} (hb:0 < b) (hK:0 < K) (h:b^M≤(1 / (2:Rat)^1076)^K):Sure b M K z (underB z):=by
 have bp:0 < b^M:=Rat.pow_pos hb
 obtain ⟨n,hn,hn2⟩:=nat_two (1 / b^M)
 refine ⟨1,-((n:Nat):Int),1,-((1076:Nat):Int),by decide,by decide,(toB_wee (by omega) z).symm,(toB_wee (by decide) z).symm,?_,?_⟩
 ·rw [val_one,z_neg]
  have t:=two_pos n
  have t1:1≤(2:Rat)^n:=by rw [← two_cast]; exact_mod_cast Nat.two_pow_pos n
  have i1:1 / (2:Rat)^n≤1:=by rw [← Rat.not_lt,Rat.lt_div_iff t,Rat.not_lt]; grind
  have i0:0≤1 / (2:Rat)^n:=div_nn (by decide) (Rat.le_of_lt t)
  refine Rat.le_trans (pow_le_self i0 i1 hK) ?_
  rw [← Rat.not_lt,Rat.lt_div_iff t,Rat.not_lt]
  have h2:=Rat.mul_le_mul_of_nonneg_right hn2 (Rat.le_of_lt bp)
  grind
 ·rw [val_one,z_neg]; exact h
theorem one_up (K:Nat):∃ C:Rat,0≤C∧∀ d:Rat,0≤d→d≤1→(1+d)^K≤1+C * d:=by
 induction K with
 | zero=>exact ⟨0,by decide,fun d _ _=>by rw [Rat.pow_zero]; grind⟩
 | succ K ih =>
  obtain ⟨C,hC,h⟩:=ih
  refine ⟨2 * C+1,by grind,fun d h0 h1=>?_⟩
  rw [Rat.pow_succ]
  have h2:=Rat.mul_le_mul_of_nonneg_right (h d h0 h1) (by grind:0≤1+d)
  have h3:=Rat.mul_le_mul_of_nonneg_left h1 (Rat.mul_nonneg hC h0)
  grind
theorem one_down (K:Nat) {d:Rat} (h0:0≤d) (h1:d≤1):1 - (K:Rat) * d≤(1 - d)^K:=by
 induction K with
 | zero=>rw [Rat.pow_zero]; push_cast; grind
 | succ K ih =>
  rw [Rat.pow_succ]
  have h2:=Rat.mul_le_mul_of_nonneg_right ih (by grind:0≤1 - d)
  have h3:=Rat.mul_nonneg (Rat.mul_nonneg (nn K) h0) h0
  push_cast
  grind
theorem small_step {C r:Rat} (hr:0 < r):∃ n:Nat,1100≤n∧C * (1 / (2:Rat)^n)≤r:=by
 obtain ⟨n,hn,h⟩:=nat_two (C / r)
 refine ⟨n,hn,?_⟩
 have t:=two_pos n
 have e:C * (1 / (2:Rat)^n)=C / (2:Rat)^n:=by rw [Rat.div_def,Rat.div_def]; grind
 rw [e,← Rat.not_lt,Rat.lt_div_iff t,Rat.not_lt]
 have h2:=Rat.mul_le_mul_of_nonneg_right h (Rat.le_of_lt hr)
 have e2:C / r * r=C:=by grind
 grind
theorem toB_more (j:Nat) {z:Int} (hz:0≤z∧z≤3):(toB (2^(55+j)+1) (-((55+j:Nat):Int)) false z:Int)=moreB z:=by
 have hp:2^(55+j)=4503599627370496 * 2^(3+j):=by rw [show 55+j=52+(3+j) by omega,Nat.pow_add]
 have hp2:2^(3+j)=8 * 2^j:=Nat.pow_add 2 3 j
 have hp3:2^(2+j)=4 * 2^j:=Nat.pow_add 2 2 j
 have h0:=Nat.two_pow_pos j
 have hb:bl (2^(55+j)+1)=56+j:=by
  apply Nat.le_antisymm
  ·apply bl_le; rw [show 56+j=(55+j)+1 by omega,Nat.pow_succ]; omega
  ·have h1:=bl_mono (show 2^(55+j)≤2^(55+j)+1 by omega)
   have h2:=bl_mul_pow (m:=1) (by decide) (55+j)
   rw [Nat.one_mul,show bl 1=1 by decide] at h2
   omega
 have hw:(wholeN (2^(55+j)+1) ((3+j:Nat):Int) z false).1=if z=2 then 4503599627370497 else 4503599627370496:=by
  have hparts:partsN (2^(55+j)+1) ((3+j:Nat):Int)=(4503599627370496,false,true):=by
   unfold partsN
   rw [if_neg (show ¬ ((3+j:Nat):Int)≤0 by omega),Int.toNat_natCast,show 3+j - 1=2+j by omega]
   have a1:(2^(55+j)+1) / 2^(3+j)=4503599627370496:=by rw [hp]; refine Nat.div_eq_of_lt_le ?_ ?_ <;> omega
   have a2:(2^(55+j)+1) / 2^(2+j)=9007199254740992:=by rw [hp]; refine Nat.div_eq_of_lt_le ?_ ?_ <;> omega
   have a3:(2^(55+j)+1) % 2^(2+j) ≠ 0:=by
    rw [hp,show 4503599627370496 * 2^(3+j)=2^(2+j) * 9007199254740992 by omega,Nat.mul_add_mod,Nat.mod_eq_of_lt (by omega)]; decide
   rw [a1,a2,decide_eq_true a3]
   rfl
  unfold wholeN
  rw [hparts]
  rcases (by omega:z=0 ∨ z=1 ∨ z=2 ∨ z=3) with rfl | rfl | rfl | rfl <;> decide
 unfold toB
 rw [hb,if_neg (by omega),if_neg (by omega),show unitOf (((56+j:Nat):Int) - 1+-((55+j:Nat):Int))=-52 by unfold unitOf; omega,show (-52:Int) - -((55+j:Nat):Int)=((3+j:Nat):Int) by omega,hw]
 rcases (by omega:z=0 ∨ z=1 ∨ z=2 ∨ z=3) with rfl | rfl | rfl | rfl <;> decide
theorem toB_less (j:Nat) {z:Int} (hz:0≤z∧z≤3):(toB (2^(55+j) - 1) (-((55+j:Nat):Int)) false z:Int)=lessB z:=by
 have hp:2^(55+j)=9007199254740992 * 2^(2+j):=by rw [show 55+j=53+(2+j) by omega,Nat.pow_add]
 have hp2:2^(2+j)=4 * 2^j:=Nat.pow_add 2 2 j
 have hp3:2^(1+j)=2 * 2^j:=Nat.pow_add 2 1 j
 have h0:=Nat.two_pow_pos j
 have hb:bl (2^(55+j) - 1)=55+j:=by
  apply Nat.le_antisymm
  ·apply bl_le; omega
  ·have h1:=bl_mono (show 2^(54+j)≤2^(55+j) - 1 by rw [show 55+j=(54+j)+1 by omega,Nat.pow_succ]; have:=Nat.two_pow_pos (54+j); omega)
   have h2:=bl_mul_pow (m:=1) (by decide) (54+j)
   rw [Nat.one_mul,show bl 1=1 by decide] at h2
   omega
 have hw:(wholeN (2^(55+j) - 1) ((2+j:Nat):Int) z false).1=if z=1 ∨ z=3 then 9007199254740991 else 9007199254740992:=by
  have hparts:partsN (2^(55+j) - 1) ((2+j:Nat):Int)=(9007199254740991,true,true):=by
   unfold partsN
   rw [if_neg (show ¬ ((2+j:Nat):Int)≤0 by omega),Int.toNat_natCast,show 2+j - 1=1+j by omega]
   have a1:(2^(55+j) - 1) / 2^(2+j)=9007199254740991:=by rw [hp]; refine Nat.div_eq_of_lt_le ?_ ?_ <;> omega
   have a2:(2^(55+j) - 1) / 2^(1+j)=18014398509481983:=by rw [hp]; refine Nat.div_eq_of_lt_le ?_ ?_ <;> omega
   have a3:(2^(55+j) - 1) % 2^(1+j) ≠ 0:=by
    rw [show 2^(55+j) - 1=2^(1+j) * 18014398509481983+(2^(1+j) - 1) by omega,Nat.mul_add_mod,Nat.mod_eq_of_lt (by omega)]; omega
   rw [a1,a2,decide_eq_true a3]
   rfl
  unfold wholeN
  rw [hparts]
  rcases (by omega:z=0 ∨ z=1 ∨ z=2 ∨ z=3) with rfl | rfl | rfl | rfl <;> decide
 unfold toB
 rw [hb,if_neg (by omega),if_neg (by omega),show unitOf (((55+j:Nat):Int) - 1+-((55+j:Nat):Int))=-53 by unfold unitOf; omega,show (-53:Int) - -((55+j:Nat):Int)=((2+j:Nat):Int) by omega,hw]
 rcases (by omega:z=0 ∨ z=1 ∨ z=2 ∨ z=3) with rfl | rfl | rfl | rfl <;> decide
theorem val_up (n:Nat):val (2^n+1) (-(n:Int))=1+1 / (2:Rat)^n:=by
 have:=two_pos n
 unfold val
 rw [z_neg]
 push_cast
 grind
theorem val_down (n:Nat):val (2^n - 1) (-(n:Int))=1 - 1 / (2:Rat)^n:=by
 have:=two_pos n
 unfold val
 rw [z_neg]
 have h:((2^n - 1:Nat):Rat)+1=(2:Rat)^n:=by rw [← two_cast]; have:=Nat.two_pow_pos n; exact_mod_cast (by omega:2^n - 1+1=2^n)
 grind
theorem step_in (n:Nat):0≤1 / (2:Rat)^n∧1 / (2:Rat)^n≤1:=by
 have t:=two_pos n
 have t1:1≤(2:Rat)^n:=by rw [← two_cast]; exact_mod_cast Nat.two_pow_pos n
 exact ⟨div_nn (by decide) (Rat.le_of_lt t),by rw [← Rat.not_lt,Rat.lt_div_iff t,Rat.not_lt]; grind⟩
theorem sure_more {b:Rat} {M K:Nat} {z:Int} {B:Nat} (hz:0≤z∧z≤3) (hB:(B:Int)=moreB z) (hb:1 < b) (hM:0 < M) (h:b^M≤(1+1 / (2:Rat)^55)^K):Sure b M K z B:=by
 obtain ⟨C,hC,hu⟩:=one_up K
 have h1:=pow_self_le (Rat.le_of_lt hb) hM
 obtain ⟨n,hn,hs⟩:=small_step (C:=C) (by grind:0 < b^M - 1)
 obtain ⟨j,rfl⟩:∃ j,n=55+j:=⟨n - 55,by omega⟩
 refine ⟨2^(55+j)+1,-((55+j:Nat):Int),2^55+1,-((55:Nat):Int),Nat.succ_ne_zero _,Nat.succ_ne_zero _,?_,?_,?_,?_⟩
 ·have:=toB_more j hz; omega
 ·have:(toB (2^55+1) (-((55:Nat):Int)) false z:Int)=moreB z:=toB_more 0 hz
  omega
 ·rw [val_up]
  have:=hu _ (step_in (55+j)).1 (step_in (55+j)).2
  grind
 ·rw [val_up]; exact h
theorem sure_less {b:Rat} {M K:Nat} {z:Int} {B:Nat} (hz:0≤z∧z≤3) (hB:(B:Int)=lessB z) (hb0:0 < b) (hb:b < 1) (hM:0 < M) (h:(1 - 1 / (2:Rat)^55)^K≤b^M):Sure b M K z B:=by
 have h1:=pow_le_self (Rat.le_of_lt hb0) (Rat.le_of_lt hb) hM
 obtain ⟨n,hn,hs⟩:=small_step (C:=(K:Rat)) (by grind:0 < 1 - b^M)
 obtain ⟨j,rfl⟩:∃ j,n=55+j:=⟨n - 55,by omega⟩
 refine ⟨2^55 - 1,-((55:Nat):Int),2^(55+j) - 1,-((55+j:Nat):Int),by omega,?_,?_,?_,?_,?_⟩
 ·have:=Nat.pow_le_pow_right (by decide:0 < 2) (show 55≤55+j by omega); omega
 ·have:(toB (2^55 - 1) (-((55:Nat):Int)) false z:Int)=lessB z:=toB_less 0 hz
  omega
 ·have:=toB_less j hz; omega
 ·rw [val_down]; exact h
 ·rw [val_down]
  have:=one_down K (step_in (55+j)).1 (step_in (55+j)).2
  grind
theorem e710:Q (710:Rat) ((2:Rat)^1024):=by
 obtain ⟨n,hn⟩:∃ n:Nat,n=1024:=⟨_,rfl⟩
 have h:=(ln2_up 30 n).2
 rw [← hn]
 refine h.le_z ?_
 rw [← Rat.not_lt,Rat.lt_div_iff (two_pos 30),Rat.not_lt,← two_cast]
 have:((atanhP 1 3 30).hi+(atanhP 1 3 30).hi) * n≤710 * 2^30:=by rw [hn]; decide +kernel
 exact_mod_cast this
theorem e746:P (-746:Rat) (1 / (2:Rat)^1076):=by
 obtain ⟨n,hn⟩:∃ n:Nat,n=1076:=⟨_,rfl⟩
 have h:=(ln2_up 30 n).2
 rw [← hn]
 have h2:Q (746:Rat) ((2:Rat)^n):=by
  refine h.le_z ?_
  rw [← Rat.not_lt,Rat.lt_div_iff (two_pos 30),Rat.not_lt,← two_cast]
  have:((atanhP 1 3 30).hi+(atanhP 1 3 30).hi) * n≤746 * 2^30:=by rw [hn]; decide +kernel
  exact_mod_cast this
 exact h2.neg
theorem etiny:P (1 / (2:Rat)^60) (1+1 / (2:Rat)^55):=by
 have t:=step_in 60
 have h:U (1 / (2:Rat)^60) (1+3 * (1 / (2:Rat)^60)):=fun n=>by
  have h1:=E_tail t.1 t.2 (m:=2) (by decide) n
  have e2:∀ b:Rat,E b 2+2 * ex b (2 - 1)=1+3 * b:=fun b=>by
   have:E b 2=0+ex b 0+ex b 1:=rfl
   have e0:ex b 0=1:=rfl
   have e1:ex b 1=ex b 0 * b / ((0+1:Nat):Rat):=rfl
   rw [this,e1,e0]
   push_cast
   grind
  rw [e2] at h1
  exact h1
 refine (P.ofU t.1 h).le_x ?_
 have e:(2:Rat)^60=(2:Rat)^55 * 32:=by rw [show (60:Nat)=55+5 from rfl,rpow_add]; congr 1
 have t5:=two_pos 55
 rw [e]
 generalize (2:Rat)^55=q at *
 have h32:1 / q=32 * (1 / (q * 32)):=by grind
 have:0≤1 / (q * 32):=div_nn (by decide) (by grind)
 grind
theorem rv_710:ofN 710=⟨false,355,1⟩:=by kernel_rfl
theorem rv_746:ofN (-746)=⟨true,373,1⟩:=by kernel_rfl
theorem minus_nearD:MinusD nearD=⟨true,1,-60⟩:=by kernel_rfl
theorem z_one:(2:Rat)^(1:Int)=2:=by rw [show (1:Int)=((1:Nat):Int) from rfl,z_nat]; grind
theorem ofN_1:ofN 1=⟨false,1,0⟩:=by kernel_rfl
theorem z_zero:(2:Rat)^(0:Int)=1:=by rw [show (0:Int)=((0:Nat):Int) from rfl,z_nat]; grind
theorem sign_bse {x y:Dn} {K:Nat} (hx:Zk K x) (hn:x.neg=false) (h0:x.m ≠ 0):(signA x y=1→1 < bse (val x.m x.e) (decide (ofM y < 0))∧ofM y ≠ 0)∧(signA x y=-1→bse (val x.m x.e) (decide (ofM y < 0)) < 1∧ofM y ≠ 0):=by
 have hv:=val_pos h0 x.e
 have e1:rv x=val x.m x.e:=by unfold rv; rw [hn]; simp
 have e2:rv (ofN 1)=1:=by rw [ofN_1]; unfold rv; simp only; rw [val_one,z_zero]; simp
 have z1:Zk K (ofN 1):=by rw [ofN_1]; exact ⟨by show -(K:Int)≤0; omega,by decide,by decide⟩
 have c:=CmpD_zk (K:=(K:Int)) (by omega) hx z1
 have k1:=rv_zk hx z1
 have k2:=rv_zk z1 hx
 rw [e1,e2] at k1 k2
 have lt1:zv K x < zv K (ofN 1)→val x.m x.e < 1:=fun h=>Rat.not_le.1 fun h2=>by have:=k2.1 h2; omega
 have lt2:zv K (ofN 1) < zv K x→1 < val x.m x.e:=fun h=>Rat.not_le.1 fun h2=>by have:=k1.1 h2; omega
 have inv1:val x.m x.e < 1→1 < 1 / val x.m x.e:=fun h=>by rw [Rat.lt_div_iff hv]; grind
 have inv2:1 < val x.m x.e→1 / val x.m x.e < 1:=fun h=>by rw [Rat.div_lt_iff hv]; grind
 have sM:signN y=0 ∨ (signN y=1∧decide (ofM y < 0)=false∧ofM y ≠ 0) ∨ (signN y=-1∧decide (ofM y < 0)=true∧ofM y ≠ 0):=by
  unfold signN ofM
  by_cases hy:y.m=0
  ·exact .inl (if_pos hy)
  ·right
   rw [if_neg hy]
   have:y.m * 2^(max y.e 0).toNat ≠ 0:=Nat.mul_ne_zero hy (by have:=Nat.two_pow_pos (max y.e 0).toNat; omega)
   generalize y.m * 2^(max y.e 0).toNat=q at *
   cases y.neg
   ·left; rw [if_neg (by simp),if_neg (by simp),decide_eq_false (by omega)]; exact ⟨rfl,rfl,by omega⟩
   ·right; rw [if_pos rfl,if_pos rfl,decide_eq_true (by omega)]; exact ⟨rfl,rfl,by omega⟩
 unfold signA
 rw [c]
 generalize zv K x=p at *
 generalize zv K (ofN 1)=q at *
 unfold bse
 rcases sM with s | ⟨s,s2,s3⟩ | ⟨s,s2,s3⟩
 ·rw [s,Int.zero_mul]; exact ⟨nofun,nofun⟩
 ·rw [s,s2,if_neg (by simp)]
  exact ⟨fun h=>⟨lt2 (cmpI_pos_iff.1 (by omega)),s3⟩,fun h=>⟨lt1 (cmpI_neg_iff.1 (by omega)),s3⟩⟩
 ·rw [s,s2,if_pos rfl]
  exact ⟨fun h=>⟨inv1 (lt1 (cmpI_neg_iff.1 (by omega))),s3⟩,fun h=>⟨inv2 (lt2 (cmpI_pos_iff.1 (by omega))),s3⟩⟩
theorem sure_cert {x y:Dn} (nu:NumOk x y) (hx:bareN x=x) (xe:-20000≤x.e∧x.e≤20000) {z:Int} (hz:0≤z∧z≤3) {B s:Nat} {f:Int} (hs:8≤s∧s≤2400) (c:CertS (zOf x y s) s (signA x y) z B f) :
  Sure (bse (val x.m x.e) (decide (ofM y < 0))) (ofM y).natAbs (ofK y) z B:=by
 have hbb:bareN (bareN x)=bareN x:=by rw [hx,hx]
 obtain ⟨L1,L2,p,q,z1,z2,z3,z4⟩:=z_rv nu hbb (by omega:s≤3000)
 obtain ⟨-,d1,d2,-⟩:=z_ok nu hs
 have xn:=nu.xneg
 have x0:=nu.x0
 rw [hx] at p q xn x0
 have yf:=@y_frac y
 have K0:0 < ofK y:=Nat.two_pow_pos _
 have hv:=val_pos x0 x.e
 have b0:0 < bse (val x.m x.e) (decide (ofM y < 0)):=by
  unfold bse
  split
  ·rw [Rat.lt_div_iff hv]; grind
  ·exact hv
 have sg:=sign_bse (x:=x) (y:=y) (K:=20000) ⟨by omega,by omega,by omega⟩ xn x0
 have zk1:Zk (8000:Nat) (zOf x y s).lo:=⟨by have:=d1.2.1; omega,by have:=d1.2.1; omega,by have:=d1.2.2; omega⟩
 have zk2:Zk (8000:Nat) (zOf x y s).hi:=⟨by have:=d2.2.1; omega,by have:=d2.2.1; omega,by have:=d2.2.2; omega⟩
 have low:∀ v,Q (rv (zOf x y s).lo) v→v^ofK y≤bse (val x.m x.e) (decide (ofM y < 0))^(ofM y).natAbs:=fun v h=>low_pow p q yf z1 z2 h
 have high:∀ v,P (rv (zOf x y s).hi) v→bse (val x.m x.e) (decide (ofM y < 0))^(ofM y).natAbs≤v^ofK y:=fun v h=>high_pow p q yf z3 z4 h
 clear p q z1 z2 z3 z4 yf
 rcases c with ⟨h,rfl⟩ | ⟨h,rfl⟩ | ⟨h1,h,hB⟩ | ⟨h1,h,hB⟩ | ⟨I,⟨n1,n2,l,h,c,d,k,a,b,E⟩,qi,i1,i2,hB1,hB2,-⟩
 ·refine sure_over K0 (low _ (e710.le_z ?_))
  have h2:=(CmpD_rv zk1 (b:=ofN 710) (by rw [rv_710]; exact ⟨by decide,by decide,by decide⟩)).2.1 h
  have e:rv (ofN 710)=710:=by rw [rv_710]; unfold rv val; simp only; rw [z_one]; simp; push_cast; grind
  rwa [e] at h2
 ·refine sure_under b0 K0 (high _ (e746.le_z ?_))
  have h2:=(CmpD_rv zk2 (b:=ofN (-746)) (by rw [rv_746]; exact ⟨by decide,by decide,by decide⟩)).1.1 h
  have e:rv (ofN (-746))=-746:=by rw [rv_746]; unfold rv val; simp only; rw [z_one]; simp; push_cast; grind
  rwa [e] at h2
 ·refine sure_more hz hB (sg.1 h1).1 (by have:=(sg.1 h1).2; omega) (high _ (etiny.le_z ?_))
  have h2:=(CmpD_rv zk2 (b:=nearD) ⟨by decide,by decide,by decide⟩).1.1 (by omega)
  have e:rv nearD=1 / (2:Rat)^60:=by unfold rv nearD; simp only; rw [val_one,show (-60:Int)=-((60:Nat):Int) from rfl,z_neg]; simp
  rwa [e] at h2
 ·refine sure_less hz hB b0 (sg.2 h1).1 (by have:=(sg.2 h1).2; omega) (low _ ?_)
  have h2:=(CmpD_rv zk1 (b:=MinusD nearD) (by rw [minus_nearD]; exact ⟨by decide,by decide,by decide⟩)).2.1 (by omega)
  have e:rv (MinusD nearD)=-(1 / (2:Rat)^60):=by rw [minus_nearD]; unfold rv; simp only; rw [val_one,show (-60:Int)=-((60:Nat):Int) from rfl,z_neg]; simp
  rw [e] at h2
  refine (etiny.neg.le_z h2).le_x ?_ ?_
  ·have t:=two_pos 55
   have t1:2≤(2:Rat)^55:=by rw [← two_cast]; exact_mod_cast (by decide:2≤2^55)
   have:1 / (2:Rat)^55 < 1:=by rw [Rat.div_lt_iff t]; grind
   grind
  ·have:=(step_in 55).1
   generalize 1 / (2:Rat)^55=q at *
   rw [← Rat.not_lt,Rat.div_lt_iff (by grind),Rat.not_lt]
   have:=Rat.mul_nonneg this this
   grind
 ·have e:=exp_PQ E d1 d2 (by omega:8≤s∧s≤3000)
  have r1:rv I.lo=val I.lo.m I.lo.e:=by unfold rv; rw [qi.1.ng]; simp
  have r2:rv I.hi=val I.hi.m I.hi.e:=by unfold rv; rw [qi.2.1.ng]; simp
  rw [r1,r2] at e
  exact ⟨_,_,_,_,i1,i2,hB1,hB2,low _ (e.1 (val_pos i1 _)),high _ e.2⟩
theorem sure_any {x y:Dn} (nu:NumOk x y) (hx:bareN x=x) (xe:-20000≤x.e∧x.e≤20000) (y0:y.m ≠ 0) {z:Int} (hz:0≤z∧z≤3) {B:Nat} {f:Int} (h:PPd x y z B f true) :
  Sure (bse (val x.m x.e) (decide (ofM y < 0))) (ofM y).natAbs (ofK y) z B:=by
 rcases h rfl with ⟨d,hd,hB,-⟩ | ⟨-,s,hs,hc⟩
 ·have hM:ofM y ≠ 0:=by
   unfold ofM
   have:y.m * 2^(max y.e 0).toNat ≠ 0:=Nat.mul_ne_zero y0 (by have:=Nat.two_pow_pos (max y.e 0).toNat; omega)
   split <;> omega
  obtain ⟨d0,h⟩:=exact_pow hM hd
  rw [hx] at h
  exact ⟨d.m,d.e,d.m,d.e,d0,d0,hB,hB,le_eq h,le_eq h.symm⟩
 ·exact sure_cert nu hx xe hz hs hc
theorem sure_le {b b':Rat} {M M' K K':Nat} {z:Int} {B B':Nat} (K0:0 < K) (K0':0 < K') (h:Sure b M K z B) (h':Sure b' M' K' z B') (hle:b^(M * K')≤b'^(M' * K)):B≤B':=by
 obtain ⟨m,e,-,-,m0,-,hB,-,hl,-⟩:=h
 obtain ⟨n,g,m',e',-,m0',-,hB',hl',hh⟩:=h'
 rw [hB,hB']
 refine toB_mono m0 m0' (le_of_pow (val_nn m' e') (Nat.mul_pos K0 K0') ?_)
 have h1:=pow_le (pow_nn (val_nn m e) K) hl K'
 have h2:=pow_le (Rat.le_trans (pow_nn (val_nn n g) K') hl') hh K
 rw [← rpow_mul,← rpow_mul] at h1 h2
 rw [Nat.mul_comm K' K] at h2
 exact Rat.le_trans h1 (Rat.le_trans hle h2)
def unB (b:Nat):Nat:=mant b * 2^(max (fld b) 1 - 1)
theorem unB_mono {a b:Nat} (h:a % 9223372036854775808≤b % 9223372036854775808):unB a≤unB b:=by
 unfold unB mant
 have a1:a % 9223372036854775808=fld a * 4503599627370496+frc a:=by unfold fld frc; omega
 have b1:b % 9223372036854775808=fld b * 4503599627370496+frc b:=by unfold fld frc; omega
 have a2:frc a < 4503599627370496:=Nat.mod_lt _ (by decide)
 have b2:frc b < 4503599627370496:=Nat.mod_lt _ (by decide)
 rw [a1,b1] at h
 generalize fld a=f at *
 generalize fld b=g at *
 generalize frc a=p at *
 generalize frc b=q at *
 by_cases hfg:f=g
 ·subst hfg
  refine Nat.mul_le_mul_right _ ?_
  split <;> omega
 ·have hlt:f < g:=by omega
  rw [if_neg (by omega:¬ g=0),show max g 1=g by omega]
  by_cases hf:f=0
  ·subst hf
   rw [if_pos rfl]
   exact Nat.mul_le_mul (by omega) (Nat.pow_le_pow_right (by decide) (by omega))
  ·rw [if_neg hf,show max f 1=f by omega]
   have h1:2^(f - 1+1)≤2^(g - 1):=Nat.pow_le_pow_right (by decide) (by omega)
   rw [Nat.pow_succ] at h1
   have h2:(p+4503599627370496) * 2^(f - 1)≤(2 * 4503599627370496) * 2^(f - 1):=Nat.mul_le_mul_right _ (by omega)
   have h3:4503599627370496 * (2^(f - 1) * 2)≤(q+4503599627370496) * 2^(g - 1):=Nat.mul_le_mul (by omega) h1
   generalize (q+4503599627370496) * 2^(g - 1)=R at *
   generalize (p+4503599627370496) * 2^(f - 1)=L at *
   omega
def u74:Rat:=(2:Rat)^(-1074:Int)
theorem u74_pos:0 < u74:=two_z (-1074)
theorem rv_bits {b:Nat} (hf:fld b < 2047):rv (dyD b)=if sgn b then -((unB b:Rat) * u74) else (unB b:Rat) * u74:=by
 have he:=dyE_in hf
 have e1:rv (dyD b)=rv ⟨sgn b,mant b,dyE b⟩:=rv_bare ⟨by show _≤dyE b; omega,by show dyE b≤_; omega⟩
 have e2:val (mant b) (dyE b)=(unB b:Rat) * u74:=by
  unfold val unB
  push_cast
  rw [show dyE b=((max (fld b) 1 - 1:Nat):Int)+(-1074) by unfold dyE; omega,z_add,z_nat]
  exact (Rat.mul_assoc _ _ _).symm
 rw [e1]
 unfold rv
 simp only
 rw [e2]
def ordN (b:Nat):Int:=if sgn b then -((b - 9223372036854775808:Nat):Int) else (b:Int)
theorem ord_rv {a b:Nat} (ha:a < 18446744073709551616) (hb:b < 18446744073709551616) (fa:fld a < 2047) (fb:fld b < 2047) (h:ordN a≤ordN b):rv (dyD a)≤rv (dyD b):=by
 rw [rv_bits fa,rv_bits fb]
 have hp:=u74_pos
 have le:∀ x y:Nat,x≤y→(x:Rat) * u74≤(y:Rat) * u74:=fun x y h=>Rat.mul_le_mul_of_nonneg_right (by exact_mod_cast h) (Rat.le_of_lt hp)
 have n0:∀ x:Nat,0≤(x:Rat) * u74:=fun x=>Rat.mul_nonneg (nn x) (Rat.le_of_lt hp)
 unfold ordN at h
 unfold sgn at *
 by_cases h1:9223372036854775808≤a
 ·rw [decide_eq_true h1] at h ⊢
  rw [if_pos rfl] at h ⊢
  by_cases h2:9223372036854775808≤b
  ·rw [decide_eq_true h2] at h ⊢
   rw [if_pos rfl] at h ⊢
   exact Rat.neg_le_neg (le _ _ (unB_mono (by omega)))
  ·rw [decide_eq_false h2] at h ⊢
   rw [if_neg (by simp)] at h ⊢
   have h3:=n0 (unB a)
   have h4:=n0 (unB b)
   grind
 ·rw [decide_eq_false h1] at h ⊢
  rw [if_neg (by simp)] at h ⊢
  by_cases h2:9223372036854775808≤b
  ·rw [decide_eq_true h2] at h ⊢
   rw [if_pos rfl] at h ⊢
   have ha0:a=0:=by omega
   have hb0:b=9223372036854775808:=by omega
   subst ha0 hb0
   have e1:unB 0=0:=by decide
   have e2:unB 9223372036854775808=0:=by decide
   rw [e1,e2]
   have:((0:Nat):Rat)=0:=rfl
   grind
  ·rw [decide_eq_false h2] at h ⊢
   rw [if_neg (by simp)] at h ⊢
   exact le _ _ (unB_mono (by omega))
def PSure (x y:Nat) (z:Int) (B:Nat):Prop:=Sure (bse (rv (dyD x)) (decide (ofM (dyD y) < 0))) (ofM (dyD y)).natAbs (ofK (dyD y)) z B
theorem one_toB {z:Int} (hz:0≤z∧z≤3):4607182418800017408=toB 1 0 false z:=by
 rcases (by omega:z=0 ∨ z=1 ∨ z=2 ∨ z=3) with rfl | rfl | rfl | rfl <;> decide
theorem sure_one {b:Rat} {M K:Nat} {z:Int} (hz:0≤z∧z≤3) (h:b^M=1):Sure b M K z 4607182418800017408:=by
 have e:val 1 0^K=1:=by rw [val_one,z_zero,one_pow]
 exact ⟨1,0,1,0,by decide,by decide,one_toB hz,one_toB hz,by rw [e,h]; exact Rat.le_refl,by rw [e,h]; exact Rat.le_refl⟩
theorem PSure.base1 {y:Nat} {z:Int} (hz:0≤z∧z≤3):PSure 4607182418800017408 y z 4607182418800017408:=by
 refine sure_one hz ?_
 have hd:dyD 4607182418800017408=⟨false,1,0⟩:=by kernel_rfl
 have e:rv ⟨false,1,0⟩=1:=by unfold rv; simp only; rw [val_one,z_zero]; simp
 rw [hd,e]
 have e2:∀ n,bse 1 n=1:=fun n=>by unfold bse; split <;> grind
 rw [e2,one_pow]
theorem PSure.exp0 {x y:Nat} {z:Int} (hz:0≤z∧z≤3) (h:fld y=0∧frc y=0):PSure x y z 4607182418800017408:=by
 refine sure_one hz ?_
 have hm:mant y=0:=by unfold mant; rw [if_pos h.1]; exact h.2
 have hd:dyD y=⟨false,0,0⟩:=bareN_zero hm
 rw [hd]
 have:ofM ⟨false,0,0⟩=0:=by decide
 rw [this]
 exact Rat.pow_zero _
theorem rv_pos {x:Nat} (hx:x < 9223372036854775808) (fx:fld x < 2047) (nx:¬ (fld x=0∧frc x=0)):rv (dyD x)=val (dyD x).m (dyD x).e∧0 < rv (dyD x):=by
 obtain ⟨x1,x2,-⟩:=dyD_parts fx nx
 have hs:sgn x=false:=decide_eq_false (by omega)
 have e:rv (dyD x)=val (dyD x).m (dyD x).e:=by unfold rv; rw [x1,hs]; simp
 exact ⟨e,by rw [e]; exact val_pos x2 _⟩
theorem PSure.of {x y:Nat} (hx:XOk x) (hy:YOk y) {z:Int} (hz:0≤z∧z≤3) {B:Nat} {f:Int} (h:PPd (dyD x) (dyD y) z B f true):PSure x y z B:=by
 obtain ⟨nu,y0,-⟩:=num_ok hx hy
 obtain ⟨-,-,-,-,-,x6,-,-⟩:=dyD_parts hx.fx hx.nx
 have sd:=(dyD_sd hx.fx hx.nx).1.2
 unfold PSure
 rw [(rv_pos hx.hx hx.fx hx.nx).1]
 exact sure_any nu x6 (by omega) y0 hz h
theorem inv_le {a b:Rat} (ha:0 < a) (h:a≤b):1 / b≤1 / a:=by
 rw [le_div ha]
 have:=Rat.mul_le_mul_of_nonneg_left h (div_nn (by decide) (by grind):0≤1 / b)
 grind
theorem K_pos (y:Dn):0 < ofK y:=Nat.two_pow_pos _
theorem grows_law {x x' y:Nat} (hx:x < 9223372036854775808) (hx':x' < 9223372036854775808) (fx:fld x < 2047) (fx':fld x' < 2047) (nx:¬ (fld x=0∧frc x=0)) (nx':¬ (fld x'=0∧frc x'=0)) (hle:x≤x') {z:Int} {B B':Nat} (h:PSure x y z B) (h':PSure x' y z B') :
  if sgn y then B'≤B else B≤B':=by
 obtain ⟨-,p⟩:=rv_pos hx fx nx
 obtain ⟨-,p'⟩:=rv_pos hx' fx' nx'
 have o:rv (dyD x)≤rv (dyD x'):=ord_rv (by omega) (by omega) fx fx' (by
  have e:∀ a,a < 9223372036854775808→ordN a=(a:Int):=fun a ha=>by unfold ordN sgn; rw [decide_eq_false (by omega)]; simp
  rw [e x hx,e x' hx']; omega)
 unfold PSure at h h'
 have K0:=K_pos (dyD y)
 have hneg:ofM (dyD y) < 0→sgn y=true:=by
  intro hl
  unfold ofM at hl
  have h2:(dyD y).neg=true:=by
   cases h3:(dyD y).neg
   ·rw [h3] at hl; simp only [Bool.false_eq_true,if_false] at hl; omega
   ·rfl
  have h4:(dyD y).neg=if mant y=0 then false else sgn y:=by
   unfold dyD
   by_cases h5:mant y=0
   ·rw [bareN_zero (d:=⟨sgn y,mant y,dyE y⟩) h5,if_pos h5]
   ·rw [bareN_pos (d:=⟨sgn y,mant y,dyE y⟩) h5,if_neg h5]
  rw [h2] at h4
  split at h4
  ·cases h4
  ·exact h4.symm
 have hpos:0 < ofM (dyD y)→sgn y=false:=by
  intro hl
  unfold ofM at hl
  have h2:(dyD y).neg=false:=by
   cases h3:(dyD y).neg
   ·rfl
   ·rw [h3] at hl; simp only [if_true] at hl; omega
  have h4:(dyD y).m ≠ 0:=by intro h0; rw [h0,Nat.zero_mul] at hl; split at hl <;> omega
  unfold dyD at h2 h4
  by_cases h5:mant y=0
  ·rw [bareN_zero (d:=⟨sgn y,mant y,dyE y⟩) h5] at h4; exact absurd rfl h4
  ·rw [bareN_pos (d:=⟨sgn y,mant y,dyE y⟩) h5] at h2; exact h2
 by_cases h0:ofM (dyD y)=0
 ·rw [h0] at h h'
  have e:∀ b c:Rat,∀ K,b^((0:Int).natAbs * K)≤c^((0:Int).natAbs * K):=fun b c K=>by rw [show (0:Int).natAbs * K=0 by simp,Rat.pow_zero,Rat.pow_zero]; exact Rat.le_refl
  split
  ·exact sure_le K0 K0 h' h (e _ _ _)
  ·exact sure_le K0 K0 h h' (e _ _ _)
 by_cases hn:ofM (dyD y) < 0
 ·rw [hneg hn,if_pos rfl]
  rw [decide_eq_true hn] at h h'
  refine sure_le K0 K0 h' h (pow_le ?_ ?_ _)
  ·unfold bse; rw [if_pos rfl]; exact div_nn (by decide) (Rat.le_of_lt p')
  ·unfold bse; rw [if_pos rfl,if_pos rfl]; exact inv_le p o
 ·rw [hpos (by omega),if_neg (by simp)]
  rw [decide_eq_false hn] at h h'
  refine sure_le K0 K0 h h' (pow_le (Rat.le_of_lt p) o _)
theorem pow_exp_le {a:Rat} (h:1≤a) {m n:Nat} (hmn:m≤n):a^m≤a^n:=by
 obtain ⟨k,rfl⟩:∃ k,n=m+k:=⟨n - m,by omega⟩
 rw [rpow_add]
 have h1:=pow_one_le h k
 have:=Rat.mul_le_mul_of_nonneg_left h1 (pow_nn (by grind:0≤a) m)
 grind
theorem rises_law {x y y':Nat} (h1:1≤rv (dyD x)) (hle:rv (dyD y)≤rv (dyD y')) {z:Int} {B B':Nat} (h:PSure x y z B) (h':PSure x y' z B'):B≤B':=by
 unfold PSure at h h'
 have f:=@y_frac (dyD y)
 have f':=@y_frac (dyD y')
 have K0:=K_pos (dyD y)
 have K0':=K_pos (dyD y')
 generalize dyD y=d at *
 generalize dyD y'=d' at *
 generalize rv (dyD x)=X at *
 refine sure_le K0 K0' h h' ?_
 generalize ofM d=M at *
 generalize ofM d'=M' at *
 generalize ofK d=K at *
 generalize ofK d'=K' at *
 have kp:(0:Rat) < (K:Rat):=by exact_mod_cast K0
 have kp':(0:Rat) < (K':Rat):=by exact_mod_cast K0'
 have hm:=Rat.mul_le_mul_of_nonneg_right (Rat.mul_le_mul_of_nonneg_right hle (Rat.le_of_lt kp)) (Rat.le_of_lt kp')
 rw [f] at hm
 have e:rv d' * (K:Rat) * (K':Rat)=rv d' * (K':Rat) * (K:Rat):=by grind
 rw [e,f'] at hm
 have inv:1 / X≤1:=by rw [← Rat.not_lt,Rat.lt_div_iff (by grind),Rat.not_lt]; grind
 have inv0:0≤1 / X:=div_nn (by decide) (by grind)
 unfold bse
 by_cases a:M < 0
 ·rw [decide_eq_true a,if_pos rfl] at hm ⊢
  have ha:(1 / X)^(M.natAbs * K')≤1:=pow_le_one inv0 inv _
  by_cases b:M' < 0
  ·rw [decide_eq_true b,if_pos rfl] at hm ⊢
   have hc:M'.natAbs * K≤M.natAbs * K':=by
    have:((M'.natAbs:Nat):Rat) * (K:Rat)≤((M.natAbs:Nat):Rat) * (K':Rat):=by grind
    exact_mod_cast this
   rw [inv_pow (by grind),inv_pow (by grind)]
   exact inv_le (by have:=pow_one_le h1 (M'.natAbs * K); grind) (pow_exp_le h1 hc)
  ·rw [decide_eq_false b,if_neg (by simp)]
   exact Rat.le_trans ha (pow_one_le h1 _)
 ·rw [decide_eq_false a,if_neg (by simp)] at hm ⊢
  by_cases b:M' < 0
  ·rw [decide_eq_true b,if_pos rfl] at hm ⊢
   have h3:((M.natAbs:Nat):Rat) * (K':Rat)+((M'.natAbs:Nat):Rat) * (K:Rat)≤0:=by grind
   have h4:M.natAbs * K'+M'.natAbs * K≤0:=by exact_mod_cast h3
   have h5:=Nat.mul_pos (by omega:0 < M'.natAbs) K0
   omega
  ·rw [decide_eq_false b,if_neg (by simp)] at hm ⊢
   refine pow_exp_le h1 ?_
   exact_mod_cast hm
end Go.Proofs.YtobpioceopfkpaaGreatDoor
namespace Go.Proofs.YtobpioceopfkpaaGreatDoor
open Go.RowKit
theorem kind_z {b:Nat} (hb:b < 18446744073709551616) (h0:fld b=0∧frc b=0) (w:World):Calls Tryz.prog 13 #[.int .u64 (b:Int)] w fun e w'=>e=.returned (.int .i64 0)∧w=w':=by
 have C:=h_ (fun w=>field_r hb w)
 have h1:=and_frac hb
 have h3:b % 4503599627370496=frc b:=rfl
 rw [h3,h0.2] at h1
 rw [h0.1] at C
 have h1:bits .and .u64 (b:Int) 4503599627370495=0:=h1
 clear h3 h0
 go_enter Tryz.func13,Tryz.ntmps13
 go_wp2_with fail
 refine (C.out _).mono ?_
 rintro q w1 ⟨rfl,rfl⟩
 go_wp2
 refine bodyPost_ret (v:=.int .i64 0) (by simp [results,Tryz.results13,go_sem]) rfl ⟨rfl,rfl⟩
theorem signals_z {b:Nat} (hb:b < 18446744073709551616) (h0:fld b=0∧frc b=0) (w:World):Calls Tryz.prog 59 #[.int .u64 (b:Int)] w fun e w'=>e=.returned (.bool false)∧w=w':=by
 have C:=h_ (fun w=>kind_z hb h0 w)
 clear h0
 go_enter Tryz.func59,Tryz.ntmps59
 go_wp2_with fail
 refine (C.out _).mono ?_
 rintro q w1 ⟨rfl,rfl⟩
 go_wp2
 exact bodyPost_ret (v:=.bool false) (by simp [results,Tryz.results59,go_sem]) rfl ⟨rfl,rfl⟩
theorem nought_z {b:Nat} (hb:b < 18446744073709551616) (h0:fld b=0∧frc b=0) (w:World):Calls Tryz.prog 61 #[.int .u64 (b:Int)] w fun e w'=>e=.returned (.bool true)∧w=w':=by
 have C:=h_ (fun w=>kind_z hb h0 w)
 clear h0
 go_enter Tryz.func61,Tryz.ntmps61
 go_wp2_with fail
 refine (C.out _).mono ?_
 rintro q w1 ⟨rfl,rfl⟩
 go_wp2
 exact bodyPost_ret (v:=.bool true) (by simp [results,Tryz.results61,go_sem]) rfl ⟨rfl,rfl⟩
theorem special_y0 {x y:Nat} (hx:x < 18446744073709551616) (fx:fld x < 2047) (nx:¬ (fld x=0∧frc x=0)) (hy:y < 18446744073709551616) (h0:fld y=0∧frc y=0) {w:World} (t:Tab w) :
  Calls Tryz.prog 25 #[.int .u64 (x:Int),.int .u64 (y:Int)] w fun e w'=>e=.returned (.tuple #[.agg #[.int .u64 4607182418800017408,.int .u8 0,.int .i64 0],.bool true])∧Below w.heap.size w w':=by
 have hm:mant y=0:=by unfold mant; rw [if_pos h0.1]; exact h0.2
 have hd:dyD y=⟨false,0,0⟩:=bareN_zero hm
 obtain ⟨wh,od,cw⟩:=whole_any hy (by omega) (by rw [hd]; decide)
 have CW:=h_ cw
 have CN:=h_ (fun w=>neg_r hy w)
 have Csx:=h_ (fun w=>signals_r hx fx nx w)
 have Csy:=h_ (fun w=>signals_z hy h0 w)
 have C0y:=h_ (fun w=>nought_z hy h0 w)
 have CI:=h_ (fun w=>is_one w)
 generalize sgn y=g at *
 have HT:=h_ t
 clear hy t cw h0 hm hd hx fx nx
 go_enter Tryz.func25,Tryz.ntmps25
 have F0:=h_ (Fz.one w 32 #[.int .u64 0,.int .u8 0,.int .i64 0])
 have T0:=h_ (HT.out.alloc (.cells #[.int .u64 0,.int .u8 0,.int .i64 0] 32))
 go_upto_region 1 with (fail)
 generalize World.alloc _ _=w0 at F0 T0 ⊢
 have c0:=F0.out.c3 0 rfl
 go_wp2_with fail
 clear c0
 refine (CW.out _ T0.out).mono ?_
 rintro q w1 ⟨rfl,hb⟩
 have F1:=h_ (F0.out.call hb)
 clear hb
 have c0:=F1.out.c3 0 rfl
 go_wp2_with fail
 refine (CN.out _).mono ?_
 rintro q w2 ⟨rfl,rfl⟩
 go_wp2_with fail
 refine (Csx.out _).mono ?_
 rintro q w2 ⟨rfl,rfl⟩
 go_wp2_with fail
 refine (Csy.out _).mono ?_
 rintro q w2 ⟨rfl,rfl⟩
 go_wp2_with fail
 refine (C0y.out _).mono ?_
 rintro q w2 ⟨rfl,rfl⟩
 go_wp2_with fail
 clear c0
 refine (CI.out _).mono ?_
 rintro q w2 ⟨rfl,hb⟩
 have F2:=h_ (F1.out.call hb)
 clear hb
 have c0:=F2.out.c3 0 rfl
 go_wp2
 have f:=F2.out.s3 0 rfl (.int .u64 4607182418800017408) (.int .u8 0) (.int .i64 0)
 generalize World.setCell (World.setCell (World.setCell _ _ _) _ _) _ _=W at f ⊢
 have g1:=f.c3 0 rfl
 refine bodyPost_ret (v:=.tuple #[.agg #[.int .u64 4607182418800017408,.int .u8 0,.int .i64 0],.bool true]) (by simp [results,Tryz.results25,go_sem,g1]) rfl ?_
 exact ⟨rfl,f.b⟩
theorem order_r {b:Nat} (hb:b < 18446744073709551616) (w:World):Calls Tryz.prog 12 #[.int .u64 (b:Int)] w fun e w'=>e=.returned (.int .i64 (ordN b))∧w=w':=by
 have e0:ordN b=if 9223372036854775808≤b then -((b - 9223372036854775808:Nat):Int) else (b:Int):=by
  unfold ordN sgn
  by_cases h:9223372036854775808≤b
  ·rw [decide_eq_true h,if_pos rfl,if_pos h]
  ·rw [decide_eq_false h,if_neg (by simp),if_neg h]
 rw [e0]
 clear e0
 by_cases h:9223372036854775808≤b
 ·rw [if_pos h]
  have h1:decide ((9223372036854775808:Int)≤(b:Int))=true:=decide_eq_true (by omega)
  have h2:decide (9223372036854775808≤b)=true:=decide_eq_true h
  obtain ⟨c,hc⟩:∃ c,c=b - 9223372036854775808:=⟨_,rfl⟩
  have h3:bits .andNot .u64 (b:Int) 9223372036854775808=(c:Int):=by
   rw [u64_andNot _ _ (Int.natCast_nonneg _) (by omega) (by decide) (by decide),Int.toNat_natCast]
   congr 1
   have h:=Nat.and_two_pow_sub_one_eq_mod b 63
   exact h.trans (by omega)
  rw [← hc]
  have hc2:c < 9223372036854775808:=by omega
  have h4:IntKind.i64.wrap (c:Int)=(c:Int):=IntWalk.i64_in _ (by omega)
  have h5:IntKind.i64.wrap (-(c:Int))=-(c:Int):=IntWalk.i64_in _ (by omega)
  clear hc h hb
  go_enter Tryz.func12,Tryz.ntmps12
  go_wp2
  go_ret
  exact ⟨rfl,rfl⟩
 ·rw [if_neg h]
  have h1:decide ((9223372036854775808:Int)≤(b:Int))=false:=decide_eq_false (by omega)
  have h2:decide (9223372036854775808≤b)=false:=decide_eq_false h
  have h4:IntKind.i64.wrap (b:Int)=(b:Int):=IntWalk.i64_in _ (by omega)
  clear h hb
  go_enter Tryz.func12,Tryz.ntmps12
  go_wp2
  go_ret
  exact ⟨rfl,rfl⟩
theorem zr_of {x:Nat} (hx:x < 18446744073709551616) (hs:sgn x=false) (h:fld x=0∧frc x=0):x=0:=by
 have h1:¬ 9223372036854775808≤x:=of_decide_eq_false hs
 unfold fld frc at h
 omega
def RetPS (PT:Nat→Prop) (w:World) (e:Ending) (w':World):Prop:=∃ (B f st n:Int),e=.returned (.tuple #[.agg #[.int .u64 B,.int .u8 f,.int .i64 st],.int .i64 n,.int .i64 0])∧(st=0→∃ B':Nat,B=(B':Int)∧PT B')∧Below w.heap.size w w'
theorem Pow_s {w:World} {x y:Nat} {z:Int} (hx:x < 9223372036854775808) (fx:fld x < 2047) (nx:¬ (fld x=0∧frc x=0)) (hy:y < 18446744073709551616) (fy:fld y < 2047) (hz:0≤z∧z≤3) (t:Tab w) :
  Calls Tryz.prog 11 #[.int .u64 (x:Int),.int .u64 (y:Int),howV z 512] w (RetPS (PSure x y z) w):=by
 by_cases ny:fld y=0∧frc y=0
 ·refine (Pow_is hz (by decide) (fun w t=>special_y0 (by omega) fx nx hy ny t) t).mono ?_
  rintro e w' ⟨h1,h2⟩
  exact ⟨_,_,_,_,h1,fun _=>⟨4607182418800017408,rfl,PSure.exp0 hz ny⟩,h2⟩
 by_cases h1:x=4607182418800017408
 ·subst h1
  refine (Pow_one ⟨hy,fy,ny⟩ hz (by decide) t).mono ?_
  rintro e w' ⟨h1,h2⟩
  exact ⟨_,_,_,_,h1,fun _=>⟨4607182418800017408,rfl,PSure.base1 hz⟩,h2⟩
 refine (Pow_t (.inl rfl) ⟨hx,fx,nx,h1⟩ ⟨hy,fy,ny⟩ hz t).mono ?_
 rintro e w' ⟨B,f,st,n,he,h2,h3⟩
 refine ⟨B,f,st,n,he,fun h0=>?_,h3⟩
 rcases h2 with ⟨-,B',hB,hp⟩ | ⟨h4,-⟩
 ·exact ⟨B',hB,PSure.of ⟨hx,fx,nx,h1⟩ ⟨hy,fy,ny⟩ hz hp⟩
 ·omega
theorem one_lt {x:Nat} (hx:x < 9223372036854775808) (fx:fld x < 2047) (h:4607182418800017408≤x):1≤rv (dyD x):=by
 have e:∀ a,a < 9223372036854775808→ordN a=(a:Int):=fun a ha=>by unfold ordN sgn; rw [decide_eq_false (by omega)]; simp
 have o:rv (dyD 4607182418800017408)≤rv (dyD x):=ord_rv (by decide) (by omega) (by decide) fx (by rw [e _ (by decide),e x hx]; omega)
 have hd:dyD 4607182418800017408=⟨false,1,0⟩:=by kernel_rfl
 have e1:rv ⟨false,1,0⟩=1:=by unfold rv; simp only; rw [val_one,z_zero]; simp
 rwa [hd,e1] at o
theorem Rises_go {w:World} (t:Tab w) {x y v d:Nat} (hx:x < 18446744073709551616) (hy:y < 18446744073709551616) (hv:v < 18446744073709551616) (hal:∀ w,Tab w→Calls Tryz.prog 8 #[] w fun e w'=>e=.returned (.bool true)∧Below w.heap.size w w') :
  Calls Tryz.prog 4 #[.int .u64 (x:Int),.int .u64 (y:Int),.int .u64 (v:Int),.int .u8 (d:Int)] w fun e w'=>e=.returned (.bool true)∧Below w.heap.size w w':=by
 have CA:=h_ hal
 have HT:=h_ t
 obtain ⟨z,hz⟩:∃ z,z=d % 4:=⟨_,rfl⟩
 have hz4:z < 4:=by omega
 have t3:(d:Int) % 4=(z:Int):=by omega
 have ec:IntKind.i64.wrap (z:Int)=(z:Int):=IntWalk.i64_in _ (by omega)
 have CFx:=h_ (fun w=>finite_r hx w)
 obtain ⟨fx,hfx⟩:∃ g,g=decide (fld x < 2047):=⟨_,rfl⟩
 rw [← hfx] at CFx
 have CFy:=h_ (fun w=>finite_r hy w)
 obtain ⟨fy,hfy⟩:∃ g,g=decide (fld y < 2047):=⟨_,rfl⟩
 rw [← hfy] at CFy
 have CFv:=h_ (fun w=>finite_r hv w)
 obtain ⟨fv,hfv⟩:∃ g,g=decide (fld v < 2047):=⟨_,rfl⟩
 rw [← hfv] at CFv
 have CNx:=h_ (fun w=>neg_r hx w)
 obtain ⟨sx,hsx⟩:∃ g,g=sgn x:=⟨_,rfl⟩
 rw [← hsx] at CNx
 obtain ⟨gx,hgx⟩:∃ g,g=decide (x≤4607182418800017408):=⟨_,rfl⟩
 have gx1:decide (x≤4607182418800017408)=gx:=hgx.symm
 have gx2:decide ((x:Int)≤4607182418800017408)=gx:=by rw [hgx]; by_cases h:x≤4607182418800017408 <;> simp [h] <;> omega
 have CO1:=h_ (fun w=>order_r hy w)
 have CO2:=h_ (fun w=>order_r hv w)
 obtain ⟨oy,hoy⟩:∃ g,g=ordN y:=⟨_,rfl⟩
 obtain ⟨ov,hov⟩:∃ g,g=ordN v:=⟨_,rfl⟩
 rw [← hoy] at CO1
 rw [← hov] at CO2
 obtain ⟨gt,hgt⟩:∃ g,g=decide (ov < oy):=⟨_,rfl⟩
 have gt1:decide (ov < oy)=gt:=hgt.symm
 have HZ:=h_ hz4
 have HA:=h_ (And.intro hx (And.intro hy hv))
 have Hfx:=h_ hfx
 have Hfy:=h_ hfy
 have Hfv:=h_ hfv
 have Hsx:=h_ hsx
 have Hgx:=h_ hgx
 have Hoy:=h_ hoy
 have Hov:=h_ hov
 have Hgt:=h_ hgt
 clear t hal hz hz4 hx hy hv hfx hfy hfv hsx hgx hoy hov hgt
 go_enter Tryz.func4,Tryz.ntmps4
 have F:=h_ (Fz.nil w)
 go_wp2_with fail
 refine (CA.out _ HT.out).mono ?_
 rintro q w1 ⟨rfl,hb⟩
 have F1:=h_ (F.out.call hb)
 have T1:=h_ (HT.out.below hb)
 clear F HT CA hb
 have F:=F1
 clear F1
 go_wp2_with fail
 refine (CFx.out _).mono ?_
 rintro q w2 ⟨rfl,rfl⟩
 cases fx
 ·go_wp2; go_ret; exact ⟨rfl,F.out.b⟩
 go_wp2_with fail
 refine (CFy.out _).mono ?_
 rintro q w2 ⟨rfl,rfl⟩
 cases fy
 ·go_wp2; go_ret; exact ⟨rfl,F.out.b⟩
 go_wp2_with fail
 refine (CFv.out _).mono ?_
 rintro q w2 ⟨rfl,rfl⟩
 cases fv
 ·go_wp2; go_ret; exact ⟨rfl,F.out.b⟩
 cases gx
 case true =>
  go_wp2_with fail
  refine (CNx.out _).mono ?_
  rintro q w2 ⟨rfl,rfl⟩
  cases sx <;> (go_wp2; go_ret; exact ⟨rfl,F.out.b⟩)
 go_wp2_with fail
 refine (CNx.out _).mono ?_
 rintro q w2 ⟨rfl,rfl⟩
 cases sx
 case true=>go_wp2; go_ret; exact ⟨rfl,F.out.b⟩
 go_wp2_with fail
 refine (CO1.out _).mono ?_
 rintro q w2 ⟨rfl,rfl⟩
 go_wp2_with fail
 refine (CO2.out _).mono ?_
 rintro q w2 ⟨rfl,rfl⟩
 clear CFx CFy CFv CNx CO1 CO2
 obtain ⟨hx,hy,hv⟩:=HA.out
 have hz4:=HZ.out
 have fx:fld x < 2047:=of_decide_eq_true Hfx.out.symm
 have fy:fld y < 2047:=of_decide_eq_true Hfy.out.symm
 have fv:fld v < 2047:=of_decide_eq_true Hfv.out.symm
 have x1:¬ x≤4607182418800017408:=of_decide_eq_false Hgx.out.symm
 have x63:x < 9223372036854775808:=by have:¬ 9223372036854775808≤x:=of_decide_eq_false Hsx.out.symm; omega
 have nx:¬ (fld x=0∧frc x=0):=fun h=>by have:=zr_of hx Hsx.out.symm h; omega
 have one:1≤rv (dyD x):=one_lt x63 fx (by omega)
 have CP:=h_ (fun w (t:Tab w)=>Pow_s (w:=w) (z:=(z:Int)) x63 fx nx hy fy (by omega) t)
 have CQ:=h_ (fun w (t:Tab w)=>Pow_s (w:=w) (z:=(z:Int)) x63 fx nx hv fv (by omega) t)
 unfold howV at *
 have HL1:=h_ (fun B B' (h:PSure x y (z:Int) B) (h':PSure x v (z:Int) B') (k:oy≤ov)=>rises_law one (ord_rv hy hv fy fv (by rw [← Hoy.out,← Hov.out]; exact k)) h h')
 have HL2:=h_ (fun B B' (h:PSure x v (z:Int) B) (h':PSure x y (z:Int) B') (k:ov≤oy)=>rises_law one (ord_rv hv hy fv fy (by rw [← Hoy.out,← Hov.out]; exact k)) h h')
 have HG:=h_ Hgt.out
 clear HA HZ Hfx Hfy Hfv Hsx Hgx Hoy Hov Hgt hx hy hv hz4 fx fy fv x1 x63 nx one
 cases gt
 case true =>
  skip
  go_upto_region 8 with (fail)
  have F3:=h_ (F.out.new 28 #[.int .i64 (z:Int),.int .i64 64,.int .i64 512,.pointer none])
  have T3:=h_ (T1.out.alloc (.cells #[.int .i64 (z:Int),.int .i64 64,.int .i64 512,.pointer none] 28))
  clear F T1
  obtain ⟨g1,hg1⟩:∃ g,g=(World.heap w1).size:=⟨_,rfl⟩
  rw [← hg1] at F3 ⊢
  clear hg1
  simp only [List.nil_append] at F3
  generalize World.alloc w1 _=W3 at F3 T3 ⊢
  have c0:=F3.out.c4 0 rfl
  go_wp2_with fail
  clear c0
  refine (CQ.out _ T3.out).mono ?_
  rintro q w4 ⟨B1,f1,s1,n1,rfl,hp,hb⟩
  have F4:=h_ (F3.out.call hb)
  have T4:=h_ (T3.out.below hb)
  clear F3 T3 hb
  have H1:=h_ hp
  clear hp
  have c0:=F4.out.c4 0 rfl
  go_upto_region 9 with (fail)
  clear c0
  have F5:=h_ (F4.out.new 32 #[.int .u64 B1,.int .u8 f1,.int .i64 s1])
  have T5:=h_ (T4.out.alloc (.cells #[.int .u64 B1,.int .u8 f1,.int .i64 s1] 32))
  clear F4 T4
  obtain ⟨g2,hg⟩:∃ g,g=(World.heap w4).size:=⟨_,rfl⟩
  rw [← hg] at F5 ⊢
  clear hg
  simp only [List.nil_append,List.cons_append] at F5
  generalize World.alloc w4 _=W5 at F5 T5 ⊢
  have c0:=F5.out.c4 0 rfl
  have c1:=F5.out.c3 1 rfl
  go_wp2_with fail
  clear c0 c1
  refine (CP.out _ T5.out).mono ?_
  rintro q w6 ⟨B2,f2,s2,n2,rfl,hp,hb⟩
  have F6:=h_ (F5.out.call hb)
  have T6:=h_ (T5.out.below hb)
  clear F5 T5 hb
  have H2:=h_ hp
  clear hp
  have c0:=F6.out.c4 0 rfl
  have c1:=F6.out.c3 1 rfl
  go_upto_region 10 with (fail)
  clear c0 c1
  have F7:=h_ (F6.out.new 32 #[.int .u64 B2,.int .u8 f2,.int .i64 s2])
  have T7:=h_ (T6.out.alloc (.cells #[.int .u64 B2,.int .u8 f2,.int .i64 s2] 32))
  clear F6 T6
  obtain ⟨g3,hg⟩:∃ g,g=(World.heap w6).size:=⟨_,rfl⟩
  rw [← hg] at F7 ⊢
  clear hg
  simp only [List.nil_append,List.cons_append] at F7
  generalize World.alloc w6 _=W7 at F7 T7 ⊢
  have c0:=F7.out.c4 0 rfl
  have c1:=F7.out.c3 1 rfl
  have c2:=F7.out.c3 2 rfl
  by_cases h1:s1=0
  case neg =>
   have y1:(s1 == 0)=false:=by rw [beq_eq_false_iff_ne]; exact h1
   have y2:(s1 != 0)=true:=by simp [h1]
   clear h1
   go_wp2
   go_ret
   exact ⟨rfl,F7.out.b⟩
  subst h1
  obtain ⟨b1,e1,p1⟩:=H1.out rfl
  subst e1
  have P1:=h_ p1
  clear H1 p1
  by_cases h2:s2=0
  case neg =>
   have y1:(s2 == 0)=false:=by rw [beq_eq_false_iff_ne]; exact h2
   have y2:(s2 != 0)=true:=by simp [h2]
   clear h2
   go_wp2
   go_ret
   exact ⟨rfl,F7.out.b⟩
  subst h2
  obtain ⟨b2,e2,p2⟩:=H2.out rfl
  subst e2
  have P2:=h_ p2
  clear H2 p2
  have hle:=HL2.out _ _ P1.out P2.out (Int.le_of_lt (of_decide_eq_true HG.out.symm))
  clear HL1 HL2 HG P1 P2
  have l1:decide (b1≤b2)=true:=decide_eq_true hle
  have l2:decide ((b1:Int)≤(b2:Int))=true:=decide_eq_true (by omega)
  clear hle
  go_wp2
  go_ret
  exact ⟨rfl,F7.out.b⟩
 case false =>
  skip
  go_upto_region 8 with (fail)
  have F3:=h_ (F.out.new 28 #[.int .i64 (z:Int),.int .i64 64,.int .i64 512,.pointer none])
  have T3:=h_ (T1.out.alloc (.cells #[.int .i64 (z:Int),.int .i64 64,.int .i64 512,.pointer none] 28))
  clear F T1
  obtain ⟨g1,hg1⟩:∃ g,g=(World.heap w1).size:=⟨_,rfl⟩
  rw [← hg1] at F3 ⊢
  clear hg1
  simp only [List.nil_append] at F3
  generalize World.alloc w1 _=W3 at F3 T3 ⊢
  have c0:=F3.out.c4 0 rfl
  go_wp2_with fail
  clear c0
  refine (CP.out _ T3.out).mono ?_
  rintro q w4 ⟨B1,f1,s1,n1,rfl,hp,hb⟩
  have F4:=h_ (F3.out.call hb)
  have T4:=h_ (T3.out.below hb)
  clear F3 T3 hb
  have H1:=h_ hp
  clear hp
  have c0:=F4.out.c4 0 rfl
  go_upto_region 9 with (fail)
  clear c0
  have F5:=h_ (F4.out.new 32 #[.int .u64 B1,.int .u8 f1,.int .i64 s1])
  have T5:=h_ (T4.out.alloc (.cells #[.int .u64 B1,.int .u8 f1,.int .i64 s1] 32))
  clear F4 T4
  obtain ⟨g2,hg⟩:∃ g,g=(World.heap w4).size:=⟨_,rfl⟩
  rw [← hg] at F5 ⊢
  clear hg
  simp only [List.nil_append,List.cons_append] at F5
  generalize World.alloc w4 _=W5 at F5 T5 ⊢
  have c0:=F5.out.c4 0 rfl
  have c1:=F5.out.c3 1 rfl
  go_wp2_with fail
  clear c0 c1
  refine (CQ.out _ T5.out).mono ?_
  rintro q w6 ⟨B2,f2,s2,n2,rfl,hp,hb⟩
  have F6:=h_ (F5.out.call hb)
  have T6:=h_ (T5.out.below hb)
  clear F5 T5 hb
  have H2:=h_ hp
  clear hp
  have c0:=F6.out.c4 0 rfl
  have c1:=F6.out.c3 1 rfl
  go_upto_region 10 with (fail)
  clear c0 c1
  have F7:=h_ (F6.out.new 32 #[.int .u64 B2,.int .u8 f2,.int .i64 s2])
  have T7:=h_ (T6.out.alloc (.cells #[.int .u64 B2,.int .u8 f2,.int .i64 s2] 32))
  clear F6 T6
  obtain ⟨g3,hg⟩:∃ g,g=(World.heap w6).size:=⟨_,rfl⟩
  rw [← hg] at F7 ⊢
  clear hg
  simp only [List.nil_append,List.cons_append] at F7
  generalize World.alloc w6 _=W7 at F7 T7 ⊢
  have c0:=F7.out.c4 0 rfl
  have c1:=F7.out.c3 1 rfl
  have c2:=F7.out.c3 2 rfl
  by_cases h1:s1=0
  case neg =>
   have y1:(s1 == 0)=false:=by rw [beq_eq_false_iff_ne]; exact h1
   have y2:(s1 != 0)=true:=by simp [h1]
   clear h1
   go_wp2
   go_ret
   exact ⟨rfl,F7.out.b⟩
  subst h1
  obtain ⟨b1,e1,p1⟩:=H1.out rfl
  subst e1
  have P1:=h_ p1
  clear H1 p1
  by_cases h2:s2=0
  case neg =>
   have y1:(s2 == 0)=false:=by rw [beq_eq_false_iff_ne]; exact h2
   have y2:(s2 != 0)=true:=by simp [h2]
   clear h2
   go_wp2
   go_ret
   exact ⟨rfl,F7.out.b⟩
  subst h2
  obtain ⟨b2,e2,p2⟩:=H2.out rfl
  subst e2
  have P2:=h_ p2
  clear H2 p2
  have hle:=HL1.out _ _ P1.out P2.out (Int.not_lt.1 (of_decide_eq_false HG.out.symm))
  clear HL1 HL2 HG P1 P2
  have l1:decide (b1≤b2)=true:=decide_eq_true hle
  have l2:decide ((b1:Int)≤(b2:Int))=true:=decide_eq_true (by omega)
  clear hle
  go_wp2
  go_ret
  exact ⟨rfl,F7.out.b⟩
end Go.Proofs.YtobpioceopfkpaaGreatDoor
