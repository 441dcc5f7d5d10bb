/-
  Lemmas for WholeTurned and WholeGrows and WholeRises, part 26 of 36: what the program's functions do, and plain facts; without conditions.
-/
import Derived.Test.YtobpioceopfkpaaGreatDoorM25
import Derived.Test.YtobpioceopfkpaaGreatDoorM09
import Derived.Test.YtobpioceopfkpaaGreatDoorM18
import Derived.Test.YtobpioceopfkpaaGreatDoorM07
import Derived.Test.YtobpioceopfkpaaGreatDoorM06
set_option maxRecDepth 100000
set_option maxHeartbeats 4000000
namespace Go.Proofs.YtobpioceopfkpaaGreatDoor
open Go.RowKit
def cellNat (w:World) (b i:Nat):Nat:=match w.cell? ⟨b,i,none⟩ with
 | some v=>(intOf v).toNat
 | none=>0
def decL (w:World) (b:Nat):Nat→Nat→Nat
 | _,0=>0
 | o,n+1=>cellNat w b o+18446744073709551616 * decL w b (o+1) n
def decV (w:World):Value→Nat
 | .slice (some a) n _=>decL w a.block a.off n
 | _=>0
theorem decL_of {w:World} {b:Nat} (L:List Nat):∀ o:Nat,(∀ (i x:Nat),L[i]?=some x→w.cell? ⟨b,o+i,none⟩=some (.int .u64 (x:Int)))→decL w b o L.length=ofd L:=by
 induction L with
 | nil=>intro o _; rfl
 | cons x xs ih =>
  intro o h
  have h0:=h 0 x rfl
  have h1:=ih (o+1) (fun i y hy=>by have:=h (i+1) y hy; rwa [show o+(i+1)=o+1+i by omega] at this)
  show cellNat w b o+18446744073709551616 * decL w b (o+1) xs.length=x+18446744073709551616 * ofd xs
  rw [h1]
  have h2:cellNat w b o=x:=by
   unfold cellNat
   rw [Nat.add_zero] at h0
   rw [h0]
   simp [intOf]
  rw [h2]
theorem Dg.dec {w:World} {v:Value} {n:Nat} (h:Dg w v n):decV w v=n:=by
 obtain ⟨L,h1,h2⟩:=h
 obtain ⟨a,c,rfl,h3⟩:=h1.sl.form
 rw [← h2.val]
 cases L with
 | nil=>cases a <;> rfl
 | cons x xs =>
  obtain ⟨b,o,rfl,h4⟩:=h3 (by simp)
  exact decL_of (x :: xs) o h4
def stepN (a x k:Nat):Nat:=(x * (k - 1)+a / x^(k - 1)) / k
theorem step_bl {a x k:Nat} (ha:a < 18446744073709551616) (hx:x < 18446744073709551616) (hk:k≤64):bl (stepN a x k)≤71:=by
 unfold stepN
 have h1:=Nat.div_le_self (x * (k - 1)+a / x^(k - 1)) k
 have h2:=Nat.div_le_self a (x^(k - 1))
 have h3:x * (k - 1)≤x * 64:=Nat.mul_le_mul_left _ (by omega)
 generalize a / x^(k - 1)=q at *
 generalize x * (k - 1)=y at *
 generalize (y+q) / k=z at *
 exact bl_le (k:=71) (by omega)
theorem step_pos {a x k:Nat} (ha:a ≠ 0) (hx:x ≠ 0) (hk:2≤k):stepN a x k ≠ 0:=by
 unfold stepN
 have h:k≤x * (k - 1)+a / x^(k - 1):=by
  by_cases h1:x=1
  ·subst h1; rw [Nat.one_pow,Nat.div_one]; omega
  ·have h2:2 * (k - 1)≤x * (k - 1):=Nat.mul_le_mul_right _ (by omega)
   generalize a / x^(k - 1)=q
   generalize x * (k - 1)=y at *
   omega
 have:=Nat.div_pos h (by omega)
 omega
theorem step_r {w:World} {u v:Value} {a x k:Nat} (hu:Dg w u a) (hv:Dg w v x) (ba:a < 18446744073709551616) (bx:x < 18446744073709551616) (h0:x ≠ 0) (hk:2≤k∧k≤64) :
  Calls Tryz.prog 185 #[u,v,.int .i64 (k:Int)] w (RetDg (stepN a x k) w):=by
 obtain ⟨j,rfl⟩:∃ j,k=j+1:=⟨k - 1,by omega⟩
 obtain ⟨hk1,hk2⟩:=hk
 have la:=bl64 ba
 have lx:=bl64 bx
 have lp:j * bl x≤4096:=Nat.le_trans (Nat.mul_le_mul (by omega:j≤64) lx) (by decide)
 unfold stepN
 rw [show j+1 - 1=j from rfl]
 have bp:bl (x^j)≤5000:=Nat.le_trans (pow_bl x j) (by omega)
 have p0:0 < x^j:=Nat.pos_of_ne_zero (by intro h; exact h0 (Nat.pow_eq_zero.1 h).1)
 have bq:bl (a / x^j)≤64:=Nat.le_trans (bl_mono (Nat.div_le_self _ _)) la
 have bm:bl (x * j)≤200:=Nat.le_trans (bl_mul _ _) (by have:=bl64 (x:=j) (by omega); omega)
 have bs:bl (x * j+a / x^j)≤201:=by
  apply bl_le
  have h1:=lt_bl (x * j)
  have h2:=lt_bl (a / x^j)
  have h3:2^bl (x * j)≤2^200:=Nat.pow_le_pow_right (by decide) (by omega)
  have h4:2^bl (a / x^j)≤2^200:=Nat.pow_le_pow_right (by decide) (by omega)
  have h5:2^201=2^200 * 2:=Nat.pow_succ 2 200
  generalize 2^200=P at *
  generalize 2^201=P2 at *
  omega
 have CP:=h_ (fun w v (h:Dg w v x)=>Pow_n (k:=j) (h.rd (by omega)) (by omega) (by omega) bx)
 have CD:=h_ (fun w u v (h:Dg w u a) (k:Dg w v (x^j))=>Div_g (h.rd (by omega)) (k.rd (by omega)) p0 (by omega) (by omega))
 have CT:=h_ (fun w v (h:Dg w v x)=>times_s (n:=j) (h.rd (by omega)) (by omega) (by omega))
 have CA:=h_ (fun w u v (h:Dg w u (x * j)) (k:Dg w v (a / x^j))=>add_r (h.rd (by omega)) (k.rd (by omega)))
 have CS:=h_ (fun w u (h:Dg w u (x * j+a / x^j))=>Small_r (n:=j+1) (h.rd (by omega)) (by omega) (by omega))
 have e0:((j+1:Nat):Int) - 1=(j:Int):=by omega
 have e1:IntKind.i64.wrap (j:Int)=(j:Int):=IntWalk.i64_in _ (by omega)
 have e2:IntKind.u64.wrap (j:Int)=(j:Int):=by rw [IntKind.wrap_u64]; omega
 obtain ⟨kk,hkk⟩:∃ kk:Int,kk=((j+1:Nat):Int):=⟨_,rfl⟩
 have e3:IntKind.u64.wrap kk=kk:=by rw [IntKind.wrap_u64]; omega
 rw [← hkk] at e0 CS ⊢
 have HU:=h_ hu
 have HV:=h_ hv
 clear hkk hu hv ba bx h0 hk1 hk2 la lx lp bp p0 bq bm bs
 generalize x^j=p at *
 generalize a / p=q at *
 generalize x * j=m at *
 have A0:=HU
 have X0:=HV
 have F0:=h_ (Fz.nil w)
 clear HU HV
 go_enter Tryz.func185,Tryz.ntmps185
 go_wp2_with fail
 refine (CP.out _ _ X0.out).mono ?_
 rintro q w1 ⟨u1,rfl,hu,hb⟩
 have F1:=h_ (F0.out.call hb)
 have A1:=h_ (A0.out.below hb)
 have X1:=h_ (X0.out.below hb)
 clear F0 A0 X0
 have P1:=h_ (hu)
 clear hb
 go_wp2_with fail
 refine (CD.out _ _ _ A1.out P1.out).mono ?_
 rintro q w2 ⟨u2,u3,rfl,hu,-,hb⟩
 have F2:=h_ (F1.out.call hb)
 have A2:=h_ (A1.out.below hb)
 have X2:=h_ (X1.out.below hb)
 have P2:=h_ (P1.out.below hb)
 clear F1 A1 X1 P1
 have Q2:=h_ (hu)
 clear hb
 go_wp2_with fail
 refine (CT.out _ _ X2.out).mono ?_
 rintro q w3 ⟨u4,rfl,hu,hb⟩
 have F3:=h_ (F2.out.call hb)
 have A3:=h_ (A2.out.below hb)
 have X3:=h_ (X2.out.below hb)
 have P3:=h_ (P2.out.below hb)
 have Q3:=h_ (Q2.out.below hb)
 clear F2 A2 X2 P2 Q2
 have M3:=h_ (hu)
 clear hb
 go_wp2_with fail
 refine (CA.out _ _ _ M3.out Q3.out).mono ?_
 rintro q w4 ⟨u5,rfl,hu,hb⟩
 have F4:=h_ (F3.out.call hb)
 have A4:=h_ (A3.out.below hb)
 have X4:=h_ (X3.out.below hb)
 have P4:=h_ (P3.out.below hb)
 have Q4:=h_ (Q3.out.below hb)
 have M4:=h_ (M3.out.below hb)
 clear F3 A3 X3 P3 Q3 M3
 have S4:=h_ (hu)
 clear hb
 go_wp2_with fail
 refine (CS.out _ _ S4.out).mono ?_
 rintro q w5 ⟨u6,rfl,hu,hb⟩
 have F5:=h_ (F4.out.call hb)
 have A5:=h_ (A4.out.below hb)
 have X5:=h_ (X4.out.below hb)
 have P5:=h_ (P4.out.below hb)
 have Q5:=h_ (Q4.out.below hb)
 have M5:=h_ (M4.out.below hb)
 have S5:=h_ (S4.out.below hb)
 clear F4 A4 X4 P4 Q4 M4 S4
 have R5:=h_ (hu)
 clear hb
 go_wp2
 go_ret
 exact ⟨_,rfl,R5.out,F5.out.b⟩
theorem floor_r {w:World} {u:Value} {a k:Nat} (hu:Dg w u a) (ba:a < 18446744073709551616) (h0:a ≠ 0) (hk:2≤k∧k≤64) :
  Calls Tryz.prog 176 #[u,.int .i64 (k:Int)] w fun e w'=>∃ v r,e=.returned v∧Dg w' v r∧r ≠ 0∧r < 17179869184∧Below w.heap.size w w':=by
 obtain ⟨hk1,hk2⟩:=hk
 have la:=bl64 ba
 have CB:=h_ (fun w u (h:Dg w u a)=>bits_r (h.rd (by omega)))
 have C1:=h_ (fun w (t:Tab w)=>(show Calls Tryz.prog 124 #[.int .u64 1] w (RetDg 1 w) from of_any (n:=1) (by decide) t))
 obtain ⟨b,hb⟩:∃ b,b=bl a:=⟨_,rfl⟩
 rw [← hb] at CB la
 have A0:=h_ hu
 have F0:=h_ (Fz.nil w)
 have HA:=h_ (And.intro h0 ba)
 have HK:=h_ (And.intro hk1 hk2)
 clear hu hb h0 ba
 go_enter Tryz.func176,Tryz.ntmps176
 go_wp2_with fail
 refine (CB.out _ _ A0.out).mono ?_
 rintro q w1 ⟨rfl,hb⟩
 have F1:=h_ (F0.out.call hb)
 have A1:=h_ (A0.out.below hb)
 clear F0 A0
 clear hb
 by_cases hkb:b≤k
 ·have z1:decide ((b:Int)≤(k:Int))=true:=decide_eq_true (by omega)
  have z2:decide (b≤k)=true:=decide_eq_true hkb
  go_wp2_with fail
  refine (C1.out _ A1.out.tab).mono ?_
  rintro q w2 ⟨u1,rfl,hu,hb⟩
  have F2:=h_ (F1.out.call hb)
  have A2:=h_ (A1.out.below hb)
  clear F1 A1
  have R2:=h_ (hu)
  clear hb
  go_wp2
  go_ret
  exact ⟨_,1,rfl,R2.out,by decide,by decide,F2.out.b⟩
 have z1:decide ((b:Int)≤(k:Int))=false:=decide_eq_false (by omega)
 have z2:decide (b≤k)=false:=decide_eq_false hkb
 obtain ⟨q,hq⟩:∃ q,q=(b+k - 1) / k:=⟨_,rfl⟩
 have hq1:q≤33:=by
  have h1:(b+k - 1) / k≤(b+k - 1) / 1:=Nat.div_le_div_left (by omega) (by decide)
  have h2:q * k≤b+k - 1:=hq ▸ Nat.div_mul_le_self _ _
  apply Nat.not_lt.1
  intro hc
  have h3:34 * k≤q * k:=Nat.mul_le_mul_right _ hc
  omega
 have hk0:¬ (k:Int)=0:=by omega
 have hk00:((k:Int) == 0)=false:=by rw [beq_eq_false_iff_ne]; exact hk0
 have hk000:¬ k=0:=by omega
 have hk0000:(k == 0)=false:=by rw [beq_eq_false_iff_ne]; exact hk000
 obtain ⟨bk,hbk⟩:∃ bk:Int,bk=(b:Int)+(k:Int):=⟨_,rfl⟩
 obtain ⟨bk1,hbk1⟩:∃ bk1:Int,bk1=bk - 1:=⟨_,rfl⟩
 have e1:(b:Int)+(k:Int)=bk:=hbk.symm
 have e2:IntKind.i64.wrap bk=bk:=IntWalk.i64_in _ (by omega)
 have e3:bk - 1=bk1:=hbk1.symm
 have e4:IntKind.i64.wrap bk1=bk1:=IntWalk.i64_in _ (by omega)
 have e5:bk1.tdiv (k:Int)=(q:Int):=by
  rw [hbk1,hbk,hq,show (b:Int)+(k:Int) - 1=((b+k - 1:Nat):Int) by omega]; rfl
 have e6:IntKind.i64.wrap (q:Int)=(q:Int):=IntWalk.i64_in _ (by omega)
 have CS:=h_ (fun w u (h:Dg w u 1)=>shl_s (h.rd (by decide)) q (by have:bl 1=1:=rfl; omega))
 rw [Nat.one_mul] at CS
 have hx1:2^q < 17179869184:=Nat.lt_of_le_of_lt (Nat.pow_le_pow_right (by decide) hq1) (by decide)
 have hx0:2^q ≠ 0:=by have:=Nat.two_pow_pos q; omega
 generalize 2^q=x at *
 have HX:=h_ (And.intro hx0 hx1)
 clear hx0 hx1 hq1 hbk hbk1 hq
 go_upto_region 4 with (fail)
 have FCD:=h_ ((A1.out.drew))
 go_region_held3 (fun w'=>Dg w' u a) (first | with_reducible exact FCD.out | with_reducible exact FC.out) (first | (go_at_call 125; (with_reducible refine (CS.out _ _ O2.out).mono ?_); rintro q ww3 ⟨u2,rfl,hu,hb⟩; have F3:=h_ (F2.out.call hb); have A3:=h_ (A2.out.below hb); have O3:=h_ (O2.out.below hb); have X3:=h_ (hu); have FC:=h_ (A3.out); clear hb) | (go_at_call 124; (with_reducible refine (C1.out _ (A1.out.drew).tab).mono ?_); rintro q ww2 ⟨u1,rfl,hu,hb⟩; have F2:=h_ ((F1.out.drew).call hb); have A2:=h_ ((A1.out.drew).below hb); have O2:=h_ (hu); have FC:=h_ (A2.out); clear hb))
 clear O3
 go_wp2
 have B0:=h_ (show x≤x from Nat.le_refl _)
 go_loopw [6] (fun ta wr=>∃ x:Nat,Hid (x ≠ 0∧x < 17179869184)∧Hid (Dg wr ta x)∧Hid (Dg wr u a)∧Hid (Fz w wr [])) (fun ta wr=>decV wr ta)
 case atStart=>exact ⟨x,HX,X3,A3,F3⟩
 case round =>
  clear F3 A3 X3 HX B0
  obtain ⟨x,hI,hX,hA,hF⟩:=hrel
  have hm:=h_ hX.out.dec
  have CT:=h_ (fun w v (hv:Dg w v x) (ha:Dg w u a)=>step_r (k:=k) ha hv HA.out.2 (Nat.lt_trans hI.out.2 (by decide)) hI.out.1 HK.out)
  have hy0:stepN a x k ≠ 0:=step_pos HA.out.1 hI.out.1 HK.out.1
  have HYB:Hid (bl (stepN a x k)≤71):=step_bl HA.out.2 (Nat.lt_trans hI.out.2 (by decide)) HK.out.2
  generalize stepN a x k=y at *
  have HY:=h_ hy0
  clear hy0
  go_wp2_with fail
  refine (CT.out _ _ hX.out hA.out).mono ?_
  rintro e w5 ⟨u5,rfl,h5,hb⟩
  have Y5:=h_ h5
  have X5:=h_ (hX.out.below hb)
  have A5:=h_ (hA.out.below hb)
  have F5:=h_ (hF.out.call hb)
  clear h5 hb hX hA hF CT
  by_cases hyx:y < x
  ·have by':bl y≤64:=bl64 (Nat.lt_trans hyx (Nat.lt_trans hI.out.2 (by decide)))
   have bx':bl x≤64:=bl64 (Nat.lt_trans hI.out.2 (by decide))
   have CC:=h_ (fun w u v (h:Dg w u y) (k:Dg w v x)=>cmp_r (h.rd (Nat.le_trans by' (by decide))) (k.rd (Nat.le_trans bx' (by decide))))
   have hc:cmpN y x=-1:=by unfold cmpN; simp [hyx]
   rw [hc] at CC
   clear hc by' bx'
   go_wp2_with fail
   refine (CC.out _ _ _ Y5.out X5.out).mono ?_
   rintro e w6 ⟨rfl,hb⟩
   have Y6:=h_ (Y5.out.below hb)
   have A6:=h_ (A5.out.below hb)
   have F6:=h_ (F5.out.call hb)
   clear hb Y5 A5 F5 X5
   have hYY:Hid (y ≠ 0∧y < 17179869184):=⟨HY.out,Nat.lt_trans hyx hI.out.2⟩
   go_wp2
   go_roundw
   case rel=>exact ⟨y,hYY,Y6,A6,F6⟩
   case measure=>rw [hm.out,Y6.out.dec]; exact hyx
  ·have by':=HYB.out
   have bx':bl x≤64:=bl64 (Nat.lt_trans hI.out.2 (by decide))
   have CC:=h_ (fun w u v (h:Dg w u y) (k:Dg w v x)=>cmp_r (h.rd (Nat.le_trans by' (by decide))) (k.rd (Nat.le_trans bx' (by decide))))
   have hc:(0:Int)≤cmpN y x:=by unfold cmpN; simp [hyx]; split <;> decide
   generalize cmpN y x=c at *
   have hc1:decide ((0:Int)≤c)=true:=decide_eq_true hc
   clear by' bx'
   go_wp2_with fail
   refine (CC.out _ _ _ Y5.out X5.out).mono ?_
   rintro e w6 ⟨rfl,hb⟩
   have X6:=h_ (X5.out.below hb)
   have F6:=h_ (F5.out.call hb)
   clear hb Y5 A5 F5 X5
   go_wp2
   go_ret
   exact ⟨_,x,rfl,X6.out,hI.out.1,hI.out.2,F6.out.b⟩
theorem Root_r {w:World} {u:Value} {a k:Nat} (hu:Dg w u a) (ba:a < 18446744073709551616) (h0:a ≠ 0) (hk:2≤k∧k≤64) :
  Calls Tryz.prog 150 #[u,.int .i64 (k:Int)] w fun e w'=>∃ v r is,e=.returned (.tuple #[v,.bool is,.int .i64 0])∧Dg w' v r∧(is=true→r^k=a)∧r ≠ 0∧r < 17179869184∧Below w.heap.size w w':=by
 have la:=bl64 ba
 have LA:Hid (bl a≤64):=la
 have CB:=h_ (fun w u (h:Dg w u a)=>bare_r (h.rd (by omega)))
 have CL:=h_ (fun w u (h:Dg w u a)=>bits_r (h.rd (by omega)))
 have CF:=h_ (fun w u (h:Dg w u a)=>floor_r h ba h0 hk)
 obtain ⟨b,hb⟩:∃ b,b=bl a:=⟨_,rfl⟩
 rw [← hb] at CL la
 have A0:=h_ hu
 have F0:=h_ (Fz.nil w)
 have HA:=h_ (And.intro h0 ba)
 have HK:=h_ hk
 have z1:decide ((k:Int) < 1)=false:=decide_eq_false (by omega)
 have z2:decide (k < 1)=false:=decide_eq_false (by omega)
 have z3:decide ((8192:Int) < (b:Int))=false:=decide_eq_false (by omega)
 have z4:decide (8192 < b)=false:=decide_eq_false (by omega)
 have z5:((k:Int) == 1)=false:=by rw [beq_eq_false_iff_ne]; omega
 have z6:¬ (k:Int)=1:=by omega
 have z7:¬ k=1:=by omega
 clear hu hb h0 ba hk
 go_enter Tryz.func150,Tryz.ntmps150
 go_wp2_with fail
 refine (CB.out _ _ A0.out).mono ?_
 rintro q w1 ⟨u1,rfl,hu,hb⟩
 have F1:=h_ (F0.out.call hb)
 have A1:=h_ (A0.out.below hb)
 clear F0 A0
 have B1:=h_ (hu)
 clear hb
 clear A1
 go_wp2_with fail
 refine (CL.out _ _ B1.out).mono ?_
 rintro q w2 ⟨rfl,hb⟩
 have F2:=h_ (F1.out.call hb)
 have B2:=h_ (B1.out.below hb)
 clear F1 B1
 clear hb
 obtain ⟨a1,l1,c1,rfl⟩:=B2.out.form
 have y1:¬ l1=0:=fun h=>HA.out.1 (B2.out.len0.2 h)
 have y2:((l1:Int) == 0)=false:=by rw [beq_eq_false_iff_ne]; omega
 have y3:(l1 == 0)=false:=by rw [beq_eq_false_iff_ne]; exact y1
 go_wp2_with fail
 refine (CF.out _ _ B2.out).mono ?_
 rintro q w3 ⟨v,r,rfl,hu,h1,h2,hb⟩
 have F3:=h_ (F2.out.call hb)
 have B3:=h_ (B2.out.below hb)
 clear F2 B2
 have R3:=h_ (hu)
 clear hb
 have HR:=h_ (And.intro h1 h2)
 clear h1 h2 hu
 have lr:bl r≤34:=bl_le (k:=34) HR.out.2
 have lk:k * bl r≤2176:=Nat.le_trans (Nat.mul_le_mul HK.out.2 lr) (by decide)
 have CP:=h_ (fun w v (h:Dg w v r)=>Pow_n (k:=k) (h.rd (by omega)) (by omega) (by have:=HK.out.2; omega) (Nat.lt_trans HR.out.2 (by decide)))
 have lp:bl (r^k)≤3000:=Nat.le_trans (pow_bl r k) (by omega)
 obtain ⟨p,hp⟩:∃ p,p=r^k:=⟨_,rfl⟩
 rw [← hp] at CP lp
 have CC:=h_ (fun w u v (h:Dg w u p) (k:Dg w v a)=>cmp_r (h.rd (by omega)) (k.rd (Nat.le_trans LA.out (by decide))))
 have HPP:=h_ hp
 clear hp lr lk lp la
 go_wp2_with fail
 refine (CP.out _ _ R3.out).mono ?_
 rintro q w4 ⟨u2,rfl,hu,hb⟩
 have F4:=h_ (F3.out.call hb)
 have B4:=h_ (B3.out.below hb)
 have R4:=h_ (R3.out.below hb)
 clear F3 B3 R3
 have P4:=h_ (hu)
 clear hb
 go_wp2_with fail
 refine (CC.out _ _ _ P4.out B4.out).mono ?_
 rintro q w5 ⟨rfl,hb⟩
 have F5:=h_ (F4.out.call hb)
 have B5:=h_ (B4.out.below hb)
 have R5:=h_ (R4.out.below hb)
 have P5:=h_ (P4.out.below hb)
 clear F4 B4 R4 P4
 clear hb
 have hc:∃ is:Bool,(cmpN p a == 0)=is∧(is=true→p=a):=⟨_,rfl,fun h=>by unfold cmpN at h; split at h <;> first | (exfalso; revert h; decide) | (split at h <;> first | (exfalso; revert h; decide) | omega)⟩
 obtain ⟨is,his,hpa⟩:=hc
 have HI:=h_ hpa
 clear hpa
 generalize cmpN p a=c at *
 go_wp2
 refine bodyPost_ret (v:=.tuple #[v,.bool is,.int .i64 0]) (by simp [results,Tryz.results150,go_sem]) rfl ?_
 exact ⟨v,r,is,rfl,R5.out,fun h=>by rw [← HPP.out]; exact HI.out h,HR.out.1,HR.out.2,F5.out.b⟩
theorem shift_r (w:World) (e m:Int) (he:-1000000≤e∧e≤1000000) (hm:-9223372036854775808 < m∧m < 9223372036854775808) :
  Calls Tryz.prog 151 #[.int .i64 e,.int .i64 m] w fun q w'=>q=.returned (.tuple #[.int .i64 (if e.natAbs * m.natAbs≤4096 then e * m else 0),.bool (decide (e.natAbs * m.natAbs≤4096))])∧Below w.heap.size w w':=by
 have C1:=h_ (fun w=>esize_r w e (by omega))
 have C2:=h_ (fun w=>esize_r w m hm)
 obtain ⟨a,ha⟩:∃ a,a=e.natAbs:=⟨_,rfl⟩
 obtain ⟨b,hb⟩:∃ b,b=m.natAbs:=⟨_,rfl⟩
 rw [← ha] at C1 ⊢
 rw [← hb] at C2 ⊢
 have C3:=h_ (fun w=>mul64 a b (by omega) (by omega) w)
 have F0:=h_ (Fz.nil w)
 have hs:∃ s:Bool,(decide (e < 0) != decide (m < 0))=s∧e * m=(if s then -((a * b:Nat):Int) else ((a * b:Nat):Int)):=by
  refine ⟨_,rfl,?_⟩
  rw [Int.natCast_mul]
  by_cases h1:e < 0
  ·have e1:e=-(a:Int):=by omega
   by_cases h2:m < 0
   ·have e2:m=-(b:Int):=by omega
    simp only [h1,h2,decide_true,bne_self_eq_false,Bool.false_eq_true,if_false]
    rw [e1,e2,Int.neg_mul_neg]
   ·have e2:m=(b:Int):=by omega
    simp only [h1,h2,decide_true,decide_false]
    rw [if_pos (by decide)]
    rw [e1,e2,Int.neg_mul]
  ·have e1:e=(a:Int):=by omega
   by_cases h2:m < 0
   ·have e2:m=-(b:Int):=by omega
    simp only [h1,h2,decide_true,decide_false]
    rw [if_pos (by decide)]
    rw [e1,e2,Int.mul_neg]
   ·have e2:m=(b:Int):=by omega
    simp only [h1,h2,decide_false,bne_self_eq_false,Bool.false_eq_true,if_false]
    rw [e1,e2]
 obtain ⟨s,hs1,hs2⟩:=hs
 rw [hs2]
 have HM:=h_ hm
 clear ha hb he hm hs2
 generalize a * b=p at *
 obtain ⟨hi,hhi⟩:∃ hi,hi=p / 18446744073709551616:=⟨_,rfl⟩
 obtain ⟨lo,hlo⟩:∃ lo,lo=p % 18446744073709551616:=⟨_,rfl⟩
 rw [← hhi,← hlo] at C3
 by_cases hp:p≤4096
 ·have e1:hi=0:=by omega
  have e2:lo=p:=by omega
  subst e1 e2
  rw [if_pos hp,decide_eq_true hp]
  have z1:decide ((4096:Int) < (lo:Int))=false:=decide_eq_false (by omega)
  have z2:decide (4096 < lo)=false:=decide_eq_false (by omega)
  have q1:IntKind.i64.wrap (lo:Int)=(lo:Int):=IntWalk.i64_in _ (by omega)
  have q2:IntKind.i64.wrap (-(lo:Int))=-(lo:Int):=IntWalk.i64_in _ (by omega)
  clear hhi hlo hp
  obtain ⟨p1,y1⟩:∃ p1,decide (e < 0)=p1:=⟨_,rfl⟩
  obtain ⟨p2,y2⟩:∃ p2,decide (m < 0)=p2:=⟨_,rfl⟩
  rw [y1,y2] at hs1
  have HS:Hid ((p1 != p2)=s):=hs1
  clear hs1
  go_enter Tryz.func151,Tryz.ntmps151
  go_wp2_with fail
  refine (C1.out _).mono ?_
  rintro q w1 ⟨rfl,hb⟩
  have F1:=h_ (F0.out.call hb)
  clear F0
  clear hb
  go_wp2_with fail
  refine (C2.out _).mono ?_
  rintro q w2 ⟨rfl,hb⟩
  have F2:=h_ (F1.out.call hb)
  clear F1
  clear hb
  go_wp2_with fail
  refine (C3.out _).mono ?_
  rintro q w3 ⟨rfl,rfl⟩
  cases p1 <;> cases p2 <;> (have hs:=HS.out; clear HS; replace hs:s=_:=hs.symm; simp only [bne_self_eq_false,Bool.not_false,Bool.bne_true,Bool.bne_false] at hs; subst hs; go_wp2; refine bodyPost_ret (v:=.tuple #[.int .i64 _,.bool true]) (by simp [results,Tryz.results151,go_sem]; rfl) rfl ?_; exact ⟨by simp,F2.out.b⟩)
 ·rw [if_neg hp,decide_eq_false hp]
  have z0:decide ((0:Int) < (hi:Int))=false ∨ decide ((0:Int) < (hi:Int))=true:=by cases decide ((0:Int) < (hi:Int)) <;> simp
  have z1:¬ 0 < hi→decide ((4096:Int) < (lo:Int))=true∧decide (4096 < lo)=true:=fun h=>⟨decide_eq_true (by omega),decide_eq_true (by omega)⟩
  have HZ:=h_ z1
  clear hhi hlo hp z0 z1
  by_cases h0:0 < hi
  ·have z1:decide ((0:Int) < (hi:Int))=true:=decide_eq_true (by omega)
   have z2:decide (0 < hi)=true:=decide_eq_true h0
   go_enter Tryz.func151,Tryz.ntmps151
   go_wp2_with fail
   refine (C1.out _).mono ?_
   rintro q w1 ⟨rfl,hb⟩
   have F1:=h_ (F0.out.call hb)
   clear F0
   clear hb
   go_wp2_with fail
   refine (C2.out _).mono ?_
   rintro q w2 ⟨rfl,hb⟩
   have F2:=h_ (F1.out.call hb)
   clear F1
   clear hb
   go_wp2_with fail
   refine (C3.out _).mono ?_
   rintro q w3 ⟨rfl,rfl⟩
   go_wp2
   refine bodyPost_ret (v:=.tuple #[.int .i64 0,.bool false]) (by simp [results,Tryz.results151,go_sem]) rfl ?_
   exact ⟨rfl,F2.out.b⟩
  ·have z1:decide ((0:Int) < (hi:Int))=false:=decide_eq_false (by omega)
   have z2:decide (0 < hi)=false:=decide_eq_false h0
   obtain ⟨z3,z4⟩:=HZ.out h0
   go_enter Tryz.func151,Tryz.ntmps151
   go_wp2_with fail
   refine (C1.out _).mono ?_
   rintro q w1 ⟨rfl,hb⟩
   have F1:=h_ (F0.out.call hb)
   clear F0
   clear hb
   go_wp2_with fail
   refine (C2.out _).mono ?_
   rintro q w2 ⟨rfl,hb⟩
   have F2:=h_ (F1.out.call hb)
   clear F1
   clear hb
   go_wp2_with fail
   refine (C3.out _).mono ?_
   rintro q w3 ⟨rfl,rfl⟩
   go_wp2
   refine bodyPost_ret (v:=.tuple #[.int .i64 0,.bool false]) (by simp [results,Tryz.results151,go_sem]) rfl ?_
   exact ⟨rfl,F2.out.b⟩
def RootOf (x:Dn) (k:Nat) (d:Dn):Prop:=d.neg=x.neg∧d.m^k=x.m∧d.e * (k:Int)=x.e∧d.m ≠ 0∧d.m < 18446744073709551616
def RetOk (R:Dn→Prop) (w:World) (q:Ending) (w':World):Prop:=∃ v d ok,q=.returned (.tuple #[v,.bool ok])∧Cy w' v d∧(ok=true→R d)∧Below w.heap.size w w'
theorem Cy.zero3 {w:World} (t:Tab w):Cy w (.agg #[.bool false,.slice none 0 0,.int .i64 0]) ⟨false,0,0⟩:=⟨_,rfl,Dg.nil t,by decide,by decide,by decide⟩
theorem rooted_r {w:World} {u:Value} {x:Dn} {k:Nat} (hu:Cy w u x) (h0:x.m ≠ 0) (hm:x.m < 18446744073709551616) (he:-100000≤x.e∧x.e≤100000) (hk:0 < k∧k < 9223372036854775808) :
  Calls Tryz.prog 117 #[u,.int .i64 (k:Int)] w (RetOk (RootOf x k) w):=by
 obtain ⟨n,m,e⟩:=x
 simp only at h0 hm he
 have bm:=bl64 hm
 have BM:Hid (bl m≤64):=bm
 have CL:=h_ (fun w u (h:Dg w u m)=>bits_r (h.rd (by omega)))
 have HK:=h_ hk
 have HE:=h_ he
 have HM:=h_ (And.intro h0 hm)
 have hb1:bl m=1→m=1:=fun h=>by have:=lt_bl m; rw [h] at this; omega
 have HB1:=h_ hb1
 have hb0:bl m ≠ 0:=fun h=>by have:=lt_bl m; rw [h] at this; omega
 have HB0:=h_ hb0
 obtain ⟨l,hl⟩:∃ l,l=bl m:=⟨_,rfl⟩
 have HL:=h_ hl
 rw [← hl] at CL bm
 obtain ⟨a1,k1,c1,rfl⟩:=hu.fm
 have X:=h_ hu
 have hk0:¬ (k:Int)=0:=by omega
 have hk00:((k:Int) == 0)=false:=by rw [beq_eq_false_iff_ne]; exact hk0
 have hk000:¬ k=0:=by omega
 have hk0000:(k == 0)=false:=by rw [beq_eq_false_iff_ne]; exact hk000
 obtain ⟨r,hr⟩:∃ r,r=e.tmod (k:Int):=⟨_,rfl⟩
 obtain ⟨t,ht⟩:∃ t,t=e.tdiv (k:Int):=⟨_,rfl⟩
 have hrt:e=(k:Int) * t+r:=by rw [hr,ht]; exact (Int.mul_tdiv_add_tmod e (k:Int)).symm
 have HRT:=h_ hrt
 have r1:e.tmod (k:Int)=r:=hr.symm
 have t1:e.tdiv (k:Int)=t:=ht.symm
 have ta:t.natAbs≤e.natAbs:=by rw [ht,Int.natAbs_tdiv]; exact Nat.div_le_self _ _
 have ra:r.natAbs≤e.natAbs:=by
  rw [hr,Int.natAbs_tmod]
  exact Nat.mod_le _ _
 have r2:IntKind.i64.wrap r=r:=IntWalk.i64_in _ (by omega)
 have t2:IntKind.i64.wrap t=t:=IntWalk.i64_in _ (by omega)
 have TB:=h_ (show -100000≤t∧t≤100000 by omega)
 clear hu hk hr ht hrt ta ra he h0 hm hb1 hb0 hl
 by_cases h1:k=1
 ·subst h1
  have hk0:Hid True:=trivial
  go_enter Tryz.func117,Tryz.ntmps117
  have F0:=h_ (Fx.two w 42 #[.bool n,.slice a1 k1 c1,.int .i64 e] 42 #[.bool false,.slice none 0 0,.int .i64 0] rfl rfl)
  have X0:=h_ ((X.out.alloc (.cells #[.bool n,.slice a1 k1 c1,.int .i64 e] 42)).alloc (.cells #[.bool false,.slice none 0 0,.int .i64 0] 42))
  clear X
  go_upto_region 1 with (fail)
  generalize World.alloc (World.alloc _ _) _=w0 at F0 X0 ⊢
  have c0_0:=F0.out.c3 0 rfl
  have c1_0:=F0.out.c3 1 rfl
  go_wp2
  obtain ⟨f,p⟩:=F0.out.s3 1 rfl (.bool n) (.slice a1 k1 c1) (.int .i64 e) rfl rfl rfl
  generalize World.setCell (World.setCell (World.setCell _ _ _) _ _) _ _=W at f p ⊢
  have g1':=f.c3 1 rfl
  refine bodyPost_ret (v:=.tuple #[.agg #[.bool n,.slice a1 k1 c1,.int .i64 e],.bool true]) (by simp [results,Tryz.results117,go_sem,g1']) rfl ?_
  exact ⟨_,⟨n,m,e⟩,true,rfl,X0.out.kp p,fun _=>⟨rfl,Nat.pow_one _,by show e * 1=e; omega,HM.out.1,HM.out.2⟩,f.b⟩
 have z1:((k:Int) == 1)=false:=by rw [beq_eq_false_iff_ne]; omega
 have z2:¬ (k:Int)=1:=by omega
 have z3:¬ k=1:=h1
 by_cases h2:r=0
 case neg =>
  have z4:(r == 0)=false:=by rw [beq_eq_false_iff_ne]; exact h2
  have z5:(r != 0)=true:=by simp [h2]
  clear h2
  go_enter Tryz.func117,Tryz.ntmps117
  have F0:=h_ (Fx.two w 42 #[.bool n,.slice a1 k1 c1,.int .i64 e] 42 #[.bool false,.slice none 0 0,.int .i64 0] rfl rfl)
  have X0:=h_ ((X.out.alloc (.cells #[.bool n,.slice a1 k1 c1,.int .i64 e] 42)).alloc (.cells #[.bool false,.slice none 0 0,.int .i64 0] 42))
  clear X
  go_upto_region 1 with (fail)
  generalize World.alloc (World.alloc _ _) _=w0 at F0 X0 ⊢
  have c0_0:=F0.out.c3 0 rfl
  have c1_0:=F0.out.c3 1 rfl
  go_wp2
  obtain ⟨f,p⟩:=F0.out.s3 1 rfl (.bool false) (.slice none 0 0) (.int .i64 0) rfl rfl rfl
  generalize World.setCell (World.setCell (World.setCell _ _ _) _ _) _ _=W at f p ⊢
  have g1':=f.c3 1 rfl
  refine bodyPost_ret (v:=.tuple #[.agg #[.bool false,.slice none 0 0,.int .i64 0],.bool false]) (by simp [results,Tryz.results117,go_sem,g1']) rfl ?_
  exact ⟨_,_,false,rfl,Cy.zero3 (X0.out.tab.kp p),nofun,f.b⟩
 subst h2
 by_cases h3:l=1
 case pos =>
  have hm1:=HB1.out (HL.out ▸ h3)
  subst h3
  go_enter Tryz.func117,Tryz.ntmps117
  have F0:=h_ (Fx.two w 42 #[.bool n,.slice a1 k1 c1,.int .i64 e] 42 #[.bool false,.slice none 0 0,.int .i64 0] rfl rfl)
  have X0:=h_ ((X.out.alloc (.cells #[.bool n,.slice a1 k1 c1,.int .i64 e] 42)).alloc (.cells #[.bool false,.slice none 0 0,.int .i64 0] 42))
  clear X
  go_upto_region 1 with (fail)
  generalize World.alloc (World.alloc _ _) _=w0 at F0 X0 ⊢
  have c0_0:=F0.out.c3 0 rfl
  have c1_0:=F0.out.c3 1 rfl
  have D:=h_ (X0.out.dm)
  clear X0
  have D0:=h_ D.out
  clear D
  go_upto_region 6 with (fail)
  clear c0_0 c1_0
  obtain ⟨f,p⟩:=F0.out.set 0 2 rfl rfl (u:=.int .i64 t) rfl
  generalize World.setCell _ _ _=W at f p ⊢
  have F1:=h_ (show Fx w W [(w.heap.size,42,#[.bool n,.slice a1 k1 c1,.int .i64 t]),(w.heap.size+1,42,#[.bool false,.slice none 0 0,.int .i64 0])] from f)
  have D1:=h_ (D0.out.kp p)
  clear f p F0 D0
  have c0_1:=F1.out.c3 0 rfl
  have c1_1:=F1.out.c3 1 rfl
  go_wp2_with fail
  clear c0_1 c1_1
  refine (CL.out _ _ D1.out).mono ?_
  rintro q w2 ⟨rfl,hb⟩
  have F2:=h_ (F1.out.call hb)
  have D2:=h_ (D1.out.below hb)
  clear F1 D1
  clear hb
  have c0_2:=F2.out.c3 0 rfl
  have c1_2:=F2.out.c3 1 rfl
  go_wp2
  obtain ⟨f,p⟩:=F2.out.s3 1 rfl (.bool n) (.slice a1 k1 c1) (.int .i64 t) rfl rfl rfl
  generalize World.setCell (World.setCell (World.setCell _ _ _) _ _) _ _=W at f p ⊢
  have g1':=f.c3 1 rfl
  refine bodyPost_ret (v:=.tuple #[.agg #[.bool n,.slice a1 k1 c1,.int .i64 t],.bool true]) (by simp [results,Tryz.results117,go_sem,g1']) rfl ?_
  exact ⟨_,⟨n,m,t⟩,true,rfl,⟨_,rfl,D2.out.kp p,Nat.le_trans BM.out (by decide),by have:=TB.out; show _≤t; omega,by have:=TB.out; show t≤_; omega⟩,fun _=>⟨rfl,by show m^k=m; rw [hm1,Nat.one_pow],by have:=HRT.out; show t * (k:Int)=e; rw [Int.mul_comm]; omega,HM.out.1,HM.out.2⟩,f.b⟩
 have z4:((l:Int) == 1)=false:=by rw [beq_eq_false_iff_ne]; omega
 have z5:¬ (l:Int)=1:=by omega
 have z6:¬ l=1:=h3
 by_cases h4:l < k
 case pos =>
  have y1:decide ((l:Int) < (k:Int))=true:=decide_eq_true (by omega)
  have y2:decide (l < k)=true:=decide_eq_true h4
  clear h4
  go_enter Tryz.func117,Tryz.ntmps117
  have F0:=h_ (Fx.two w 42 #[.bool n,.slice a1 k1 c1,.int .i64 e] 42 #[.bool false,.slice none 0 0,.int .i64 0] rfl rfl)
  have X0:=h_ ((X.out.alloc (.cells #[.bool n,.slice a1 k1 c1,.int .i64 e] 42)).alloc (.cells #[.bool false,.slice none 0 0,.int .i64 0] 42))
  clear X
  go_upto_region 1 with (fail)
  generalize World.alloc (World.alloc _ _) _=w0 at F0 X0 ⊢
  have c0_0:=F0.out.c3 0 rfl
  have c1_0:=F0.out.c3 1 rfl
  have D:=h_ (X0.out.dm)
  clear X0
  have D0:=h_ D.out
  clear D
  go_upto_region 6 with (fail)
  clear c0_0 c1_0
  obtain ⟨f,p⟩:=F0.out.set 0 2 rfl rfl (u:=.int .i64 t) rfl
  generalize World.setCell _ _ _=W at f p ⊢
  have F1:=h_ (show Fx w W [(w.heap.size,42,#[.bool n,.slice a1 k1 c1,.int .i64 t]),(w.heap.size+1,42,#[.bool false,.slice none 0 0,.int .i64 0])] from f)
  have D1:=h_ (D0.out.kp p)
  clear f p F0 D0
  have c0_1:=F1.out.c3 0 rfl
  have c1_1:=F1.out.c3 1 rfl
  go_wp2_with fail
  clear c0_1 c1_1
  refine (CL.out _ _ D1.out).mono ?_
  rintro q w2 ⟨rfl,hb⟩
  have F2:=h_ (F1.out.call hb)
  have D2:=h_ (D1.out.below hb)
  clear F1 D1
  clear hb
  have c0_2:=F2.out.c3 0 rfl
  have c1_2:=F2.out.c3 1 rfl
  go_wp2_with fail
  clear c0_2 c1_2
  refine (CL.out _ _ D2.out).mono ?_
  rintro q w3 ⟨rfl,hb⟩
  have F3:=h_ (F2.out.call hb)
  have D3:=h_ (D2.out.below hb)
  clear F2 D2
  clear hb
  have c0_3:=F3.out.c3 0 rfl
  have c1_3:=F3.out.c3 1 rfl
  go_wp2
  obtain ⟨f,p⟩:=F3.out.s3 1 rfl (.bool false) (.slice none 0 0) (.int .i64 0) rfl rfl rfl
  generalize World.setCell (World.setCell (World.setCell _ _ _) _ _) _ _=W at f p ⊢
  have g1':=f.c3 1 rfl
  refine bodyPost_ret (v:=.tuple #[.agg #[.bool false,.slice none 0 0,.int .i64 0],.bool false]) (by simp [results,Tryz.results117,go_sem,g1']) rfl ?_
  exact ⟨_,_,false,rfl,Cy.zero3 (D3.out.tab.kp p),nofun,f.b⟩
 have y1:decide ((l:Int) < (k:Int))=false:=decide_eq_false (by omega)
 have y2:decide (l < k)=false:=decide_eq_false h4
 have CR:=h_ (fun w u (h:Dg w u m)=>Root_r (k:=k) h HM.out.2 HM.out.1 ⟨by have:=HK.out; omega,by omega⟩)
 clear h4 h3
 go_enter Tryz.func117,Tryz.ntmps117
 have F0:=h_ (Fx.two w 42 #[.bool n,.slice a1 k1 c1,.int .i64 e] 42 #[.bool false,.slice none 0 0,.int .i64 0] rfl rfl)
 have X0:=h_ ((X.out.alloc (.cells #[.bool n,.slice a1 k1 c1,.int .i64 e] 42)).alloc (.cells #[.bool false,.slice none 0 0,.int .i64 0] 42))
 clear X
 go_upto_region 1 with (fail)
 generalize World.alloc (World.alloc _ _) _=w0 at F0 X0 ⊢
 have c0_0:=F0.out.c3 0 rfl
 have c1_0:=F0.out.c3 1 rfl
 have D:=h_ (X0.out.dm)
 clear X0
 have D0:=h_ D.out
 clear D
 go_upto_region 6 with (fail)
 clear c0_0 c1_0
 obtain ⟨f,p⟩:=F0.out.set 0 2 rfl rfl (u:=.int .i64 t) rfl
 generalize World.setCell _ _ _=W at f p ⊢
 have F1:=h_ (show Fx w W [(w.heap.size,42,#[.bool n,.slice a1 k1 c1,.int .i64 t]),(w.heap.size+1,42,#[.bool false,.slice none 0 0,.int .i64 0])] from f)
 have D1:=h_ (D0.out.kp p)
 clear f p F0 D0
 have c0_1:=F1.out.c3 0 rfl
 have c1_1:=F1.out.c3 1 rfl
 go_wp2_with fail
 clear c0_1 c1_1
 refine (CL.out _ _ D1.out).mono ?_
 rintro q w2 ⟨rfl,hb⟩
 have F2:=h_ (F1.out.call hb)
 have D2:=h_ (D1.out.below hb)
 clear F1 D1
 clear hb
 have c0_2:=F2.out.c3 0 rfl
 have c1_2:=F2.out.c3 1 rfl
 go_wp2_with fail
 clear c0_2 c1_2
 refine (CL.out _ _ D2.out).mono ?_
 rintro q w3 ⟨rfl,hb⟩
 have F3:=h_ (F2.out.call hb)
 have D3:=h_ (D2.out.below hb)
 clear F2 D2
 clear hb
 have c0_3:=F3.out.c3 0 rfl
 have c1_3:=F3.out.c3 1 rfl
 go_wp2_with fail
 clear c0_3 c1_3
 refine (CR.out _ _ D3.out).mono ?_
 rintro q w4 ⟨v,q,is,rfl,hu,h1,h2,h3,hb⟩
 have F4:=h_ (F3.out.call hb)
 have D4:=h_ (D3.out.below hb)
 clear F3 D3
 have R4:=h_ (hu)
 clear hb
 have c0_4:=F4.out.c3 0 rfl
 have c1_4:=F4.out.c3 1 rfl
 have HQ:=h_ (And.intro h1 (And.intro h2 h3))
 clear h1 h2 h3
 obtain ⟨a2,k2,c2,rfl⟩:=R4.out.form
 clear hu
 go_upto_region 12 with (fail)
 clear c0_4 c1_4
 obtain ⟨f,p⟩:=F4.out.set 0 1 rfl rfl (u:=.slice a2 k2 c2) rfl
 generalize World.setCell _ _ _=W2 at f p ⊢
 have F5:=h_ (show Fx w W2 [(w.heap.size,42,#[.bool n,.slice a2 k2 c2,.int .i64 t]),(w.heap.size+1,42,#[.bool false,.slice none 0 0,.int .i64 0])] from f)
 have R5:=h_ (R4.out.kp p)
 clear f p F4 D4 R4
 have c0_5:=F5.out.c3 0 rfl
 have c1_5:=F5.out.c3 1 rfl
 cases is
 case true =>
  go_wp2
  obtain ⟨f,p⟩:=F5.out.s3 1 rfl (.bool n) (.slice a2 k2 c2) (.int .i64 t) rfl rfl rfl
  generalize World.setCell (World.setCell (World.setCell _ _ _) _ _) _ _=W at f p ⊢
  have g1':=f.c3 1 rfl
  refine bodyPost_ret (v:=.tuple #[.agg #[.bool n,.slice a2 k2 c2,.int .i64 t],.bool true]) (by simp [results,Tryz.results117,go_sem,g1']) rfl ?_
  exact ⟨_,⟨n,q,t⟩,true,rfl,⟨_,rfl,R5.out.kp p,Nat.le_trans (bl_le (k:=34) HQ.out.2.2) (by decide),by have:=TB.out; show _≤t; omega,by have:=TB.out; show t≤_; omega⟩,fun h=>⟨rfl,HQ.out.1 (by trivial),by have:=HRT.out; show t * (k:Int)=e; rw [Int.mul_comm]; omega,HQ.out.2.1,Nat.lt_trans HQ.out.2.2 (by decide)⟩,f.b⟩
 case false =>
  go_wp2
  obtain ⟨f,p⟩:=F5.out.s3 1 rfl (.bool n) (.slice a2 k2 c2) (.int .i64 t) rfl rfl rfl
  generalize World.setCell (World.setCell (World.setCell _ _ _) _ _) _ _=W at f p ⊢
  have g1':=f.c3 1 rfl
  refine bodyPost_ret (v:=.tuple #[.agg #[.bool n,.slice a2 k2 c2,.int .i64 t],.bool false]) (by simp [results,Tryz.results117,go_sem,g1']) rfl ?_
  exact ⟨_,⟨n,q,t⟩,false,rfl,⟨_,rfl,R5.out.kp p,Nat.le_trans (bl_le (k:=34) HQ.out.2.2) (by decide),by have:=TB.out; show _≤t; omega,by have:=TB.out; show t≤_; omega⟩,nofun,f.b⟩
theorem rsize_r (w:World) (n:Int) (h:-9223372036854775808 < n∧n < 9223372036854775808):Calls Tryz.prog 99 #[.int .i64 n] w fun e w'=>e=.returned (.int .u64 (n.natAbs:Int))∧Below w.heap.size w w':=by
 obtain ⟨h1,h2⟩:=h
 by_cases h0:n < 0
 ·have z:decide (n < 0)=true:=decide_eq_true h0
  have q1:IntKind.u64.wrap (-(IntKind.u64.wrap n))=(n.natAbs:Int):=by simp only [IntKind.wrap_u64]; omega
  have q2:IntKind.u64.wrap (0 - (IntKind.u64.wrap n))=(n.natAbs:Int):=by simp only [IntKind.wrap_u64]; omega
  go_enter Tryz.func99,Tryz.ntmps99
  go_wp2
  go_ret
  exact ⟨rfl,Below.refl _ _⟩
 ·have z:decide (n < 0)=false:=decide_eq_false h0
  have q1:IntKind.u64.wrap n=(n.natAbs:Int):=by rw [IntKind.wrap_u64]; omega
  go_enter Tryz.func99,Tryz.ntmps99
  go_wp2
  go_ret
  exact ⟨rfl,Below.refl _ _⟩
theorem under_r (w:World) (a b:Nat) (ha:a < 18446744073709551616) (hb:b < 18446744073709551616):Calls Tryz.prog 98 #[.int .u64 (a:Int),.int .u64 (b:Int)] w fun e w'=>e=.returned (.bool (decide (a * b≤60000)))∧Below w.heap.size w w':=by
 have C3:=h_ (fun w=>mul64 a b ha hb w)
 clear ha hb
 generalize a * b=p at *
 obtain ⟨hi,hhi⟩:∃ hi,hi=p / 18446744073709551616:=⟨_,rfl⟩
 obtain ⟨lo,hlo⟩:∃ lo,lo=p % 18446744073709551616:=⟨_,rfl⟩
 rw [← hhi,← hlo] at C3
 by_cases h0:hi=0
 ·subst h0
  have e2:lo=p:=by omega
  subst e2
  obtain ⟨g,hg⟩:∃ g,g=decide (lo≤60000):=⟨_,rfl⟩
  have z1:decide ((lo:Int)≤60000)=g:=by rw [hg]; apply decide_eq_decide.2; omega
  have z2:decide (lo≤60000)=g:=hg.symm
  rw [z2]
  clear hhi hlo hg
  go_enter Tryz.func98,Tryz.ntmps98
  go_wp2_with fail
  refine (C3.out _).mono ?_
  rintro q w3 ⟨rfl,rfl⟩
  go_wp2
  go_ret
  exact ⟨rfl,Below.refl _ _⟩
 ·have z1:((hi:Int) == 0)=false:=by rw [beq_eq_false_iff_ne]; omega
  have z2:¬ (hi:Int)=0:=by omega
  rw [show decide (p≤60000)=false from decide_eq_false (by omega)]
  clear hhi hlo
  go_enter Tryz.func98,Tryz.ntmps98
  go_wp2_with fail
  refine (C3.out _).mono ?_
  rintro q w3 ⟨rfl,rfl⟩
  go_wp2
  go_ret
  exact ⟨rfl,Below.refl _ _⟩
theorem Fits_r {w:World} {u:Value} {d:Dn} (hu:Cy w u d) (sd:Sd d) (m:Int) (hm:-9223372036854775808 < m∧m < 9223372036854775808) :
  Calls Tryz.prog 47 #[u,.int .i64 m] w fun q w'=>q=.returned (.bool (decide (bl (bareN d).m * m.natAbs≤60000) && decide ((bareN d).e.natAbs * m.natAbs≤60000)))∧Below w.heap.size w w':=by
 have CA:=h_ (fun w u (h:Cy w u d)=>Bare_s h.ry sd)
 have sb:=sd.bare
 generalize bareN d=B at *
 obtain ⟨bn,bm,be⟩:=B
 simp only at sb ⊢
 have CL:=h_ (fun w u (h:Dg w u bm)=>bits_r (h.rd (by omega)))
 have C1:=h_ (fun w=>rsize_r w m hm)
 have C2:=h_ (fun w=>rsize_r w be (by omega))
 have C3:=h_ (fun w=>under_r w (bl bm) m.natAbs (by omega) (by omega))
 have C4:=h_ (fun w=>under_r w be.natAbs m.natAbs (by omega) (by omega))
 generalize decide (bl bm * m.natAbs≤60000)=p1 at *
 generalize decide (be.natAbs * m.natAbs≤60000)=p2 at *
 have q1:IntKind.u64.wrap (bl bm:Int)=(bl bm:Int):=by rw [IntKind.wrap_u64]; omega
 obtain ⟨dn,dm,de⟩:=d
 obtain ⟨a1,k1,c1,rfl⟩:=hu.fm
 have X:=h_ hu
 clear hu sd sb hm
 generalize bl bm=l at *
 generalize m.natAbs=a at *
 generalize be.natAbs=b at *
 go_enter Tryz.func47,Tryz.ntmps47
 have F0:=h_ (Fx.one w 42 #[.bool dn,.slice a1 k1 c1,.int .i64 de] rfl)
 have X0:=h_ (X.out.alloc (.cells #[.bool dn,.slice a1 k1 c1,.int .i64 de] 42))
 clear X
 go_upto_region 1 with (fail)
 generalize World.alloc _ _=w0 at F0 X0 ⊢
 have c0_0:=F0.out.c3 0 rfl
 go_wp2_with fail
 clear c0_0
 refine (CA.out _ _ X0.out).mono ?_
 rintro q w1 ⟨u,rfl,hu,hb⟩
 have F1:=h_ (F0.out.call hb)
 have X1:=h_ (X0.out.below hb)
 clear F0 X0
 have B1:=h_ (hu)
 clear hb
 have c0_1:=F1.out.c3 0 rfl
 clear X1
 obtain ⟨a3,k3,c3,rfl⟩:=B1.out.fm
 have D1:=h_ B1.out.dm
 clear B1 hu
 go_upto_region 2 with (fail)
 clear c0_1
 have F2:=h_ (F1.out.new 42 #[.bool bn,.slice a3 k3 c3,.int .i64 be] rfl)
 have D2:=h_ (D1.out.alloc (.cells #[.bool bn,.slice a3 k3 c3,.int .i64 be] 42))
 clear F1 D1
 obtain ⟨g1,hg1⟩:∃ g,g=(World.heap w1).size:=⟨_,rfl⟩
 rw [← hg1] at F2 ⊢
 clear hg1
 simp only [List.nil_append,List.cons_append] at F2
 generalize World.alloc w1 _=W2 at F2 D2 ⊢
 have c0_2:=F2.out.c3 0 rfl
 have c1_2:=F2.out.c3 1 rfl
 go_wp2_with fail
 clear c0_2 c1_2
 refine (CL.out _ _ D2.out).mono ?_
 rintro q w3 ⟨rfl,hb⟩
 have F3:=h_ (F2.out.call hb)
 have D3:=h_ (D2.out.below hb)
 clear F2 D2
 clear hb
 have c0_3:=F3.out.c3 0 rfl
 have c1_3:=F3.out.c3 1 rfl
 go_wp2_with fail
 clear c0_3 c1_3
 refine (C1.out _).mono ?_
 rintro q w4 ⟨rfl,hb⟩
 have F4:=h_ (F3.out.call hb)
 have D4:=h_ (D3.out.below hb)
 clear F3 D3
 clear hb
 have c0_4:=F4.out.c3 0 rfl
 have c1_4:=F4.out.c3 1 rfl
 go_wp2_with fail
 clear c0_4 c1_4
 refine (C3.out _).mono ?_
 rintro q w5 ⟨rfl,hb⟩
 have F5:=h_ (F4.out.call hb)
 have D5:=h_ (D4.out.below hb)
 clear F4 D4
 clear hb
 have c0_5:=F5.out.c3 0 rfl
 have c1_5:=F5.out.c3 1 rfl
 cases p1
 case false =>
  go_wp2
  go_ret
  exact ⟨by simp,F5.out.b⟩
 case true =>
  go_wp2_with fail
  clear c0_5 c1_5
  refine (C2.out _).mono ?_
  rintro q w6 ⟨rfl,hb⟩
  have F6:=h_ (F5.out.call hb)
  have D6:=h_ (D5.out.below hb)
  clear F5 D5
  clear hb
  have c0_6:=F6.out.c3 0 rfl
  have c1_6:=F6.out.c3 1 rfl
  go_wp2_with fail
  clear c0_6 c1_6
  refine (C1.out _).mono ?_
  rintro q w7 ⟨rfl,hb⟩
  have F7:=h_ (F6.out.call hb)
  have D7:=h_ (D6.out.below hb)
  clear F6 D6
  clear hb
  have c0_7:=F7.out.c3 0 rfl
  have c1_7:=F7.out.c3 1 rfl
  go_wp2_with fail
  clear c0_7 c1_7
  refine (C4.out _).mono ?_
  rintro q w8 ⟨rfl,hb⟩
  have F8:=h_ (F7.out.call hb)
  have D8:=h_ (D7.out.below hb)
  clear F7 D7
  clear hb
  have c0_8:=F8.out.c3 0 rfl
  have c1_8:=F8.out.c3 1 rfl
  go_wp2
  go_ret
  exact ⟨by simp,F8.out.b⟩
end Go.Proofs.YtobpioceopfkpaaGreatDoor
