/-
  Lemmas for WholeTurned and WholeGrows and WholeRises, part 11 of 36: what the program's functions do, and plain facts; without conditions.
-/
import Derived.Test.YtobpioceopfkpaaGreatDoorM10
import Derived.Test.YtobpioceopfkpaaGreatDoorM08
import Derived.Test.YtobpioceopfkpaaGreatDoorM06
import Derived.Test.YtobpioceopfkpaaGreatDoorM07
import Derived.Test.YtobpioceopfkpaaGreatDoorM01
set_option maxRecDepth 100000
set_option maxHeartbeats 4000000
namespace Go.Proofs.YtobpioceopfkpaaGreatDoor
open Go.RowKit
theorem scale_r (w:World) (s:Nat) (h:8≤s∧s≤9000):Calls Tryz.prog 169 #[.int .i64 (s:Int)] w fun e w'=>e=.returned (.bool true)∧w=w':=by
 have t1:decide ((8:Int)≤(s:Int))=true:=decide_eq_true (by omega)
 have t2:decide ((s:Int)≤(9000:Int))=true:=decide_eq_true (by omega)
 have t3:decide (8≤s)=true:=decide_eq_true h.1
 have t4:decide (s≤9000)=true:=decide_eq_true h.2
 clear h
 go_enter Tryz.func169,Tryz.ntmps169
 go_wp2
 go_ret
 exact ⟨rfl,rfl⟩
def atL:Nat→Nat→Pr→Pr→Pr→Nat→Pr × Pr
 | 0,_,sum,term,_,_=>(sum,term)
 | f+1,n,sum,term,sq,s=>if term.lo=0 then (sum,term) else atL f (n+2) (plusP sum (byP term n)) (timesP term sq s) sq s
def atanhP (num den s:Nat):Pr :=
 if num=0 then ⟨0,0⟩ else restP (atL (s+1) 1 ⟨0,0⟩ (fracP num den s) (timesP (fracP num den s) (fracP num den s) s) s).1 (atL (s+1) 1 ⟨0,0⟩ (fracP num den s) (timesP (fracP num den s) (fracP num den s) s) s).2
theorem up_le {a b c:Nat} (_:0 < b) (h:a≤c * b):(if a % b=0 then a / b else a / b+1)≤c:=by
 have h1:=Nat.div_add_mod a b
 split
 ·exact Nat.div_le_of_le_mul (by rw [Nat.mul_comm]; exact h)
 ·apply Nat.lt_of_mul_lt_mul_left (a:=b)
  rw [Nat.mul_comm c] at h
  omega
theorem upN_le {a k c:Nat} (h:a≤c * 2^k):upN a k≤c:=by
 unfold upN; exact up_le (Nat.two_pow_pos _) h
theorem byP_le {p:Pr} {n B:Nat} (hn:0 < n) (h:p.lo≤B∧p.hi≤B):(byP p n).lo≤B∧(byP p n).hi≤B:=by
 refine ⟨Nat.le_trans (Nat.div_le_self _ _) h.1,Nat.le_trans (up_le hn ?_) h.2⟩
 exact Nat.le_mul_of_pos_right _ hn
theorem timesP_le {p q:Pr} {s B:Nat} (h:p.lo≤B∧p.hi≤B) (k:q.lo≤2^s∧q.hi≤2^s):(timesP p q s).lo≤B∧(timesP p q s).hi≤B:=by
 refine ⟨?_,upN_le ?_⟩
 ·exact Nat.div_le_of_le_mul (by rw [Nat.mul_comm]; exact Nat.mul_le_mul k.1 h.1)
 ·exact Nat.mul_le_mul h.2 k.2
theorem timesP_half {p q:Pr} {s:Nat} (k:q.lo * 2≤2^s):(timesP p q s).lo≤p.lo / 2:=by
 show p.lo * q.lo / 2^s≤p.lo / 2
 rw [Nat.le_div_iff_mul_le (by decide)]
 have h1:=Nat.div_mul_le_self (p.lo * q.lo) (2^s)
 apply Nat.le_of_mul_le_mul_right (c:=2^s) _ (Nat.two_pow_pos _)
 calc p.lo * q.lo / 2^s * 2 * 2^s=(p.lo * q.lo / 2^s * 2^s) * 2:=by rw [Nat.mul_assoc,Nat.mul_comm 2,← Nat.mul_assoc]
  _≤p.lo * q.lo * 2:=Nat.mul_le_mul_right _ h1
  _=p.lo * (q.lo * 2):=Nat.mul_assoc _ _ _
  _≤p.lo * 2^s:=Nat.mul_le_mul_left _ k
theorem bl_half_le {n m:Nat} (h:m≤n / 2) (hn:n ≠ 0):bl m+1≤bl n:=by
 have h1:=bl_half (n:=n) (by omega)
 have h2:=bl_mono h
 omega
theorem fracP_le {num den s:Nat} (h0:0 < den) (h3:num * 3≤den):(fracP num den s).lo * 3≤2^s∧(fracP num den s).hi≤2^s:=by
 have e0:num * 2^s * 3≤2^s * den:=by
  rw [Nat.mul_right_comm,Nat.mul_comm]; exact Nat.mul_le_mul_left _ h3
 constructor
 ·show num * 2^s / den * 3≤2^s
  have h1:=Nat.div_mul_le_self (num * 2^s) den
  apply Nat.le_of_mul_le_mul_right (c:=den) _ h0
  rw [Nat.mul_right_comm]
  exact Nat.le_trans (Nat.mul_le_mul_right _ h1) e0
 ·exact up_le h0 (by omega)
theorem sq_le {t:Pr} {s:Nat} (h:t.lo * 3≤2^s):(timesP t t s).lo * 2≤2^s:=by
 have h1:=timesP_half (p:=t) (q:=t) (s:=s) (by omega)
 omega
structure AtI (s:Nat) (R:Pr × Pr) (n i f:Nat) (S T Q:Pr):Prop where
 hn:n=2 * i+1
 hf:i+f=s+1
 hb:bl T.lo≤f
 hT:T.lo≤2^s∧T.hi≤2^s
 hS:S.lo≤i * 2^s∧S.hi≤i * 2^s
 hQ:Q.lo≤2^s∧Q.hi≤2^s
 hq:Q.lo * 2≤2^s
 hR:atL f n S T Q s=R
theorem AtI.start {num den s:Nat} (h0:0 < den) (h3:num * 3≤den) :
  AtI s (atL (s+1) 1 ⟨0,0⟩ (fracP num den s) (timesP (fracP num den s) (fracP num den s) s) s) 1 0 (s+1) ⟨0,0⟩ (fracP num den s) (timesP (fracP num den s) (fracP num den s) s):=by
 obtain ⟨h1,h2⟩:=fracP_le (num:=num) (s:=s) h0 h3
 have h4:(fracP num den s).lo≤2^s:=by omega
 refine ⟨rfl,by omega,?_,⟨h4,h2⟩,by simp,timesP_le ⟨h4,h2⟩ ⟨h4,h2⟩,sq_le h1,rfl⟩
 refine bl_le (Nat.lt_of_le_of_lt h4 (Nat.pow_lt_pow_right (by decide) (by omega)))
theorem AtI.step {s:Nat} {R:Pr × Pr} {n i f:Nat} {S T Q:Pr} (h:AtI s R n i f S T Q) (h0:T.lo ≠ 0) :
  ∃ f',f=f'+1∧AtI s R (n+2) (i+1) f' (plusP S (byP T n)) (timesP T Q s) Q:=by
 obtain ⟨hn,hf,hb,hT,hS,hQ,hq,hR⟩:=h
 have hb1:=bl_pos h0
 obtain ⟨f',rfl⟩:∃ f',f=f'+1:=⟨f - 1,by omega⟩
 have hby:=byP_le (p:=T) (n:=n) (B:=2^s) (by omega) hT
 refine ⟨f',rfl,by omega,by omega,?_,timesP_le hT hQ,?_,hQ,hq,?_⟩
 ·have:=bl_half_le (timesP_half (p:=T) hq) h0
  omega
 ·rw [Nat.add_mul,Nat.one_mul]
  exact ⟨Nat.add_le_add hS.1 hby.1,Nat.add_le_add hS.2 hby.2⟩
 ·rw [atL,if_neg h0] at hR; exact hR
theorem AtI.done {s:Nat} {R:Pr × Pr} {n i f:Nat} {S T Q:Pr} (h:AtI s R n i f S T Q) (h0:T.lo=0):R=(S,T):=by
 obtain ⟨hn,hf,hb,hT,hS,hQ,hq,hR⟩:=h
 rw [← hR]
 cases f with
 | zero=>rfl
 | succ f=>rw [atL,if_pos h0]
theorem bl_pow_le {x s k:Nat} (h:x≤k * 2^s) (hk:k≤2^20):bl x≤s+21:=by
 apply bl_le
 apply Nat.lt_of_le_of_lt h
 rw [Nat.pow_add,Nat.mul_comm]
 exact Nat.mul_lt_mul_of_pos_left (Nat.lt_of_le_of_lt hk (by decide)) (Nat.two_pow_pos _)
theorem AtI.szs {s:Nat} {R:Pr × Pr} {n i f:Nat} {S T Q:Pr} (h:AtI s R n i f S T Q) (hs:s≤9000) :
  n≤20010∧bl T.lo≤10000∧bl T.hi≤10000∧bl S.lo≤10000∧bl S.hi≤10000∧bl Q.lo≤10000∧bl Q.hi≤10000:=by
 obtain ⟨hn,hf,hb,hT,hS,hQ,hq,hR⟩:=h
 have k:∀ x,x≤2^s→bl x≤10000:=fun x hx=>Nat.le_trans (bl_pow_le (s:=s) (k:=1) (by omega) (by decide)) (by omega)
 have k2:∀ x,x≤i * 2^s→bl x≤10000:=fun x hx=>Nat.le_trans (bl_pow_le (s:=s) hx (Nat.le_trans (show i≤9001 by omega) (by decide))) (by omega)
 exact ⟨by omega,k _ hT.1,k _ hT.2,k2 _ hS.1,k2 _ hS.2,k _ hQ.1,k _ hQ.2⟩
theorem Atanh_r {w:World} {u v:Value} {num den:Nat} (hu:Rd w u num) (hv:Rd w v den) (s:Nat) (hs:8≤s∧s≤9000) (h3:num * 3≤den) (h0:0 < den) (h64:den < 18446744073709551616) :
  Calls Tryz.prog 153 #[u,v,.int .i64 (s:Int)] w fun e w'=>∃ x y,e=.returned (.tuple #[x,y,.int .i64 0])∧Dg w' x (atanhP num den s).lo∧Dg w' y (atanhP num den s).hi∧Below w.heap.size w w':=by
 have HU:=h_ hu
 have HV:=h_ hv
 obtain ⟨a1,k1,c1,rfl⟩:=hu.form
 obtain ⟨a2,k2,c2,rfl⟩:=hv.form
 have n64:num < 18446744073709551616:=by omega
 have bn:=bl64 n64
 have bd:=bl64 h64
 have C1:=h_ (fun w (h:Rd w (.slice a1 k1 c1) num)=>times_r h (n:=3) (by decide))
 have e1:mulN num 3=num * 3:=by unfold mulN; rw [if_neg]; have:bl 3≤64:=bl64 (by decide); omega
 have e2:mulE num 3=0:=by unfold mulE; split; rfl; rw [if_neg]; have:bl 3≤64:=bl64 (by decide); omega
 rw [e1,e2] at C1
 have b3:bl (num * 3)≤6000000:=Nat.le_trans (bl64 (x:=num * 3) (by omega)) (by decide)
 have C2:=h_ (fun w u v (h:Rd w u (num * 3)) (k:Rd w v den)=>cmp_r h k)
 have e3:decide (0 < cmpN (num * 3) den)=false:=decide_eq_false (by unfold cmpN; split; omega; split <;> omega)
 have bd0:bl den ≠ 0:=by have:=bl_pos (n:=den) (by omega); omega
 have C5:=h_ (fun w (h:Rd w (.slice a1 k1 c1) num)=>bits_r h)
 have C6:=h_ (fun w (h:Rd w (.slice a2 k2 c2) den)=>bits_r h)
 have CF:=h_ (fun w (h:Rd w (.slice a1 k1 c1) num) (k:Rd w (.slice a2 k2 c2) den)=>frac_r h k s h0 h64 (by omega))
 have CS:=h_ (fun w=>scale_r w s hs)
 have HI:=h_ (AtI.start (num:=num) h0 h3 (s:=s))
 have HA1:Hid (num=0→atanhP num den s=⟨0,0⟩):=fun h=>by unfold atanhP; rw [if_pos h]
 have HA2:Hid (num ≠ 0→atanhP num den s=restP (atL (s+1) 1 ⟨0,0⟩ (fracP num den s) (timesP (fracP num den s) (fracP num den s) s) s).1 (atL (s+1) 1 ⟨0,0⟩ (fracP num den s) (timesP (fracP num den s) (fracP num den s) s) s).2):=fun h=>by unfold atanhP; rw [if_neg h]
 have HB:=h_ (fun h:bl num=0=>(Classical.byContradiction fun h2:¬ num=0=>by have:=bl_pos h2; omega:num=0))
 generalize atL (s+1) 1 ⟨0,0⟩ (fracP num den s) (timesP (fracP num den s) (fracP num den s) s) s=R at *
 generalize atanhP num den s=A at *
 generalize fracP num den s=f at *
 generalize cmpN (num * 3) den=c at *
 generalize num * 3=num3 at *
 generalize hbn:bl num=ln at *
 generalize hbd:bl den=ld at *
 have t1:decide (4096 < (ln:Int))=false:=decide_eq_false (by omega)
 have t2:decide (4096 < (ld:Int))=false:=decide_eq_false (by omega)
 have t3:((ld:Int) == 0)=false:=by rw [beq_eq_false_iff_ne]; omega
 have t4:(ld == 0)=false:=by rw [beq_eq_false_iff_ne]; omega
 have hbl:=h_ (And.intro hbn hbd)
 obtain ⟨hs1,hs2⟩:=hs
 clear hu hv e1 e2 n64 h3 h0 h64 hbn hbd bn bd bd0
 go_enter Tryz.func153,Tryz.ntmps153
 have F0:=h_ (Fx.nil w)
 have X0:=h_ (HU.out)
 have Y0:=h_ (HV.out)
 clear HU HV
 go_wp2_with fail
 refine (C1.out _ X0.out).mono ?_
 rintro q w1 ⟨u,rfl,hu,hb⟩
 have F1:=h_ (F0.out.call hb)
 have X1:=h_ (X0.out.below hb)
 have Y1:=h_ (Y0.out.below hb)
 clear F0 X0 Y0
 have Z1:=h_ (hu)
 clear hb
 obtain ⟨a3,k3,c3,rfl⟩:=Z1.out.form
 go_wp2_with fail
 refine (CS.out _).mono ?_
 rintro q w2 ⟨rfl,rfl⟩
 go_wp2_with fail
 refine (C5.out _ X1.out).mono ?_
 rintro q w2 ⟨rfl,hb⟩
 have F2:=h_ (F1.out.call hb)
 have X2:=h_ (X1.out.below hb)
 have Y2:=h_ (Y1.out.below hb)
 have Z2:=h_ (Z1.out.below hb)
 clear F1 X1 Y1 Z1
 clear hb
 go_wp2_with fail
 refine (C6.out _ Y2.out).mono ?_
 rintro q w3 ⟨rfl,hb⟩
 have F3:=h_ (F2.out.call hb)
 have X3:=h_ (X2.out.below hb)
 have Y3:=h_ (Y2.out.below hb)
 have Z3:=h_ (Z2.out.below hb)
 clear F2 X2 Y2 Z2
 clear hb
 go_wp2_with fail
 refine (C6.out _ Y3.out).mono ?_
 rintro q w4 ⟨rfl,hb⟩
 have F4:=h_ (F3.out.call hb)
 have X4:=h_ (X3.out.below hb)
 have Y4:=h_ (Y3.out.below hb)
 have Z4:=h_ (Z3.out.below hb)
 clear F3 X3 Y3 Z3
 clear hb
 go_wp2_with fail
 refine (C2.out _ _ _ (Z4.out.rd b3) Y4.out).mono ?_
 rintro q w5 ⟨rfl,hb⟩
 have F5:=h_ (F4.out.call hb)
 have X5:=h_ (X4.out.below hb)
 have Y5:=h_ (Y4.out.below hb)
 have Z5:=h_ (Z4.out.below hb)
 clear F4 X4 Y4 Z4
 clear hb
 clear Z5
 go_wp2_with fail
 refine (C5.out _ X5.out).mono ?_
 rintro q w6 ⟨rfl,hb⟩
 have F6:=h_ (F5.out.call hb)
 have X6:=h_ (X5.out.below hb)
 have Y6:=h_ (Y5.out.below hb)
 clear F5 X5 Y5
 clear hb
 by_cases hn:num=0
 ·obtain rfl:ln=0:=by rw [← hbl.out.1,hn]; rfl
  have HE:Hid (A=⟨0,0⟩):=HA1.out hn
  clear hn
  go_wp2
  refine bodyPost_ret (v:=.tuple #[.slice none 0 0,.slice none 0 0,.int .i64 0]) (by simp [results,Tryz.results153,go_sem]) rfl ?_
  exact ⟨_,_,rfl,by rw [HE.out]; exact Dg.nil X6.out.tab,by rw [HE.out]; exact Dg.nil X6.out.tab,F6.out.b⟩
 ·have t5:((ln:Int) == 0)=false:=by rw [beq_eq_false_iff_ne]; intro h; exact hn (HB.out (by omega))
  have t6:(ln == 0)=false:=by rw [beq_eq_false_iff_ne]; intro h; exact hn (HB.out h)
  have HE:Hid (A=restP R.1 R.2):=HA2.out hn
  clear hn
  go_wp2_with fail
  refine (CF.out _ X6.out Y6.out).mono ?_
  rintro q w7 ⟨u,rfl,hu,hb⟩
  have F7:=h_ (F6.out.call hb)
  have X7:=h_ (X6.out.below hb)
  have Y7:=h_ (Y6.out.below hb)
  clear F6 X6 Y6
  have T7:=h_ (hu)
  clear hb
  clear X7 Y7
  obtain ⟨a4,k4,c4,a5,k5,c5,rfl,h1,h2⟩:=T7.out
  clear h1 h2
  have HZ:=h_ (HI.out.szs hs2)
  generalize hQE:timesP f f s=Q at *
  have HQE:=h_ hQE
  clear hQE
  have CT:=h_ (fun w u v p q hu hv h1 h2=>ptimes_r (w:=w) (u:=u) (v:=v) (p:=p) (q:=q) hu hv s (by omega) h1 h2)
  go_wp2_with fail
  have F8:=h_ (F7.out.new 226 #[.slice a4 k4 c4,.slice a5 k5 c5] rfl)
  have T8:=h_ (T7.out.alloc (.cells #[.slice a4 k4 c4,.slice a5 k5 c5] 226))
  clear F7 T7
  obtain ⟨g1,hg1⟩:∃ g,g=(World.heap w7).size:=⟨_,rfl⟩
  rw [← hg1] at F8 ⊢
  clear hg1
  simp only [List.nil_append] at F8
  generalize World.alloc w7 _=W8 at F8 T8 ⊢
  have c0_8:=F8.out.c2 0 rfl
  clear c0_8
  refine (CT.out _ _ _ _ _ T8.out T8.out (by have:=HZ.out; omega) (by have:=HZ.out; omega)).mono ?_
  rintro q w9 ⟨u,rfl,hu,hb⟩
  have F9:=h_ (F8.out.call hb)
  have T9:=h_ (T8.out.below hb)
  clear F8 T8
  have Q9:=h_ (HQE.out ▸ hu)
  clear hb
  have c0_9:=F9.out.c2 0 rfl
  obtain ⟨a6,k6,c6,a7,k7,c7,rfl,h1,h2⟩:=Q9.out
  clear h1 h2
  go_wp2
  clear c0_9
  have F10:=h_ (F9.out.new 226 #[.slice a6 k6 c6,.slice a7 k7 c7] rfl)
  have T10:=h_ (T9.out.alloc (.cells #[.slice a6 k6 c6,.slice a7 k7 c7] 226))
  have Q10:=h_ (Q9.out.alloc (.cells #[.slice a6 k6 c6,.slice a7 k7 c7] 226))
  clear F9 T9 Q9
  obtain ⟨g2,hg2⟩:∃ g,g=(World.heap w9).size:=⟨_,rfl⟩
  rw [← hg2] at F10 ⊢
  have hzg2:(World.heap (World.alloc w9 (.cells #[.slice a6 k6 c6,.slice a7 k7 c7] 226))).size=g2+1:=by rw [hg2]; simp
  clear hg2
  simp only [List.nil_append,List.cons_append] at F10
  generalize World.alloc w9 _=W10 at hzg2 F10 T10 Q10 ⊢
  have F11:=h_ (F10.out.new 226 #[.slice none 0 0,.slice none 0 0] rfl)
  have T11:=h_ (T10.out.alloc (.cells #[.slice none 0 0,.slice none 0 0] 226))
  have Q11:=h_ (Q10.out.alloc (.cells #[.slice none 0 0,.slice none 0 0] 226))
  clear F10 T10 Q10
  rw [hzg2] at F11
  clear hzg2
  simp only [List.nil_append,List.cons_append] at F11
  generalize World.alloc W10 _=W11 at F11 T11 Q11 ⊢
  have c0_11:=F11.out.c2 0 rfl
  have c1_11:=F11.out.c2 1 rfl
  have c2_11:=F11.out.c2 2 rfl
  obtain ⟨ql,qh⟩:=Q
  obtain ⟨R1,R2⟩:=R
  have HQ1:=Q11.out
  have HT1:=T11.out
  have HZN:Hid (Pv W11 (.agg #[.slice none 0 0,.slice none 0 0]) ⟨0,0⟩):=⟨_,_,_,_,_,_,rfl,Dg.nil HT1.tab,Dg.nil HT1.tab⟩
  clear HT1 HQ1
  go_loopw [14] (fun nv wr=>∃ (n i e tl th sl sh:Nat) (a1:Option Addr) (k1 c1:Nat) (a2:Option Addr) (k2 c2:Nat) (a3:Option Addr) (k3 c3:Nat) (a4:Option Addr) (k4 c4:Nat),nv=.int .u64 (n:Int)∧Hid (AtI s (R1,R2) n i e ⟨sl,sh⟩ ⟨tl,th⟩ ⟨ql,qh⟩)∧Hid (Fx w wr [(g1,226,#[.slice a1 k1 c1,.slice a2 k2 c2]),(g2,226,#[.slice a6 k6 c6,.slice a7 k7 c7]),(g2+1,226,#[.slice a3 k3 c3,.slice a4 k4 c4])])∧Hid (Pv wr (.agg #[.slice a1 k1 c1,.slice a2 k2 c2]) ⟨tl,th⟩)∧Hid (Pv wr (.agg #[.slice a6 k6 c6,.slice a7 k7 c7]) ⟨ql,qh⟩)∧Hid (Pv wr (.agg #[.slice a3 k3 c3,.slice a4 k4 c4]) ⟨sl,sh⟩)) (fun n _=>(40000 - intOf n).toNat)
  case atStart=>exact ⟨1,0,s+1,f.lo,f.hi,0,0,_,_,_,_,_,_,_,_,_,_,_,_,rfl,HI,F11,T11,Q11,HZN⟩
  case round =>
   clear c0_11 c1_11 c2_11
   clear F11 T11 Q11 HZN HI HZ
   obtain ⟨n,i,e,tl,th,sl,sh,a1,k1,c1,a2,k2,c2,a3,k3,c3,a4,k4,c4,rfl,hI,hF,hT,hQ,hS⟩:=hrel
   have HZ:=h_ (hI.out.szs hs2)
   have F12:=hF
   have T12:=hT
   have Q12:=hQ
   have S12:=hS
   clear hF hT hQ hS
   have c0_12:=F12.out.c2 0 rfl
   have c1_12:=F12.out.c2 1 rfl
   have c2_12:=F12.out.c2 2 rfl
   have HD:=h_ T12.out.fst.1
   go_wp2_with fail
   clear c0_12 c1_12 c2_12
   refine (bits_r (HD.out.rd (by have:=HZ.out; omega))).mono ?_
   rintro q w13 ⟨rfl,hb⟩
   have F13:=h_ (F12.out.call hb)
   have T13:=h_ (T12.out.below hb)
   have Q13:=h_ (Q12.out.below hb)
   have S13:=h_ (S12.out.below hb)
   clear F12 T12 Q12 S12
   clear hb
   have c0_13:=F13.out.c2 0 rfl
   have c1_13:=F13.out.c2 1 rfl
   have c2_13:=F13.out.c2 2 rfl
   clear HD
   obtain ⟨z1,z2,z3,z4,z5,z6,z7⟩:n≤20010∧bl tl≤10000∧bl th≤10000∧bl sl≤10000∧bl sh≤10000∧bl ql≤10000∧bl qh≤10000:=HZ.out
   have B1:Hid (bl (Pr.mk sl sh).lo≤1000000∧bl (Pr.mk sl sh).hi≤1000000∧bl (Pr.mk tl th).lo≤1000000∧bl (Pr.mk tl th).hi≤1000000):=⟨Nat.le_trans z4 (by decide),Nat.le_trans z5 (by decide),Nat.le_trans z2 (by decide),Nat.le_trans z3 (by decide)⟩
   have B2:Hid (bl (Pr.mk tl th).lo≤6000000∧bl (Pr.mk tl th).hi≤6000000):=⟨Nat.le_trans z2 (by decide),Nat.le_trans z3 (by decide)⟩
   have B3:Hid (bl (Pr.mk tl th).lo+bl (Pr.mk ql qh).lo≤65536∧bl (Pr.mk tl th).hi+bl (Pr.mk ql qh).hi≤65536):=⟨by show bl tl+bl ql≤65536; omega,by show bl th+bl qh≤65536; omega⟩
   have hn1:0 < n:=by have:=hI.out.hn; omega
   have B4:Hid (bl (byP ⟨tl,th⟩ n).lo≤1000000∧bl (byP ⟨tl,th⟩ n).hi≤1000000):=by
    have hT:tl≤1 * 2^s∧th≤1 * 2^s:=by have:=hI.out.hT; simpa using this
    have h:=byP_le (p:=⟨tl,th⟩) hn1 hT
    have h1:=bl_pow_le h.1 (by decide)
    have h2:=bl_pow_le h.2 (by decide)
    exact ⟨by omega,by omega⟩
   clear z2 z3 z4 z5 z6 z7 HZ
   obtain ⟨lt,hlt⟩:∃ lt,lt=bl tl:=⟨_,rfl⟩
   rw [← hlt]
   by_cases h0:tl=0
   ·have HR:=h_ (hI.out.done h0)
    obtain rfl:lt=0:=by rw [hlt,h0]; rfl
    clear h0 hI hlt
    go_wp2_with fail
    clear c0_13 c1_13 c2_13
    refine (prest_r S13.out T13.out B1.out).mono ?_
    rintro q w14 ⟨u,rfl,hu,hb⟩
    have F14:=h_ (F13.out.call hb)
    have T14:=h_ (T13.out.below hb)
    have Q14:=h_ (Q13.out.below hb)
    have S14:=h_ (S13.out.below hb)
    clear F13 T13 Q13 S13
    have R14:=h_ (hu)
    clear hb
    have c0_14:=F14.out.c2 0 rfl
    have c1_14:=F14.out.c2 1 rfl
    have c2_14:=F14.out.c2 2 rfl
    obtain ⟨b1,e1,d1,b2,e2,d2,rfl,h1,h2⟩:=R14.out
    clear h1 h2
    go_wp2_with fail
    clear c0_14 c1_14 c2_14
    obtain ⟨f,p⟩:=F14.out.s2 2 rfl (.slice b1 e1 d1) (.slice b2 e2 d2) rfl rfl
    generalize (World.setCell (World.setCell _ _ _) _ _)=W at f p ⊢
    have F15:=h_ (f)
    have T15:=h_ (T14.out.kp p)
    have Q15:=h_ (Q14.out.kp p)
    have S15:=h_ (S14.out.kp p)
    have R15:=h_ (R14.out.kp p)
    clear F14 T14 Q14 S14 R14
    clear f p
    have c0_15:=F15.out.c2 0 rfl
    have c1_15:=F15.out.c2 1 rfl
    have c2_15:=F15.out.c2 2 rfl
    go_quiet (fail)
    go_wp2
    refine bodyPost_ret (v:=.tuple #[.slice b1 e1 d1,.slice b2 e2 d2,.int .i64 0]) (by simp [results,Tryz.results153,go_sem]) rfl ?_
    have HX:=HE.out
    have hr:=HR.out
    injection hr with hr1 hr2
    rw [HX,hr1,hr2]
    exact ⟨_,_,rfl,(R15.out.fst.1).drewN _,(R15.out.fst.2).drewN _,(F15.out.drewN _).b⟩
   ·have HN:=h_ (hI.out.step h0)
    have hpos:=bl_pos h0
    have t7:decide (0 < (lt:Int))=true:=decide_eq_true (by omega)
    have t8:decide (0 < lt)=true:=decide_eq_true (by omega)
    obtain ⟨m,hm⟩:∃ m,m=n+2:=⟨_,rfl⟩
    have q1:IntKind.u64.wrap ((n:Int)+2)=(m:Int):=by rw [IntKind.wrap_u64]; omega
    have HM:=h_ hm
    have HNB:=h_ (And.intro hn1 (show n < 18446744073709551616 by omega))
    clear h0 hI hpos hlt hm hn1
    go_upto_region 12 with (fail)
    have D13:=h_ (F13.out.drew)
    have d0_13:=D13.out.c2 0 rfl
    have d1_13:=D13.out.c2 1 rfl
    have d2_13:=D13.out.c2 2 rfl
    go_region_with (first | (have RR:=F14.out; go_at_call 172; (with_reducible refine (pplus_r S14.out U14.out ⟨B1.out.1,B1.out.2.1,B4.out.1,B4.out.2⟩).mono ?_); rintro q ww15 ⟨u2,rfl,hu,hb⟩; have F15:=h_ (RR.call hb); have T15:=h_ (T14.out.below hb); have Q15:=h_ (Q14.out.below hb); have S15:=h_ (S14.out.below hb); have U15:=h_ (U14.out.below hb); have V15:=h_ (hu); obtain ⟨b3,e3,d3,b4,e4,d4,rfl,h1,h2⟩:=V15.out; clear h1 h2; have c0_15:=F15.out.c2 0 rfl; have c1_15:=F15.out.c2 1 rfl; have c2_15:=F15.out.c2 2 rfl; clear hb RR) | (have RR:=D13.out; go_at_call 171; (with_reducible refine (pby_r (T13.out.drew) HNB.out.1 HNB.out.2 B2.out.1 B2.out.2).mono ?_); rintro q ww14 ⟨u1,rfl,hu,hb⟩; have F14:=h_ (RR.call hb); have T14:=h_ ((T13.out.drew).below hb); have Q14:=h_ ((Q13.out.drew).below hb); have S14:=h_ ((S13.out.drew).below hb); have U14:=h_ (hu); obtain ⟨b1,e1,d1,b2,e2,d2,rfl,h1,h2⟩:=U14.out; clear h1 h2; have c0_14:=F14.out.c2 0 rfl; have c1_14:=F14.out.c2 1 rfl; have c2_14:=F14.out.c2 2 rfl; clear hb RR))
    all_goals
     clear c0_15 c1_15 c2_15
     obtain ⟨f,p⟩:=F15.out.s2 2 rfl (.slice b3 e3 d3) (.slice b4 e4 d4) rfl rfl
     generalize (World.setCell (World.setCell _ _ _) _ _)=W at f p ⊢
     have F16:=h_ (f)
     have T16:=h_ (T15.out.kp p)
     have Q16:=h_ (Q15.out.kp p)
     have S16:=h_ (S15.out.kp p)
     have U16:=h_ (U15.out.kp p)
     have V16:=h_ (V15.out.kp p)
     clear F15 T15 Q15 S15 U15 V15
     clear f p
     have c0_16:=F16.out.c2 0 rfl
     have c1_16:=F16.out.c2 1 rfl
     have c2_16:=F16.out.c2 2 rfl
     clear S16 U16
     go_wp2_with fail
     clear c0_16 c1_16 c2_16
     refine (CT.out _ _ _ _ _ T16.out Q16.out B3.out.1 B3.out.2).mono ?_
     rintro q w17 ⟨u,rfl,hu,hb⟩
     have F17:=h_ (F16.out.call hb)
     have T17:=h_ (T16.out.below hb)
     have Q17:=h_ (Q16.out.below hb)
     have V17:=h_ (V16.out.below hb)
     clear F16 T16 Q16 V16
     have Z17:=h_ (hu)
     clear hb
     have c0_17:=F17.out.c2 0 rfl
     have c1_17:=F17.out.c2 1 rfl
     have c2_17:=F17.out.c2 2 rfl
     clear T17
     obtain ⟨b5,e5,d5,b6,e6,d6,rfl,h1,h2⟩:=Z17.out
     clear h1 h2
     obtain ⟨e',he',hI'⟩:=HN.out
     rw [← HM.out] at hI'
     have HI':=h_ hI'
     clear he' hI'
     go_wp2_with fail
     clear c0_17 c1_17 c2_17
     obtain ⟨f,p⟩:=F17.out.s2 0 rfl (.slice b5 e5 d5) (.slice b6 e6 d6) rfl rfl
     generalize (World.setCell (World.setCell _ _ _) _ _)=W at f p ⊢
     have F18:=h_ (f)
     have Q18:=h_ (Q17.out.kp p)
     have V18:=h_ (V17.out.kp p)
     have Z18:=h_ (Z17.out.kp p)
     clear F17 Q17 V17 Z17
     clear f p
     have c0_18:=F18.out.c2 0 rfl
     have c1_18:=F18.out.c2 1 rfl
     have c2_18:=F18.out.c2 2 rfl
     go_roundw
     case rel=>exact ⟨m,i+1,e',_,_,_,_,_,_,_,_,_,_,_,_,_,_,_,_,rfl,HI',F18,Z18,Q18,V18⟩
     case measure=>have h1:=HM.out; simp only [intOf]; omega
structure In where
 lo:Dn
 hi:Dn
def withinN (lo hi:Nat) (e:Int) (neg:Bool):In :=
 if 0 < CmpD (bareN ⟨neg,lo,e⟩) (bareN ⟨neg,hi,e⟩) then ⟨bareN ⟨neg,hi,e⟩,bareN ⟨neg,lo,e⟩⟩ else ⟨bareN ⟨neg,lo,e⟩,bareN ⟨neg,hi,e⟩⟩
def Iv (w:World) (v:Value) (i:In):Prop:=∃ a k c a' k' c',v=.agg #[.bool i.lo.neg,.slice a k c,.int .i64 i.lo.e,.bool i.hi.neg,.slice a' k' c',.int .i64 i.hi.e] ∧
 Cy w (.agg #[.bool i.lo.neg,.slice a k c,.int .i64 i.lo.e]) i.lo∧Cy w (.agg #[.bool i.hi.neg,.slice a' k' c',.int .i64 i.hi.e]) i.hi
theorem Iv.below {w w':World} {v:Value} {i:In} (h:Iv w v i) (hb:Below w.heap.size w w'):Iv w' v i:=by
 obtain ⟨a,k,c,a',k',c',h1,h2,h3⟩:=h; exact ⟨a,k,c,a',k',c',h1,h2.below hb,h3.below hb⟩
theorem Iv.alloc {w:World} {v:Value} {i:In} (h:Iv w v i) (o:Obj):Iv (w.alloc o) v i:=by
 obtain ⟨a,k,c,a',k',c',h1,h2,h3⟩:=h; exact ⟨a,k,c,a',k',c',h1,h2.alloc o,h3.alloc o⟩
theorem Iv.drew {w:World} {v:Value} {i:In} (h:Iv w v i):Iv w.drew v i:=by
 obtain ⟨a,k,c,a',k',c',h1,h2,h3⟩:=h; exact ⟨a,k,c,a',k',c',h1,h2.drew,h3.drew⟩
theorem Iv.kp {w w':World} {v:Value} {i:In} (h:Iv w v i) (K:Kp w w'):Iv w' v i:=by
 obtain ⟨a,k,c,a',k',c',h1,h2,h3⟩:=h; exact ⟨a,k,c,a',k',c',h1,h2.kp K,h3.kp K⟩
theorem Iv.tab {w:World} {v:Value} {i:In} (h:Iv w v i):Tab w:=by
 obtain ⟨a,k,c,a',k',c',h1,h2,h3⟩:=h; exact h2.tab
theorem Iv.fm {w:World} {v:Value} {n:Bool} {m:Nat} {e:Int} {n':Bool} {m':Nat} {e':Int} (h:Iv w v ⟨⟨n,m,e⟩,⟨n',m',e'⟩⟩):∃ a k c a' k' c',v=.agg #[.bool n,.slice a k c,.int .i64 e,.bool n',.slice a' k' c',.int .i64 e'] ∧
  Cy w (.agg #[.bool n,.slice a k c,.int .i64 e]) ⟨n,m,e⟩∧Cy w (.agg #[.bool n',.slice a' k' c',.int .i64 e']) ⟨n',m',e'⟩:=h
def RetI (i:In) (w:World) (e:Ending) (w':World):Prop:=∃ u,e=.returned u∧Iv w' u i∧Below w.heap.size w w'
theorem Within_r {w:World} {u v:Value} {lo hi:Nat} (hu:Rd w u lo) (hv:Rd w v hi) (neg:Bool) (s e:Int) (hs:s=-e) (he:-100000≤e∧e≤100000) (h1:bl lo≤30000) (h2:bl hi≤30000) :
  Calls Tryz.prog 135 #[u,v,.int .i64 s,.bool neg] w (RetI (withinN lo hi e neg) w):=by
 obtain ⟨a1,k1,c1,rfl⟩:=hu.form
 obtain ⟨a2,k2,c2,rfl⟩:=hv.form
 have C1:=h_ (fun w (h:Rd w (.slice a1 k1 c1) lo)=>Make_s (neg:=neg) (e:=e) h (by omega) (by omega))
 have C2:=h_ (fun w (h:Rd w (.slice a2 k2 c2) hi)=>Make_s (neg:=neg) (e:=e) h (by omega) (by omega))
 have q1:IntKind.i64.wrap (-s)=e:=by rw [hs,IntWalk.i64_in _ (by omega)]; omega
 obtain ⟨I,hI⟩:∃ I,I=withinN lo hi e neg:=⟨_,rfl⟩
 rw [← hI]
 unfold withinN at hI
 generalize bareN ⟨neg,lo,e⟩=A at *
 generalize bareN ⟨neg,hi,e⟩=B at *
 have CC:=h_ (fun w u v (h:Cy w u A) (k:Cy w v B)=>Cmp_d h.ry k.ry)
 generalize CmpD A B=c at *
 have HW:=h_ hI
 clear hI
 obtain ⟨an,am,ae⟩:=A
 obtain ⟨bn,bm,be⟩:=B
 have HU:=h_ hu
 have HV:=h_ hv
 clear hu hv hs he h1 h2
 go_enter Tryz.func135,Tryz.ntmps135
 have F0:=h_ (Fx.one w 92 #[.bool false,.slice none 0 0,.int .i64 0,.bool false,.slice none 0 0,.int .i64 0] rfl)
 have X0:=h_ (HU.out.alloc (.cells #[.bool false,.slice none 0 0,.int .i64 0,.bool false,.slice none 0 0,.int .i64 0] 92))
 have Y0:=h_ (HV.out.alloc (.cells #[.bool false,.slice none 0 0,.int .i64 0,.bool false,.slice none 0 0,.int .i64 0] 92))
 clear HU HV
 go_wp2_with fail
 generalize World.alloc _ _=w0 at F0 X0 Y0 ⊢
 have c0_0:=F0.out.c6 0 rfl
 clear c0_0
 refine (C1.out _ X0.out).mono ?_
 rintro q w1 ⟨u,rfl,hu,hb⟩
 have F1:=h_ (F0.out.call hb)
 have X1:=h_ (X0.out.below hb)
 have Y1:=h_ (Y0.out.below hb)
 clear F0 X0 Y0
 have U1:=h_ (hu)
 clear hb
 have c0_1:=F1.out.c6 0 rfl
 clear X1
 obtain ⟨a3,k3,c3,rfl⟩:=U1.out.fm
 go_wp2_with fail
 clear c0_1
 have F2:=h_ (F1.out.new 42 #[.bool an,.slice a3 k3 c3,.int .i64 ae] rfl)
 have Y2:=h_ (Y1.out.alloc (.cells #[.bool an,.slice a3 k3 c3,.int .i64 ae] 42))
 have U2:=h_ (U1.out.alloc (.cells #[.bool an,.slice a3 k3 c3,.int .i64 ae] 42))
 clear F1 Y1 U1
 obtain ⟨g1,hg1⟩:∃ g,g=(World.heap w1).size:=⟨_,rfl⟩
 rw [← hg1] at F2 ⊢
 clear hg1
 simp only [List.nil_append,List.cons_append] at F2
 generalize World.alloc w1 _=W2 at F2 Y2 U2 ⊢
 have c0_2:=F2.out.c6 0 rfl
 have c1_2:=F2.out.c3 1 rfl
 clear c0_2 c1_2
 refine (C2.out _ Y2.out).mono ?_
 rintro q w3 ⟨u,rfl,hu,hb⟩
 have F3:=h_ (F2.out.call hb)
 have Y3:=h_ (Y2.out.below hb)
 have U3:=h_ (U2.out.below hb)
 clear F2 Y2 U2
 have V3:=h_ (hu)
 clear hb
 have c0_3:=F3.out.c6 0 rfl
 have c1_3:=F3.out.c3 1 rfl
 clear Y3
 obtain ⟨a4,k4,c4,rfl⟩:=V3.out.fm
 go_upto_region 3 with (fail)
 clear c0_3 c1_3
 have F4:=h_ (F3.out.new 42 #[.bool bn,.slice a4 k4 c4,.int .i64 be] rfl)
 have U4:=h_ (U3.out.alloc (.cells #[.bool bn,.slice a4 k4 c4,.int .i64 be] 42))
 have V4:=h_ (V3.out.alloc (.cells #[.bool bn,.slice a4 k4 c4,.int .i64 be] 42))
 clear F3 U3 V3
 obtain ⟨g2,hg2⟩:∃ g,g=(World.heap w3).size:=⟨_,rfl⟩
 rw [← hg2] at F4 ⊢
 clear hg2
 simp only [List.nil_append,List.cons_append] at F4
 generalize World.alloc w3 _=W4 at F4 U4 V4 ⊢
 have c0_4:=F4.out.c6 0 rfl
 have c1_4:=F4.out.c3 1 rfl
 have c2_4:=F4.out.c3 2 rfl
 go_wp2_with fail
 clear c0_4 c1_4 c2_4
 refine (CC.out _ _ _ U4.out V4.out).mono ?_
 rintro q w5 ⟨rfl,hb⟩
 have F5:=h_ (F4.out.call hb)
 have U5:=h_ (U4.out.below hb)
 have V5:=h_ (V4.out.below hb)
 clear F4 U4 V4
 clear hb
 have c0_5:=F5.out.c6 0 rfl
 have c1_5:=F5.out.c3 1 rfl
 have c2_5:=F5.out.c3 2 rfl
 by_cases h0:0 < c
 ·have z1:decide (0 < c)=true:=decide_eq_true h0
  have HE:=h_ (HW.out.trans (if_pos h0))
  clear h0 HW
  have hne:=F5.out.lt2 1 2 (by decide) rfl rfl
  go_upto_region 5 with (fail)
  clear hne
  have hcells:=c0_5
  clear hcells
  obtain ⟨f1,p1⟩:=F5.out.s3 1 rfl (.bool bn) (.slice a4 k4 c4) (.int .i64 be) rfl rfl rfl
  obtain ⟨f2,p2⟩:=f1.s3 2 rfl (.bool an) (.slice a3 k3 c3) (.int .i64 ae) rfl rfl rfl
  have p:=p1.trans p2
  have f:=f2
  clear f1 f2 p1 p2
  clear c0_5 c1_5 c2_5
  generalize (World.setCell (World.setCell (World.setCell (World.setCell (World.setCell (World.setCell _ _ _) _ _) _ _) _ _) _ _) _ _)=W at f p ⊢
  have F6:=h_ (f)
  have U6:=h_ (U5.out.kp p)
  have V6:=h_ (V5.out.kp p)
  clear F5 U5 V5
  clear f p
  simp only [List.set_cons_zero,List.set_cons_succ] at F6
  have c0_6:=F6.out.c6 0 rfl
  have c1_6:=F6.out.c3 1 rfl
  have c2_6:=F6.out.c3 2 rfl
  go_wp2
  obtain ⟨f0,p0⟩:=F6.out.s6 0 rfl (.bool bn) (.slice a4 k4 c4) (.int .i64 be) (.bool an) (.slice a3 k3 c3) (.int .i64 ae) rfl rfl rfl rfl rfl rfl
  have p:=p0
  have f:=f0
  clear f0 p0
  generalize (World.setCell (World.setCell (World.setCell (World.setCell (World.setCell (World.setCell _ _ _) _ _) _ _) _ _) _ _) _ _)=W at f p ⊢
  have g0:=f.c6 0 rfl
  refine bodyPost_ret (v:=.agg #[.bool bn,.slice a4 k4 c4,.int .i64 be,.bool an,.slice a3 k3 c3,.int .i64 ae]) (by simp [results,Tryz.results135,go_sem,g0]) rfl ?_
  rw [HE.out]
  exact ⟨_,rfl,⟨_,_,_,_,_,_,rfl,V6.out.kp p,U6.out.kp p⟩,f.b⟩
 ·have z1:decide (0 < c)=false:=decide_eq_false h0
  have HE:=h_ (HW.out.trans (if_neg h0))
  clear h0 HW
  go_wp2
  obtain ⟨f0,p0⟩:=F5.out.s6 0 rfl (.bool an) (.slice a3 k3 c3) (.int .i64 ae) (.bool bn) (.slice a4 k4 c4) (.int .i64 be) rfl rfl rfl rfl rfl rfl
  have p:=p0
  have f:=f0
  clear f0 p0
  generalize (World.setCell (World.setCell (World.setCell (World.setCell (World.setCell (World.setCell _ _ _) _ _) _ _) _ _) _ _) _ _)=W at f p ⊢
  have g0:=f.c6 0 rfl
  refine bodyPost_ret (v:=.agg #[.bool an,.slice a3 k3 c3,.int .i64 ae,.bool bn,.slice a4 k4 c4,.int .i64 be]) (by simp [results,Tryz.results135,go_sem,g0]) rfl ?_
  rw [HE.out]
  exact ⟨_,rfl,⟨_,_,_,_,_,_,rfl,U5.out.kp p,V5.out.kp p⟩,f.b⟩
theorem CmpD_le (a b:Dn):-1≤CmpD a b∧CmpD a b≤1:=by
 unfold CmpD
 have h1:=signN_le a
 have h2:=sizeN_le a b
 split
 ·exact cmpI_le _ _
 ·rcases (by omega:signN a=-1 ∨ signN a=0 ∨ signN a=1) with h | h | h <;> rw [h] <;> omega
theorem can_r {w:World} {u:Value} {d:Dn} (hu:Ry w u d) (sd:Sd d):Calls Tryz.prog 161 #[u] w fun e w'=>e=.returned (.bool true)∧Below w.heap.size w w':=by
 have CA:=h_ (fun w (h:Ry w u d)=>Bare_s h sd)
 obtain ⟨a1,k1,c1,rfl⟩:=hu.form
 generalize bareN d=D at *
 obtain ⟨n,m,e⟩:=D
 clear sd
 go_enter Tryz.func161,Tryz.ntmps161
 have F0:=h_ (Fx.one w 42 #[.bool d.neg,.slice a1 k1 c1,.int .i64 d.e] rfl)
 have X0:=h_ (hu.alloc (.cells #[.bool d.neg,.slice a1 k1 c1,.int .i64 d.e] 42))
 clear hu
 go_upto_region 1 with (fail)
 generalize World.alloc _ _=w0 at F0 X0 ⊢
 have c0_0:=F0.out.c3 0 rfl
 go_wp2_with fail
 clear c0_0
 refine (CA.out _ X0.out).mono ?_
 rintro q w1 ⟨u,rfl,hu,hb⟩
 have F1:=h_ (F0.out.call hb)
 have X1:=h_ (X0.out.below hb)
 clear F0 X0
 have U1:=h_ (hu)
 clear hb
 have c0_1:=F1.out.c3 0 rfl
 clear X1
 obtain ⟨a3,k3,c3,rfl⟩:=U1.out.fm
 go_wp2
 go_ret
 exact ⟨rfl,(F1.out.alloc _).b⟩
theorem Right_r {w:World} {u:Value} {i:In} (hu:Iv w u i) (s1:Sd i.lo) (s2:Sd i.hi):Calls Tryz.prog 132 #[u] w fun e w'=>e=.returned (.bool (decide (CmpD i.lo i.hi≤0)))∧Below w.heap.size w w':=by
 obtain ⟨⟨n,m,e⟩,⟨n',m',e'⟩⟩:=i
 obtain ⟨a1,k1,c1,a2,k2,c2,rfl,hx,hy⟩:=hu.fm
 simp only at s1 s2
 have C1:=h_ (fun w u (h:Cy w u ⟨n,m,e⟩)=>can_r h.ry s1)
 have C2:=h_ (fun w u (h:Cy w u ⟨n',m',e'⟩)=>can_r h.ry s2)
 have CC:=h_ (fun w u v (h:Cy w u ⟨n,m,e⟩) (k:Cy w v ⟨n',m',e'⟩)=>Cmp_d h.ry k.ry)
 simp only
 generalize CmpD ⟨n,m,e⟩ ⟨n',m',e'⟩=c at *
 have HX:=h_ hx
 have HY:=h_ hy
 clear hu hx hy s1 s2
 go_enter Tryz.func132,Tryz.ntmps132
 have F0:=h_ (Fx.one w 92 #[.bool n,.slice a1 k1 c1,.int .i64 e,.bool n',.slice a2 k2 c2,.int .i64 e'] rfl)
 have X0:=h_ (HX.out.alloc (.cells #[.bool n,.slice a1 k1 c1,.int .i64 e,.bool n',.slice a2 k2 c2,.int .i64 e'] 92))
 have Y0:=h_ (HY.out.alloc (.cells #[.bool n,.slice a1 k1 c1,.int .i64 e,.bool n',.slice a2 k2 c2,.int .i64 e'] 92))
 clear HX HY
 go_upto_region 1 with (fail)
 generalize World.alloc _ _=w0 at F0 X0 Y0 ⊢
 have c0_0:=F0.out.c6 0 rfl
 go_wp2_with fail
 clear c0_0
 refine (C1.out _ _ X0.out).mono ?_
 rintro q w1 ⟨rfl,hb⟩
 have F1:=h_ (F0.out.call hb)
 have X1:=h_ (X0.out.below hb)
 have Y1:=h_ (Y0.out.below hb)
 clear F0 X0 Y0
 clear hb
 have c0_1:=F1.out.c6 0 rfl
 go_wp2_with fail
 clear c0_1
 refine (C2.out _ _ Y1.out).mono ?_
 rintro q w2 ⟨rfl,hb⟩
 have F2:=h_ (F1.out.call hb)
 have X2:=h_ (X1.out.below hb)
 have Y2:=h_ (Y1.out.below hb)
 clear F1 X1 Y1
 clear hb
 have c0_2:=F2.out.c6 0 rfl
 go_wp2_with fail
 clear c0_2
 refine (CC.out _ _ _ X2.out Y2.out).mono ?_
 rintro q w3 ⟨rfl,hb⟩
 have F3:=h_ (F2.out.call hb)
 have X3:=h_ (X2.out.below hb)
 have Y3:=h_ (Y2.out.below hb)
 clear F2 X2 Y2
 clear hb
 have c0_3:=F3.out.c6 0 rfl
 go_wp2
 go_ret
 exact ⟨rfl,F3.out.b⟩
theorem At_r {w:World} {u:Value} {d:Dn} (hu:Cy w u d):Calls Tryz.prog 159 #[u] w (RetI ⟨d,d⟩ w):=by
 obtain ⟨n,m,e⟩:=d
 obtain ⟨a1,k1,c1,rfl⟩:=hu.fm
 have HX:=h_ hu
 clear hu
 go_enter Tryz.func159,Tryz.ntmps159
 have F0:=h_ (Fx.two w 42 #[.bool n,.slice a1 k1 c1,.int .i64 e] 92 #[.bool false,.slice none 0 0,.int .i64 0,.bool false,.slice none 0 0,.int .i64 0] rfl rfl)
 have X0:=h_ ((HX.out.alloc (.cells #[.bool n,.slice a1 k1 c1,.int .i64 e] 42)).alloc (.cells #[.bool false,.slice none 0 0,.int .i64 0,.bool false,.slice none 0 0,.int .i64 0] 92))
 clear HX
 go_upto_region 1 with (fail)
 generalize World.alloc (World.alloc _ _) _=w0 at F0 X0 ⊢
 have c0_0:=F0.out.c3 0 rfl
 have c1_0:=F0.out.c6 1 rfl
 go_wp2
 obtain ⟨f0,p0⟩:=F0.out.s6 1 rfl (.bool n) (.slice a1 k1 c1) (.int .i64 e) (.bool n) (.slice a1 k1 c1) (.int .i64 e) rfl rfl rfl rfl rfl rfl
 have p:=p0
 have f:=f0
 clear f0 p0
 generalize (World.setCell (World.setCell (World.setCell (World.setCell (World.setCell (World.setCell _ _ _) _ _) _ _) _ _) _ _) _ _)=W at f p ⊢
 have g1:=f.c6 1 rfl
 refine bodyPost_ret (v:=.agg #[.bool n,.slice a1 k1 c1,.int .i64 e,.bool n,.slice a1 k1 c1,.int .i64 e]) (by simp [results,Tryz.results159,go_sem,g1]) rfl ?_
 exact ⟨_,rfl,⟨_,_,_,_,_,_,rfl,X0.out.kp p,X0.out.kp p⟩,f.b⟩
structure Rw (w0 w:World) (v:Value) (n:Nat) (xs:List Value):Prop where
 len:xs.length=n * 3
 rep:(v=.slice none 0 0∧n=0) ∨ ∃ g cap cur,v=.slice (some ⟨g,0,none⟩) n cap∧w0.heap.size≤g∧Blk w g 42 cur∧n≤cap∧cap≤maxLen∧cur.size=cap * 3∧cur.toList.take (n * 3)=xs∧nlA cur=true
def Rn (bs:List (Nat × TypeId × Array Value)) (v:Value):Prop:=∀ (i g:Nat) t cs,bs[i]?=some (g,t,cs)→v.ownBlock ≠ some g
theorem Rw.nil (w0 w:World):Rw w0 w (.slice none 0 0) 0 []:=⟨rfl,.inl ⟨rfl,rfl⟩⟩
theorem Rn.nil (bs:List (Nat × TypeId × Array Value)):Rn bs (.slice none 0 0):=fun _ _ _ _ _ h=>by simp [Value.ownBlock] at h
theorem Rw.keep {w0 w w':World} {v:Value} {n:Nat} {xs:List Value} (h:Rw w0 w v n xs) (hk:∀ g,v.ownBlock=some g→w'.heap[g]?=w.heap[g]?):Rw w0 w' v n xs:=by
 refine ⟨h.len,?_⟩
 rcases h.rep with h1 | ⟨g,cap,cur,rfl,h2,h3,h4⟩
 ·exact .inl h1
 ·exact .inr ⟨g,cap,cur,rfl,h2,(hk g rfl).trans h3,h4⟩
theorem Rw.lt {w0 w:World} {v:Value} {n:Nat} {xs:List Value} (h:Rw w0 w v n xs) {g:Nat} (hg:v.ownBlock=some g):g < w.heap.size:=by
 rcases h.rep with ⟨rfl,_⟩ | ⟨g',cap,cur,rfl,h2,h3,h4⟩
 ·simp [Value.ownBlock] at hg
 ·simp [Value.ownBlock] at hg; subst hg; exact h3.lt
theorem Rw.call {w0 w w':World} {v:Value} {n:Nat} {xs:List Value} (h:Rw w0 w v n xs) (hb:Below w.heap.size w w'):Rw w0 w' v n xs :=
 h.keep fun g hg=>hb.block g (h.lt hg)
theorem Rw.alloc {w0 w:World} {v:Value} {n:Nat} {xs:List Value} (h:Rw w0 w v n xs) (o:Obj):Rw w0 (w.alloc o) v n xs :=
 h.keep fun g hg=>Below.heap_alloc w o g (h.lt hg)
theorem Rw.set {w0 w:World} {v:Value} {n:Nat} {xs:List Value} (h:Rw w0 w v n xs) {p:Addr} (hp:v.ownBlock ≠ some p.block) (u:Value):Rw w0 (w.setCell p u) v n xs :=
 h.keep fun g hg=>Below.heap_setCell w p u g (fun e=>hp (e ▸ hg))
theorem Rw.drew {w0 w:World} {v:Value} {n:Nat} {xs:List Value} (h:Rw w0 w v n xs):Rw w0 w.drew v n xs:=h.keep fun _ _=>rfl
theorem Rn.new {w0 w:World} {bs:List (Nat × TypeId × Array Value)} {v:Value} {n:Nat} {xs:List Value} (h:Rn bs v) (r:Rw w0 w v n xs) (t:TypeId) (cs:Array Value):Rn (bs ++ [(w.heap.size,t,cs)]) v:=by
 intro i g t' cs' hi hg
 rcases get_snoc hi with hi | ⟨rfl,hi⟩
 ·exact h i g t' cs' hi hg
 ·simp at hi; obtain ⟨rfl,rfl,rfl⟩:=hi
  exact absurd (r.lt hg) (Nat.lt_irrefl _)
theorem Rn.set {bs:List (Nat × TypeId × Array Value)} {v:Value} (h:Rn bs v) (k:Nat) {g:Nat} {t:TypeId} {cs:Array Value} (hk:bs[k]?=some (g,t,cs)) (cs':Array Value):Rn (bs.set k (g,t,cs')) v:=by
 intro i g' t' c hi
 by_cases hik:i=k
 ·subst hik
  rw [List.getElem?_set_self (List.getElem?_eq_some_iff.1 hk).1] at hi
  simp at hi; obtain ⟨rfl,rfl,rfl⟩:=hi
  exact h i _ _ _ hk
 ·rw [List.getElem?_set_ne (Ne.symm hik)] at hi
  exact h i g' t' c hi
theorem nlA_zero (k:Nat):nlA (Builtin.zeroCells #[.bool false,.slice none 0 0,.int .i64 0] k)=true:=by
 unfold nlA Builtin.zeroCells
 rw [List.all_eq_true]
 intro x hx
 rw [Array.mem_toList_iff,Array.mem_map] at hx
 obtain ⟨a,_,rfl⟩:=hx
 have hm:a % (#[Value.bool false,Value.slice none 0 0,Value.int .i64 0]:Array Value).size < 3:=Nat.mod_lt _ (by decide)
 generalize a % (#[Value.bool false,Value.slice none 0 0,Value.int .i64 0]:Array Value).size=r at hm
 rcases r with _ | _ | _ | r
 ·rfl
 ·rfl
 ·rfl
 ·omega
theorem nlA_append {a b:Array Value} (ha:nlA a=true) (hb:nlA b=true):nlA (a ++ b)=true:=by
 unfold nlA at *
 rw [Array.toList_append,List.all_append,ha,hb]; rfl
theorem nlL_take {l:List Value} (h:l.all nlB=true) (k:Nat):(l.take k).all nlB=true:=by
 rw [List.all_eq_true] at *
 exact fun x hx=>h x (List.mem_of_mem_take hx)
theorem nlL_drop {l:List Value} (h:l.all nlB=true) (k:Nat):(l.drop k).all nlB=true:=by
 rw [List.all_eq_true] at *
 exact fun x hx=>h x (List.mem_of_mem_drop hx)
theorem Kp.blocks {w w':World} {g:Nat} {t:TypeId} {cur:Array Value} (hg:Blk w g t cur) (hn:nlA cur=true) (hk:∀ k,k < w.heap.size→k ≠ g→w'.heap[k]?=w.heap[k]?):Kp w w':=by
 intro b o k z hkz hc
 by_cases hb:b=g
 ·subst hb
  exfalso
  rw [hg.cell o] at hc
  have:=nlA_at hn hc
  rcases hkz with rfl | rfl <;> simp [nlB] at this
 ·exact (World.cell?_of_block (hk b (cell_lt hc) hb)).trans hc
theorem run_app3 {P:Program} {w0 w:World} {bs:List (Nat × TypeId × Array Value)} {v:Value} {n:Nat} {xs:List Value} (F:Fx w0 w bs) (R:Rw w0 w v n xs) (N:Rn bs v)
  (t ty:TypeId) (i:TypeInfo) (ht:P.underlying t=some (.slice 42)) (hi:P.info? 42=some i) (hz:i.zero=some (.agg #[.bool false,.slice none 0 0,.int .i64 0])) (hsize:i.size=3) (hby:i.bytes≤64)
  (a:Addr) (c:Nat) (x y z:Value) (hnews:∀ j u,[x,y,z][j]?=some u→w.cell? (a.add j)=some u) (h1:∀ u ∈ [x,y,z],u.oneCell'=true) (hl:[x,y,z].all nlB=true) (hn:n≤1000) :
  ∃ v' w',(Builtin.append_ #[t,t] ty #[v,.slice (some a) 1 c]).run P w=.ok v' w'∧Fx w0 w' bs∧Rw w0 w' v' (n+1) (xs ++ [x,y,z])∧Rn bs v'∧Kp w w':=by
 have hsm:n+1≤maxLen:=by simp only [maxLen]; omega
 have hzc:(Value.agg #[.bool false,.slice none 0 0,.int .i64 0]).cells=#[.bool false,.slice none 0 0,.int .i64 0]:=rfl
 have hl0:([x,y,z]:List Value).length=1 * i.size:=by rw [hsize]; rfl
 have fresh:∀ (cs:Array Value) (cap:Nat),n+1≤cap→cap≤maxLen→cs.size=cap * 3→cs.toList.take ((n+1) * 3)=xs ++ [x,y,z]→nlA cs=true →
   Fx w0 (w.drew.alloc (.cells cs 42)) bs∧Rw w0 (w.drew.alloc (.cells cs 42)) (.slice (some ⟨w.heap.size,0,none⟩) (n+1) cap) (n+1) (xs ++ [x,y,z])∧Rn bs (.slice (some ⟨w.heap.size,0,none⟩) (n+1) cap)∧Kp w (w.drew.alloc (.cells cs 42)):=by
  intro cs cap k1 k2 k3 k4 k5
  refine ⟨F.drew.alloc _,⟨by rw [List.length_append,R.len]; simp; omega,.inr ⟨w.heap.size,cap,cs,rfl,F.b.size,Blk.new w.drew 42 cs,k1,k2,k3,k4,k5⟩⟩,?_,?_⟩
  ·intro j g t' cs' hj he
   simp [Value.ownBlock] at he
   have:=(F.box j g t' cs' hj).lt
   omega
  ·exact (Kp.drew w).trans (Kp.alloc _ _)
 rcases R.rep with ⟨rfl,rfl⟩ | ⟨g,cap,cur,rfl,hbg,hg,hnc,hcm,hcs,htake,hnl⟩
 ·obtain rfl:xs=[]:=List.eq_nil_of_length_eq_zero (by simpa using R.len)
  have hr:=run_append_nil (P:=P) w t ty 42 i _ ht hi hz a 1 c [x,y,z] hl0 hnews (by omega) (by omega) (by omega)
  have hge:=grownCap_ge w 1 0 42
  have hcm:=grownCap_le_maxLen w 1 0 42 (by simp only [maxLen]; omega)
  refine ⟨_,_,hr,?_⟩
  have:=fresh (([x,y,z]:List Value).toArray ++ Builtin.zeroCells (Value.agg #[.bool false,.slice none 0 0,.int .i64 0]).cells (grownCap w 1 0 42 - 1)) (grownCap w 1 0 42) (by omega) hcm
   (by rw [hzc]; simp only [Array.size_append,List.size_toArray,size_zeroCells]; simp; omega) (by rw [hzc]; simp) (nlA_append (by exact hl) (by rw [hzc]; exact nlA_zero _))
  exact this
 ·by_cases hroom:n+1≤cap
  ·have hfit:n * i.size+([x,y,z]:List Value).length≤cur.size:=by rw [hsize,hcs]; simp; omega
   have hr:=run_append_room (P:=P) w t ty 42 i ht hi g n cap cur hg a 1 c [x,y,z] hl0 hnews h1 hroom hfit
   rw [hsize,htake] at hr
   have hset:=setRow_heap w g cur (xs ++ [x,y,z] ++ cur.toList.drop (n * 3+([x,y,z]:List Value).length)).toArray 42 (0,0) hg
   have hoth:∀ k,k < w.heap.size→k ≠ g→(w.setRow g (xs ++ [x,y,z] ++ cur.toList.drop (n * 3+([x,y,z]:List Value).length)).toArray).heap[k]?=w.heap[k]?:=fun k _ hk=>setRow_other w g k _ hk
   refine ⟨_,_,hr,?_,?_,?_,?_⟩
   ·refine ⟨?_,?_,F.low,F.asc,F.nl⟩
    ·have hg2:World.grownBy w (w.setRow g (xs ++ [x,y,z] ++ cur.toList.drop (n * 3+([x,y,z]:List Value).length)).toArray) (some g):=⟨rfl,rfl,rfl,by simp [World.setRow],fun k hk hne=>hoth k hk (fun e=>hne (by rw [e]))⟩
     exact F.b.grown hg2 F.b.size (fun j hj=>by cases hj; exact hbg)
    ·intro j g' t' cs' hj
     have hne:g' ≠ g:=fun e=>N j g' t' cs' hj (by simp [Value.ownBlock,e])
     exact (hoth g' (F.box j g' t' cs' hj).lt hne).trans (F.box j g' t' cs' hj)
   ·refine ⟨by rw [List.length_append,R.len]; simp; omega,.inr ⟨g,cap,_,rfl,hbg,hset,hroom,hcm,?_,?_,?_⟩⟩
    ·have hxl:=R.len
     simp only [List.size_toArray,List.length_append,List.length_drop,Array.length_toList]
     simp at hfit ⊢
     omega
    ·have hxl:(xs ++ [x,y,z]).length=(n+1) * 3:=by rw [List.length_append,R.len]; simp; omega
     rw [← hxl]
     exact List.take_left
    ·show (xs ++ [x,y,z] ++ cur.toList.drop (n * 3+([x,y,z]:List Value).length)).all nlB=true
     rw [List.all_append,List.all_append,hl,← htake,nlL_take hnl,nlL_drop hnl]; rfl
   ·intro j g' t' cs' hj he
    simp [Value.ownBlock] at he
    exact N j g' t' cs' hj (by simp [Value.ownBlock,he])
   ·exact Kp.blocks hg hnl hoth
  ·have holds:∀ j u,xs[j]?=some u→w.cell? ((⟨g,0,none⟩:Addr).add j)=some u:=by
    intro j u hu
    have hadd:(⟨g,0,none⟩:Addr).add j=⟨g,j,none⟩:=by unfold Addr.add; split <;> simp_all
    rw [hadd,hg.cell j]
    rw [← htake,List.getElem?_take] at hu
    split at hu
    ·simpa using hu
    ·cases hu
   have hr:=run_append_grow (P:=P) w t ty 42 i _ ht hi hz ⟨g,0,none⟩ n cap xs (by rw [R.len,hsize]) holds a 1 c [x,y,z] hl0 hnews (by omega) (by omega) (growslice_fits (by omega) (by have:=Nat.mul_le_mul (show n+1≤1001 by omega) hby; omega))
   have hge:=grownCap_ge w (n+1) cap 42
   have hcm2:=grownCap_le_maxLen w (n+1) cap 42 hsm
   refine ⟨_,_,hr,?_⟩
   have hxl:(xs ++ [x,y,z]).length=(n+1) * 3:=by rw [List.length_append,R.len]; simp; omega
   have:=fresh (xs.toArray ++ ([x,y,z]:List Value).toArray ++ Builtin.zeroCells (Value.agg #[.bool false,.slice none 0 0,.int .i64 0]).cells (grownCap w (n+1) cap 42 - (n+1))) (grownCap w (n+1) cap 42) hge hcm2
    (by rw [hzc]; simp only [Array.size_append,List.size_toArray,size_zeroCells,R.len]; simp; omega)
    (by rw [hzc]; simp only [Array.toList_append]; rw [show (xs.toArray.toList ++ ([x,y,z]:List Value).toArray.toList)=xs ++ [x,y,z] by simp,← hxl]; exact List.take_left)
    (nlA_append (nlA_append (by show xs.all nlB=true; rw [← htake]; exact nlL_take hnl _) (by exact hl)) (by rw [hzc]; exact nlA_zero _))
   exact this
theorem wpList_app3 {P:Program} {w0 w:World} {ops:Array Oper} {rest:List Oper} {o:Oper} {a:Act} {Q:Exit→Act→World→Prop} (hgd:o.guard=none) (s x:Operand) (t:TypeId)
  (ho:o.op=.call { callee:=.builtin .append,args:=#[s,x],argTypes:=#[t,t] })
  (ht:P.underlying t=some (.slice 42)) (hi:(P.info? 42).map (fun i=>(i.zero,i.size,i.bytes))=some (some (.agg #[.bool false,.slice none 0 0,.int .i64 0]),3,40))
  {bs:List (Nat × TypeId × Array Value)} {v:Value} {n:Nat} {xs:List Value} (F:Fx w0 w bs) (R:Rw w0 w v n xs) (N:Rn bs v) (hs:a.eval s=v) (c:Nat) (x1 x2 x3:Value) (hx:a.eval x=.slice (some ⟨w.heap.size,0,none⟩) 1 c)
  (h1:∀ u ∈ [x1,x2,x3],u.oneCell'=true) (hl:[x1,x2,x3].all nlB=true) (hn:n≤1000)
  (h:∀ v' w',Fx w0 w' bs→Rw w0 w' v' (n+1) (xs ++ [x1,x2,x3])→Rn bs v'→Kp w w'→wpList P ops Q rest (a.put o.dst v') w') :
  wpList P ops Q (o :: rest) a (w.alloc (.cells #[x1,x2,x3] 42)):=by
 obtain ⟨i0,hi,hz0,hz1,hz2⟩:=info_parts hi
 refine wpList_plain hgd fun K hK=>?_
 have hcell:∀ j u,[x1,x2,x3][j]?=some u→(w.alloc (.cells #[x1,x2,x3] 42)).cell? ((⟨w.heap.size,0,none⟩:Addr).add j)=some u:=by
  intro j u hu
  have hadd:(⟨w.heap.size,0,none⟩:Addr).add j=⟨w.heap.size,j,none⟩:=by unfold Addr.add; split <;> simp_all
  rw [hadd,(Blk.new w 42 #[x1,x2,x3]).cell j]
  simpa using hu
 obtain ⟨v',w',hr,h2,h3,h4,h5⟩:=run_app3 (P:=P) (F.alloc (.cells #[x1,x2,x3] 42)) (R.alloc _) N t o.type i0 ht hi hz0 hz1 (by omega) ⟨w.heap.size,0,none⟩ c x1 x2 x3 hcell h1 hl hn
 unfold Oper.wp execOp
 simp only [ho,resolve,invoke,builtin,Sem.run_bind,Sem.run_pure,Result.andThen_ok,List.map_toArray,List.map_cons,List.map_nil,hs,hx,hr]
 exact hK _ _ (h v' w' h2 h3 h4 ((Kp.alloc _ _).trans h5))
end Go.Proofs.YtobpioceopfkpaaGreatDoor
