/-
  Lemmas for WholeTurned and WholeGrows and WholeRises, part 23 of 36: what the program's functions do, and plain facts; without conditions.
-/
import Derived.Test.YtobpioceopfkpaaGreatDoorM11
import Derived.Test.YtobpioceopfkpaaGreatDoorM15
import Derived.Test.YtobpioceopfkpaaGreatDoorM22
import Derived.Test.YtobpioceopfkpaaGreatDoorM05
import Derived.Test.YtobpioceopfkpaaGreatDoorM07
import Derived.OneCell
set_option maxRecDepth 100000
set_option maxHeartbeats 4000000
namespace Go.Proofs.YtobpioceopfkpaaGreatDoor
open Go.RowKit
def exL:Nat→Nat→Pr→Pr→Pr→Nat→Pr × Pr
 | 0,_,sum,term,_,_=>(sum,term)
 | f+1,n,sum,term,x,s=>if term.lo=0∧x.hi=0 then (sum,term) else
   if (byP (timesP term x s) n).hi≤1 then (plusP sum (byP (timesP term x s) n),byP (timesP term x s) n)
   else exL f (n+1) (plusP sum (byP (timesP term x s) n)) (byP (timesP term x s) n) x s
def expR (a b s:Nat):Pr × Pr:=exL (s+2) 1 ⟨2^s,2^s⟩ ⟨2^s,2^s⟩ ⟨a,b⟩ s
def expP (a b s:Nat):Pr:=restP (expR a b s).1 (expR a b s).2
structure ExI (s:Nat) (R:Pr × Pr) (n i f:Nat) (S T X:Pr):Prop where
 hn:n=i+1
 hf:i+f=s+2
 hb:T.hi≤2^(f - 1)
 h1:i=0 ∨ 1 < T.hi
 hT:T.lo≤2^s∧T.hi≤2^s
 hS:S.lo≤(i+1) * 2^s∧S.hi≤(i+1) * 2^s
 hX:X.lo≤2^s∧X.hi≤2^s
 hR:exL f n S T X s=R
theorem ExI.start {a b s:Nat} (ha:a≤2^s) (hb:b≤2^s):ExI s (expR a b s) 1 0 (s+2) ⟨2^s,2^s⟩ ⟨2^s,2^s⟩ ⟨a,b⟩ :=
 ⟨rfl,by omega,Nat.pow_le_pow_right (by decide) (by omega),.inl rfl,⟨Nat.le_refl _,Nat.le_refl _⟩,by simp,⟨ha,hb⟩,rfl⟩
theorem ExI.f2 {s:Nat} {R:Pr × Pr} {n i f:Nat} {S T X:Pr} (h:ExI s R n i f S T X):2≤f:=by
 rcases h.h1 with h1 | h1
 ·have:=h.hf; omega
 ·have hb:=h.hb
  apply Nat.le_of_not_lt; intro hf
  have:f - 1=0:=by omega
  rw [this,Nat.pow_zero] at hb
  omega
theorem ExI.step {s:Nat} {R:Pr × Pr} {n i f:Nat} {S T X:Pr} (h:ExI s R n i f S T X) (h0:¬ (T.lo=0∧X.hi=0)) :
  ∃ f',f=f'+1∧((byP (timesP T X s) n).hi≤1→R=(plusP S (byP (timesP T X s) n),byP (timesP T X s) n)) ∧
   (1 < (byP (timesP T X s) n).hi→ExI s R (n+1) (i+1) f' (plusP S (byP (timesP T X s) n)) (byP (timesP T X s) n) X):=by
 have hf2:=h.f2
 obtain ⟨hn,hf,hb,h1,hT,hS,hX,hR⟩:=h
 obtain ⟨f',rfl⟩:∃ f',f=f'+1:=⟨f - 1,by omega⟩
 have ht:=timesP_le (s:=s) hT hX
 have hby:=byP_le (p:=timesP T X s) (n:=n) (B:=2^s) (by omega) ht
 have hup:(timesP T X s).hi≤T.hi:=upN_le (Nat.mul_le_mul_left _ hX.2)
 have hbb:(byP (timesP T X s) n).hi≤2^(f' - 1):=by
  by_cases h2:n=1
  ·have:f' - 1=s:=by omega
   rw [this]; exact hby.2
  ·refine up_le (by omega) ?_
   have e:2^(f'+1 - 1)=2^(f' - 1) * 2:=by rw [← Nat.pow_succ]; congr 1; omega
   rw [e] at hb
   exact Nat.le_trans hup (Nat.le_trans hb (Nat.mul_le_mul_left _ (by omega)))
 rw [exL,if_neg h0] at hR
 generalize byP (timesP T X s) n=T' at *
 refine ⟨f',rfl,fun h3=>?_,fun h3=>?_⟩
 ·rw [if_pos h3] at hR; exact hR.symm
 ·rw [if_neg (by omega)] at hR
  refine ⟨by omega,by omega,hbb,.inr h3,hby,?_,hX,hR⟩
  rw [Nat.add_mul,Nat.one_mul]
  exact ⟨Nat.add_le_add hS.1 hby.1,Nat.add_le_add hS.2 hby.2⟩
theorem ExI.done {s:Nat} {R:Pr × Pr} {n i f:Nat} {S T X:Pr} (h:ExI s R n i f S T X) (h0:T.lo=0∧X.hi=0):R=(S,T):=by
 have hR:=h.hR
 rw [← hR]
 cases f with
 | zero=>rfl
 | succ f=>rw [exL,if_pos h0]
theorem ExI.szs {s:Nat} {R:Pr × Pr} {n i f:Nat} {S T X:Pr} (h:ExI s R n i f S T X) (hs:s≤9000) :
  (0 < n∧n≤20010)∧(bl T.lo≤10000∧bl T.hi≤10000)∧(bl S.lo≤10000∧bl S.hi≤10000)∧(bl X.lo≤10000∧bl X.hi≤10000)∧(bl (timesP T X s).lo≤10000∧bl (timesP T X s).hi≤10000) ∧
  (bl (byP (timesP T X s) n).lo≤10000∧bl (byP (timesP T X s) n).hi≤10000)∧(bl (plusP S (byP (timesP T X s) n)).lo≤10000∧bl (plusP S (byP (timesP T X s) n)).hi≤10000):=by
 obtain ⟨hn,hf,hb,h1,hT,hS,hX,hR⟩:=h
 have ht:=timesP_le (s:=s) hT hX
 have hby:=byP_le (p:=timesP T X s) (n:=n) (B:=2^s) (by omega) ht
 have k:∀ x,x≤2^s→bl x≤10000:=fun x hx=>Nat.le_trans (bl_pow_le (s:=s) (k:=1) (by omega) (by decide)) (by omega)
 have k2:∀ x,x≤(i+1) * 2^s→bl x≤10000:=fun x hx=>Nat.le_trans (bl_pow_le (s:=s) hx (Nat.le_trans (show i+1≤9003 by omega) (by decide))) (by omega)
 have k3:∀ x,x≤(i+2) * 2^s→bl x≤10000:=fun x hx=>Nat.le_trans (bl_pow_le (s:=s) hx (Nat.le_trans (show i+2≤9004 by omega) (by decide))) (by omega)
 have e:(i+2) * 2^s=(i+1) * 2^s+2^s:=by rw [Nat.add_mul,Nat.add_mul]; omega
 refine ⟨⟨by omega,by omega⟩,⟨k _ hT.1,k _ hT.2⟩,⟨k2 _ hS.1,k2 _ hS.2⟩,⟨k _ hX.1,k _ hX.2⟩,⟨k _ ht.1,k _ ht.2⟩,⟨k _ hby.1,k _ hby.2⟩,⟨k3 _ ?_,k3 _ ?_⟩⟩
 ·rw [e]; exact Nat.add_le_add hS.1 hby.1
 ·rw [e]; exact Nat.add_le_add hS.2 hby.2
theorem SExp_r {w:World} {u v:Value} {a b:Nat} (hu:Rd w u a) (hv:Rd w v b) (s:Nat) (hs:8≤s∧s≤9000) (hab:a≤b) (hbs:b≤2^s) :
  Calls Tryz.prog 134 #[u,v,.int .i64 (s:Int)] w fun e w'=>∃ x y,e=.returned (.tuple #[x,y,.int .i64 0])∧Dg w' x (expP a b s).lo∧Dg w' y (expP a b s).hi∧Below w.heap.size w w':=by
 have HU:=h_ hu
 have HV:=h_ hv
 obtain ⟨a1,k1,c1,rfl⟩:=hu.form
 obtain ⟨a2,k2,c2,rfl⟩:=hv.form
 have bo:bl (2^s)≤10000:=Nat.le_trans (bl_pow_le (s:=s) (k:=1) (by omega) (by decide)) (by omega)
 have bo2:bl (2^s)≤6000000:=Nat.le_trans bo (by decide)
 have b1:bl 1≤64:=bl64 (by decide)
 have CS:=h_ (fun w=>scale_r w s hs)
 have C1:=h_ (fun w u v (h:Rd w u a) (k:Rd w v b)=>cmp_r h k)
 have CL:=h_ (fun w u (h:Dg w u 1)=>shl_s (h.rd (by omega)) s (by omega))
 rw [Nat.one_mul] at CL
 have C2:=h_ (fun w u v (h:Rd w u b) (k:Dg w v (2^s))=>cmp_r h (k.rd bo2))
 have e1:decide (0 < cmpN a b)=false:=decide_eq_false (by unfold cmpN; split; omega; split <;> omega)
 have e2:decide (0 < cmpN b (2^s))=false:=decide_eq_false (by unfold cmpN; split; omega; split <;> omega)
 have HI:=h_ (ExI.start (a:=a) (b:=b) (s:=s) (Nat.le_trans hab hbs) hbs)
 have HE:Hid (expP a b s=restP (expR a b s).1 (expR a b s).2):=rfl
 have CT:=h_ (fun w u v p q hu hv h1 h2=>ptimes_r (w:=w) (u:=u) (v:=v) (p:=p) (q:=q) hu hv s (by omega) h1 h2)
 generalize expP a b s=A at *
 generalize expR a b s=R at *
 generalize cmpN a b=e3 at *
 generalize cmpN b (2^s)=e4 at *
 generalize 2^s=o at *
 obtain ⟨hs1,hs2⟩:=hs
 clear hu hv hab hbs bo bo2 b1
 go_enter Tryz.func134,Tryz.ntmps134
 have F0:=h_ (Fx.nil w)
 have X0:=h_ (HU.out)
 have Y0:=h_ (HV.out)
 clear HU HV
 go_wp2_with fail
 refine (CS.out _).mono ?_
 rintro q w1 ⟨rfl,rfl⟩
 go_wp2_with fail
 refine (C1.out _ _ _ X0.out Y0.out).mono ?_
 rintro q w1 ⟨rfl,hb⟩
 have F1:=h_ (F0.out.call hb)
 have X1:=h_ (X0.out.below hb)
 have Y1:=h_ (Y0.out.below hb)
 clear F0 X0 Y0
 clear hb
 go_wp2_with fail
 refine (of_any (n:=1) (by decide) X1.out.tab).mono ?_
 rintro q w2 ⟨u,rfl,hu,hb⟩
 have F2:=h_ (F1.out.call hb)
 have X2:=h_ (X1.out.below hb)
 have Y2:=h_ (Y1.out.below hb)
 clear F1 X1 Y1
 have O2:=h_ (hu)
 clear hb
 go_wp2_with fail
 refine (CL.out _ _ O2.out).mono ?_
 rintro q w3 ⟨u,rfl,hu,hb⟩
 have F3:=h_ (F2.out.call hb)
 have X3:=h_ (X2.out.below hb)
 have Y3:=h_ (Y2.out.below hb)
 have O3:=h_ (O2.out.below hb)
 clear F2 X2 Y2 O2
 have P3:=h_ (hu)
 clear hb
 clear O3
 obtain ⟨a3,k3,c3,rfl⟩:=P3.out.form
 go_wp2_with fail
 refine (C2.out _ _ _ Y3.out P3.out).mono ?_
 rintro q w4 ⟨rfl,hb⟩
 have F4:=h_ (F3.out.call hb)
 have X4:=h_ (X3.out.below hb)
 have Y4:=h_ (Y3.out.below hb)
 have P4:=h_ (P3.out.below hb)
 clear F3 X3 Y3 P3
 clear hb
 go_wp2_with fail
 refine (bare_r X4.out).mono ?_
 rintro q w5 ⟨u,rfl,hu,hb⟩
 have F5:=h_ (F4.out.call hb)
 have X5:=h_ (X4.out.below hb)
 have Y5:=h_ (Y4.out.below hb)
 have P5:=h_ (P4.out.below hb)
 clear F4 X4 Y4 P4
 have U5:=h_ (hu)
 clear hb
 obtain ⟨a4,k4,c4,rfl⟩:=U5.out.form
 go_wp2_with fail
 refine (bare_r Y5.out).mono ?_
 rintro q w6 ⟨u,rfl,hu,hb⟩
 have F6:=h_ (F5.out.call hb)
 have X6:=h_ (X5.out.below hb)
 have Y6:=h_ (Y5.out.below hb)
 have P6:=h_ (P5.out.below hb)
 have U6:=h_ (U5.out.below hb)
 clear F5 X5 Y5 P5 U5
 have V6:=h_ (hu)
 clear hb
 obtain ⟨a5,k5,c5,rfl⟩:=V6.out.form
 clear X6 Y6
 go_wp2
 have F7:=h_ (F6.out.new 226 #[.slice a4 k4 c4,.slice a5 k5 c5] rfl)
 have P7:=h_ (P6.out.alloc (.cells #[.slice a4 k4 c4,.slice a5 k5 c5] 226))
 have U7:=h_ (U6.out.alloc (.cells #[.slice a4 k4 c4,.slice a5 k5 c5] 226))
 have V7:=h_ (V6.out.alloc (.cells #[.slice a4 k4 c4,.slice a5 k5 c5] 226))
 clear F6 P6 U6 V6
 obtain ⟨g1,hg1⟩:∃ g,g=(World.heap w6).size:=⟨_,rfl⟩
 rw [← hg1] at F7 ⊢
 have hzg1:(World.heap (World.alloc w6 (.cells #[.slice a4 k4 c4,.slice a5 k5 c5] 226))).size=g1+1:=by rw [hg1]; simp
 clear hg1
 simp only [List.nil_append] at F7
 generalize World.alloc w6 _=W7 at hzg1 F7 P7 U7 V7 ⊢
 have F8:=h_ (F7.out.new 226 #[.slice a3 k3 c3,.slice a3 k3 c3] rfl)
 have P8:=h_ (P7.out.alloc (.cells #[.slice a3 k3 c3,.slice a3 k3 c3] 226))
 have U8:=h_ (U7.out.alloc (.cells #[.slice a3 k3 c3,.slice a3 k3 c3] 226))
 have V8:=h_ (V7.out.alloc (.cells #[.slice a3 k3 c3,.slice a3 k3 c3] 226))
 clear F7 P7 U7 V7
 rw [hzg1] at F8
 have hzg2:(World.heap (World.alloc W7 (.cells #[.slice a3 k3 c3,.slice a3 k3 c3] 226))).size=g1+1+1:=by simp [hzg1]
 clear hzg1
 simp only [List.nil_append,List.cons_append] at F8
 generalize World.alloc W7 _=W8 at hzg2 F8 P8 U8 V8 ⊢
 have F9:=h_ (F8.out.new 226 #[.slice a3 k3 c3,.slice a3 k3 c3] rfl)
 have P9:=h_ (P8.out.alloc (.cells #[.slice a3 k3 c3,.slice a3 k3 c3] 226))
 have U9:=h_ (U8.out.alloc (.cells #[.slice a3 k3 c3,.slice a3 k3 c3] 226))
 have V9:=h_ (V8.out.alloc (.cells #[.slice a3 k3 c3,.slice a3 k3 c3] 226))
 clear F8 P8 U8 V8
 rw [hzg2] at F9
 clear hzg2
 simp only [List.nil_append,List.cons_append] at F9
 generalize World.alloc W8 _=W9 at F9 P9 U9 V9 ⊢
 have c0_9:=F9.out.c2 0 rfl
 have c1_9:=F9.out.c2 1 rfl
 have c2_9:=F9.out.c2 2 rfl
 have X9:Hid (Pv W9 (.agg #[.slice a4 k4 c4,.slice a5 k5 c5]) ⟨a,b⟩):=⟨_,_,_,_,_,_,rfl,U9.out,V9.out⟩
 have S9:Hid (Pv W9 (.agg #[.slice a3 k3 c3,.slice a3 k3 c3]) ⟨o,o⟩):=⟨_,_,_,_,_,_,rfl,P9.out,P9.out⟩
 clear U9 V9 P9
 obtain ⟨R1,R2⟩:=R
 go_loopw [14] (fun nv wr=>∃ (n i e tl th sl sh:Nat) (a1:Option Addr) (k1 c1:Nat) (a2:Option Addr) (k2 c2:Nat) (a3:Option Addr) (k3 c3:Nat) (a6:Option Addr) (k6 c6:Nat),nv=.int .u64 (n:Int)∧Hid (ExI s (R1,R2) n i e ⟨sl,sh⟩ ⟨tl,th⟩ ⟨a,b⟩)∧Hid (Fx w wr [(g1,226,#[.slice a4 k4 c4,.slice a5 k5 c5]),(g1+1,226,#[.slice a1 k1 c1,.slice a2 k2 c2]),(g1+1+1,226,#[.slice a3 k3 c3,.slice a6 k6 c6])])∧Hid (Pv wr (.agg #[.slice a3 k3 c3,.slice a6 k6 c6]) ⟨tl,th⟩)∧Hid (Pv wr (.agg #[.slice a4 k4 c4,.slice a5 k5 c5]) ⟨a,b⟩)∧Hid (Pv wr (.agg #[.slice a1 k1 c1,.slice a2 k2 c2]) ⟨sl,sh⟩)) (fun n _=>(40000 - intOf n).toNat)
 case atStart=>exact ⟨1,0,s+2,o,o,o,o,_,_,_,_,_,_,_,_,_,_,_,_,rfl,HI,F9,S9,X9,S9⟩
 case round =>
  clear c0_9 c1_9 c2_9
  clear F9 X9 S9 HI
  obtain ⟨n,i,e,tl,th,sl,sh,a1,k1,c1,a2,k2,c2,a3,k3,c3,a6,k6,c6,rfl,hI,hF,hT,hX,hS⟩:=hrel
  have F10:=hF
  have T10:=hT
  have X10:=hX
  have S10:=hS
  clear hF hT hX hS
  have HZ:=h_ (hI.out.szs hs2)
  obtain ⟨⟨zn,zm⟩,z2,z3,z4,z5,z6,z7⟩:=HZ.out
  have BT:Hid (bl (Pr.mk tl th).lo≤6000000∧bl (Pr.mk tl th).hi≤6000000):=⟨Nat.le_trans z2.1 (by decide),Nat.le_trans z2.2 (by decide)⟩
  have BX:Hid (bl (Pr.mk a b).lo≤6000000∧bl (Pr.mk a b).hi≤6000000):=⟨Nat.le_trans z4.1 (by decide),Nat.le_trans z4.2 (by decide)⟩
  have BR:Hid (bl (Pr.mk sl sh).lo≤1000000∧bl (Pr.mk sl sh).hi≤1000000∧bl (Pr.mk tl th).lo≤1000000∧bl (Pr.mk tl th).hi≤1000000):=⟨Nat.le_trans z3.1 (by decide),Nat.le_trans z3.2 (by decide),Nat.le_trans z2.1 (by decide),Nat.le_trans z2.2 (by decide)⟩
  have B3:Hid (bl (Pr.mk tl th).lo+bl (Pr.mk a b).lo≤65536∧bl (Pr.mk tl th).hi+bl (Pr.mk a b).hi≤65536):=⟨by omega,by omega⟩
  obtain ⟨lt,hlt⟩:∃ lt,lt=bl tl:=⟨_,rfl⟩
  obtain ⟨lx,hlx⟩:∃ lx,lx=bl b:=⟨_,rfl⟩
  have HLT:=h_ hlt
  have HLX:=h_ hlx
  have l1:lt≤10000:=hlt ▸ z2.1
  have l2:lx≤10000:=hlx ▸ z4.2
  have CB1:Hid (∀ w a k c a' k' c',Pv w (.agg #[.slice a k c,.slice a' k' c']) ⟨tl,th⟩→Calls Tryz.prog 36 #[.slice a k c] w fun e w'=>e=.returned (.int .i64 (lt:Nat))∧Below w.heap.size w w'):=by
   rw [hlt]; intro w a k c a' k' c' h; exact bits_r (h.fst.1.rd BT.out.1)
  have CB2:Hid (∀ w a' k c a'' k' c',Pv w (.agg #[.slice a' k c,.slice a'' k' c']) ⟨a,b⟩→Calls Tryz.prog 36 #[.slice a'' k' c'] w fun e w'=>e=.returned (.int .i64 (lx:Nat))∧Below w.heap.size w w'):=by
   rw [hlx]; intro w a' k c a'' k' c' h; exact bits_r (h.fst.2.rd BX.out.2)
  obtain ⟨ls,hls⟩:∃ ls,ls=lt+lx:=⟨_,rfl⟩
  have q1:IntKind.i64.wrap ((lt:Int)+(lx:Int))=(ls:Int):=by rw [hls]; exact IntWalk.i64_in _ (by omega)
  have HLS:=h_ hls
  have HZM:=h_ zm
  have HNB:=h_ (And.intro zn (show n < 18446744073709551616 by omega))
  clear hlt hlx hls z2 z3 z4 z5 z6 z7 l1 l2 zn
  by_cases h0:tl=0∧b=0
  ·have HR:=h_ (hI.out.done h0)
   have hz:ls=0:=by rw [HLS.out,HLT.out,HLX.out,h0.1,h0.2]; rfl
   have t7:decide (0 < (ls:Int))=false:=decide_eq_false (by omega)
   have t8:decide (0 < ls)=false:=decide_eq_false (by omega)
   clear h0 hI hz
   have c0_10:=F10.out.c2 0 rfl
   have c1_10:=F10.out.c2 1 rfl
   have c2_10:=F10.out.c2 2 rfl
   go_upto_region 9 with (fail)
   clear c0_10 c1_10 c2_10
   have FCD:=h_ (And.intro ((F10.out.drew).c2 0 rfl).1 (((F10.out.drew).c2 2 rfl).1))
   go_region_held3 (fun w'=>(w'.cell? ⟨g1,0,none⟩=some (.slice a4 k4 c4)∧w'.cell? ⟨g1,1,none⟩=some (.slice a5 k5 c5))∧(w'.cell? ⟨g1+1+1,0,none⟩=some (.slice a3 k3 c3)∧w'.cell? ⟨g1+1+1,1,none⟩=some (.slice a6 k6 c6))) (first | with_reducible exact FCD.out | with_reducible exact FC.out) (first | (go_at_call 36; (with_reducible refine (CB2.out _ _ _ _ _ _ _ X11.out).mono ?_); rintro q ww12 ⟨rfl,hb⟩; have F12:=h_ (F11.out.call hb); have T12:=h_ (T11.out.below hb); have X12:=h_ (X11.out.below hb); have S12:=h_ (S11.out.below hb); have FC:=h_ (And.intro (F12.out.c2 0 rfl).1 ((F12.out.c2 2 rfl).1)); have c0_12:=F12.out.c2 0 rfl; have c1_12:=F12.out.c2 1 rfl; have c2_12:=F12.out.c2 2 rfl; clear hb) | (go_at_call 36; (with_reducible refine (CB1.out _ _ _ _ _ _ _ (T10.out.drew)).mono ?_); rintro q ww11 ⟨rfl,hb⟩; have F11:=h_ ((F10.out.drew).call hb); have T11:=h_ ((T10.out.drew).below hb); have X11:=h_ ((X10.out.drew).below hb); have S11:=h_ ((S10.out.drew).below hb); have FC:=h_ (And.intro (F11.out.c2 0 rfl).1 ((F11.out.c2 2 rfl).1)); have c0_11:=F11.out.c2 0 rfl; have c1_11:=F11.out.c2 1 rfl; have c2_11:=F11.out.c2 2 rfl; clear hb))
   go_wp2_with fail
   clear c0_12 c1_12 c2_12
   refine (prest_r S12.out T12.out BR.out).mono ?_
   rintro q w13 ⟨u,rfl,hu,hb⟩
   have F13:=h_ (F12.out.call hb)
   have T13:=h_ (T12.out.below hb)
   have X13:=h_ (X12.out.below hb)
   have S13:=h_ (S12.out.below hb)
   clear F12 T12 X12 S12
   have R13:=h_ (hu)
   clear hb
   have c0_13:=F13.out.c2 0 rfl
   have c1_13:=F13.out.c2 1 rfl
   have c2_13:=F13.out.c2 2 rfl
   obtain ⟨b1,e1,d1,b2,e2,d2,rfl,h1,h2⟩:=R13.out
   clear h1 h2
   go_upto_region 15 with (fail)
   clear c0_13 c1_13 c2_13
   obtain ⟨f,p⟩:=F13.out.s2 1 rfl (.slice b1 e1 d1) (.slice b2 e2 d2) rfl rfl
   generalize (World.setCell (World.setCell _ _ _) _ _)=W at f p ⊢
   have F14:=h_ (f)
   have T14:=h_ (T13.out.kp p)
   have X14:=h_ (X13.out.kp p)
   have S14:=h_ (S13.out.kp p)
   have R14:=h_ (R13.out.kp p)
   clear F13 T13 X13 S13 R13
   clear f p
   simp only [List.set_cons_zero,List.set_cons_succ] at F14
   have c0_14:=F14.out.c2 0 rfl
   have c1_14:=F14.out.c2 1 rfl
   have c2_14:=F14.out.c2 2 rfl
   go_quiet (fail)
   go_wp2
   refine bodyPost_ret (v:=.tuple #[.slice b1 e1 d1,.slice b2 e2 d2,.int .i64 0]) (by simp [results,Tryz.results134,go_sem]) rfl ?_
   have HX:=HE.out
   have hr:=HR.out
   injection hr with hr1 hr2
   rw [HX,hr1,hr2]
   exact ⟨_,_,rfl,(R14.out.fst.1).drewN _,(R14.out.fst.2).drewN _,(F14.out.drewN _).b⟩
  ·have HN:=h_ (hI.out.step h0)
   have hz:0 < ls:=by
    have r1:=HLT.out
    have r2:=HLX.out
    have r3:=HLS.out
    by_cases y1:tl=0
    ·have y2:b ≠ 0:=fun y2=>h0 ⟨y1,y2⟩
     have:=bl_pos y2; omega
    ·have:=bl_pos y1; omega
   have t7:decide (0 < (ls:Int))=true:=decide_eq_true (by omega)
   have t8:decide (0 < ls)=true:=decide_eq_true (by omega)
   obtain ⟨m,hm⟩:∃ m,m=n+1:=⟨_,rfl⟩
   have q2:IntKind.u64.wrap ((n:Int)+1)=(m:Int):=by rw [IntKind.wrap_u64]; omega
   have HM:=h_ hm
   obtain ⟨⟨zn,zm⟩,z2,z3,z4,z5,z6,z7⟩:=HZ.out
   generalize htt:timesP ⟨tl,th⟩ ⟨a,b⟩ s=tt at *
   have HTT:=h_ htt
   have BY:Hid (bl tt.lo≤6000000∧bl tt.hi≤6000000):=⟨Nat.le_trans z5.1 (by decide),Nat.le_trans z5.2 (by decide)⟩
   generalize htb:byP tt n=tb at *
   have HTB:=h_ htb
   have BP:Hid (bl (Pr.mk sl sh).lo≤1000000∧bl (Pr.mk sl sh).hi≤1000000∧bl tb.lo≤1000000∧bl tb.hi≤1000000):=⟨Nat.le_trans z3.1 (by decide),Nat.le_trans z3.2 (by decide),Nat.le_trans z6.1 (by decide),Nat.le_trans z6.2 (by decide)⟩
   generalize hts:plusP ⟨sl,sh⟩ tb=ts at *
   have HTS:=h_ hts
   have BQ:Hid (bl ts.lo≤1000000∧bl ts.hi≤1000000∧bl tb.lo≤1000000∧bl tb.hi≤1000000):=⟨Nat.le_trans z7.1 (by decide),Nat.le_trans z7.2 (by decide),Nat.le_trans z6.1 (by decide),Nat.le_trans z6.2 (by decide)⟩
   obtain ⟨lh,hlh⟩:∃ lh,lh=bl tb.hi:=⟨_,rfl⟩
   have HLH:=h_ hlh
   have CB3:Hid (∀ w a k c a' k' c',Pv w (.agg #[.slice a k c,.slice a' k' c']) tb→Calls Tryz.prog 36 #[.slice a' k' c'] w fun e w'=>e=.returned (.int .i64 (lh:Nat))∧Below w.heap.size w w'):=by
    rw [hlh]; intro w a k c a' k' c' h; exact bits_r (h.fst.2.rd (Nat.le_trans z6.2 (by decide)))
   clear h0 hI hz hm htt htb hts hlh z2 z3 z4 z5 z6 z7 HZ zn zm
   have c0_10:=F10.out.c2 0 rfl
   have c1_10:=F10.out.c2 1 rfl
   have c2_10:=F10.out.c2 2 rfl
   go_upto_region 9 with (fail)
   clear c0_10 c1_10 c2_10
   have FCD:=h_ (And.intro ((F10.out.drew).c2 0 rfl).1 (((F10.out.drew).c2 2 rfl).1))
   go_region_held3 (fun w'=>(w'.cell? ⟨g1,0,none⟩=some (.slice a4 k4 c4)∧w'.cell? ⟨g1,1,none⟩=some (.slice a5 k5 c5))∧(w'.cell? ⟨g1+1+1,0,none⟩=some (.slice a3 k3 c3)∧w'.cell? ⟨g1+1+1,1,none⟩=some (.slice a6 k6 c6))) (first | with_reducible exact FCD.out | with_reducible exact FC.out) (first | (go_at_call 36; (with_reducible refine (CB2.out _ _ _ _ _ _ _ X11.out).mono ?_); rintro q ww12 ⟨rfl,hb⟩; have F12:=h_ (F11.out.call hb); have T12:=h_ (T11.out.below hb); have X12:=h_ (X11.out.below hb); have S12:=h_ (S11.out.below hb); have FC:=h_ (And.intro (F12.out.c2 0 rfl).1 ((F12.out.c2 2 rfl).1)); have c0_12:=F12.out.c2 0 rfl; have c1_12:=F12.out.c2 1 rfl; have c2_12:=F12.out.c2 2 rfl; clear hb) | (go_at_call 36; (with_reducible refine (CB1.out _ _ _ _ _ _ _ (T10.out.drew)).mono ?_); rintro q ww11 ⟨rfl,hb⟩; have F11:=h_ ((F10.out.drew).call hb); have T11:=h_ ((T10.out.drew).below hb); have X11:=h_ ((X10.out.drew).below hb); have S11:=h_ ((S10.out.drew).below hb); have FC:=h_ (And.intro (F11.out.c2 0 rfl).1 ((F11.out.c2 2 rfl).1)); have c0_11:=F11.out.c2 0 rfl; have c1_11:=F11.out.c2 1 rfl; have c2_11:=F11.out.c2 2 rfl; clear hb))
   go_wp2_with fail
   clear c0_12 c1_12 c2_12
   refine (CT.out _ _ _ _ _ T12.out X12.out B3.out.1 B3.out.2).mono ?_
   rintro q w13 ⟨u,rfl,hu,hb⟩
   have F13:=h_ (F12.out.call hb)
   have T13:=h_ (T12.out.below hb)
   have X13:=h_ (X12.out.below hb)
   have S13:=h_ (S12.out.below hb)
   clear F12 T12 X12 S12
   have Z13:=h_ (HTT.out ▸ hu)
   clear hb
   have c0_13:=F13.out.c2 0 rfl
   have c1_13:=F13.out.c2 1 rfl
   have c2_13:=F13.out.c2 2 rfl
   clear T13
   go_wp2_with fail
   clear c0_13 c1_13 c2_13
   refine (pby_r Z13.out HNB.out.1 HNB.out.2 BY.out.1 BY.out.2).mono ?_
   rintro q w14 ⟨u,rfl,hu,hb⟩
   have F14:=h_ (F13.out.call hb)
   have X14:=h_ (X13.out.below hb)
   have S14:=h_ (S13.out.below hb)
   have Z14:=h_ (Z13.out.below hb)
   clear F13 X13 S13 Z13
   have T14:=h_ (HTB.out ▸ hu)
   clear hb
   have c0_14:=F14.out.c2 0 rfl
   have c1_14:=F14.out.c2 1 rfl
   have c2_14:=F14.out.c2 2 rfl
   clear Z14
   obtain ⟨b1,e1,d1,b2,e2,d2,rfl,h1,h2⟩:=T14.out
   clear h1 h2
   go_upto_region 12 with (fail)
   clear c0_14 c1_14 c2_14
   obtain ⟨f,p⟩:=F14.out.s2 2 rfl (.slice b1 e1 d1) (.slice b2 e2 d2) rfl rfl
   generalize (World.setCell (World.setCell _ _ _) _ _)=W at f p ⊢
   have F15:=h_ (f)
   have X15:=h_ (X14.out.kp p)
   have S15:=h_ (S14.out.kp p)
   have T15:=h_ (T14.out.kp p)
   clear F14 X14 S14 T14
   clear f p
   simp only [List.set_cons_zero,List.set_cons_succ] at F15
   have c0_15:=F15.out.c2 0 rfl
   have c1_15:=F15.out.c2 1 rfl
   have c2_15:=F15.out.c2 2 rfl
   go_wp2_with fail
   clear c0_15 c1_15 c2_15
   refine (pplus_r S15.out T15.out BP.out).mono ?_
   rintro q w16 ⟨u,rfl,hu,hb⟩
   have F16:=h_ (F15.out.call hb)
   have X16:=h_ (X15.out.below hb)
   have S16:=h_ (S15.out.below hb)
   have T16:=h_ (T15.out.below hb)
   clear F15 X15 S15 T15
   have Z16:=h_ (HTS.out ▸ hu)
   clear hb
   have c0_16:=F16.out.c2 0 rfl
   have c1_16:=F16.out.c2 1 rfl
   have c2_16:=F16.out.c2 2 rfl
   clear S16
   obtain ⟨b3,e3,d3,b4,e4,d4,rfl,h1,h2⟩:=Z16.out
   clear h1 h2
   go_upto_region 13 with (fail)
   clear c0_16 c1_16 c2_16
   obtain ⟨f,p⟩:=F16.out.s2 1 rfl (.slice b3 e3 d3) (.slice b4 e4 d4) rfl rfl
   generalize (World.setCell (World.setCell _ _ _) _ _)=W at f p ⊢
   have F17:=h_ (f)
   have X17:=h_ (X16.out.kp p)
   have T17:=h_ (T16.out.kp p)
   have Z17:=h_ (Z16.out.kp p)
   clear F16 X16 T16 Z16
   clear f p
   simp only [List.set_cons_zero,List.set_cons_succ] at F17
   have c0_17:=F17.out.c2 0 rfl
   have c1_17:=F17.out.c2 1 rfl
   have c2_17:=F17.out.c2 2 rfl
   go_wp2_with fail
   clear c0_17 c1_17 c2_17
   refine (CB3.out _ _ _ _ _ _ _ T17.out).mono ?_
   rintro q w18 ⟨rfl,hb⟩
   have F18:=h_ (F17.out.call hb)
   have X18:=h_ (X17.out.below hb)
   have T18:=h_ (T17.out.below hb)
   have Z18:=h_ (Z17.out.below hb)
   clear F17 X17 T17 Z17
   clear hb
   have c0_18:=F18.out.c2 0 rfl
   have c1_18:=F18.out.c2 1 rfl
   have c2_18:=F18.out.c2 2 rfl
   obtain ⟨e',he',hN1,hN2⟩:=HN.out
   by_cases h3:tb.hi≤1
   ·have HR:=h_ (hN1 h3)
    have hl:lh≤1:=by rw [HLH.out]; exact bl_le (Nat.lt_of_le_of_lt h3 (by decide))
    have t5:decide ((lh:Int)≤1)=true:=decide_eq_true (by omega)
    have t6:decide (lh≤1)=true:=decide_eq_true hl
    clear h3 hN1 hN2 he' hl
    have S18:=Z18
    clear Z18
    go_wp2_with fail
    clear c0_18 c1_18 c2_18
    refine (prest_r S18.out T18.out BQ.out).mono ?_
    rintro q w19 ⟨u,rfl,hu,hb⟩
    have F19:=h_ (F18.out.call hb)
    have X19:=h_ (X18.out.below hb)
    have T19:=h_ (T18.out.below hb)
    have S19:=h_ (S18.out.below hb)
    clear F18 X18 T18 S18
    have R19:=h_ (hu)
    clear hb
    have c0_19:=F19.out.c2 0 rfl
    have c1_19:=F19.out.c2 1 rfl
    have c2_19:=F19.out.c2 2 rfl
    obtain ⟨b1,e1,d1,b2,e2,d2,rfl,h1,h2⟩:=R19.out
    clear h1 h2
    go_upto_region 15 with (fail)
    clear c0_19 c1_19 c2_19
    obtain ⟨f,p⟩:=F19.out.s2 1 rfl (.slice b1 e1 d1) (.slice b2 e2 d2) rfl rfl
    generalize (World.setCell (World.setCell _ _ _) _ _)=W at f p ⊢
    have F20:=h_ (f)
    have X20:=h_ (X19.out.kp p)
    have T20:=h_ (T19.out.kp p)
    have S20:=h_ (S19.out.kp p)
    have R20:=h_ (R19.out.kp p)
    clear F19 X19 T19 S19 R19
    clear f p
    simp only [List.set_cons_zero,List.set_cons_succ] at F20
    have c0_20:=F20.out.c2 0 rfl
    have c1_20:=F20.out.c2 1 rfl
    have c2_20:=F20.out.c2 2 rfl
    go_quiet (fail)
    go_wp2
    refine bodyPost_ret (v:=.tuple #[.slice b1 e1 d1,.slice b2 e2 d2,.int .i64 0]) (by simp [results,Tryz.results134,go_sem]) rfl ?_
    have HX:=HE.out
    have hr:=HR.out
    injection hr with hr1 hr2
    rw [HX,hr1,hr2]
    exact ⟨_,_,rfl,(R20.out.fst.1).drewN _,(R20.out.fst.2).drewN _,(F20.out.drewN _).b⟩
   ·have HI':=h_ (hN2 (by omega))
    have hl:1 < lh:=by
     rw [HLH.out]
     apply Nat.lt_of_not_le; intro hc
     have:=lt_bl tb.hi
     have h4:2^bl tb.hi≤2^1:=Nat.pow_le_pow_right (by decide) hc
     omega
    have t5:decide ((lh:Int)≤1)=false:=decide_eq_false (by omega)
    have t6:decide (lh≤1)=false:=decide_eq_false (by omega)
    rw [← HM.out] at HI'
    clear h3 hN1 hN2 he' hl
    go_wp2
    go_roundw
    obtain ⟨tbl,tbh⟩:=tb
    obtain ⟨tsl,tsh⟩:=ts
    case rel=>exact ⟨m,i+1,e',_,_,_,_,_,_,_,_,_,_,_,_,_,_,_,_,rfl,HI',F18,T18,X18,Z18⟩
    case measure=>have h1:=HM.out; have h2:=HZM.out; simp only [intOf]; omega
theorem atL_ge {f:Nat}:∀ {n:Nat} {S T Q:Pr} {s:Nat},S.lo≤(atL f n S T Q s).1.lo:=by
 induction f with
 | zero=>intro n S T Q s; exact Nat.le_refl _
 | succ f ih =>
  intro n S T Q s
  rw [atL]
  split
  ·exact Nat.le_refl _
  ·exact Nat.le_trans (show S.lo≤(plusP S (byP T n)).lo from Nat.le_add_right _ _) ih
theorem ln2_low {s:Nat} (hs:8≤s):2^s≤((atanhP 1 3 s).lo+(atanhP 1 3 s).lo) * 2:=by
 have h8:2^8≤2^s:=Nat.pow_le_pow_right (by decide) hs
 have hf:(fracP 1 3 s).lo=2^s / 3:=by unfold fracP; simp only [Nat.one_mul]
 have h1:(fracP 1 3 s).lo≤(atanhP 1 3 s).lo:=by
  unfold atanhP
  rw [if_neg (by decide)]
  show _≤(atL (s+1) 1 ⟨0,0⟩ (fracP 1 3 s) (timesP (fracP 1 3 s) (fracP 1 3 s) s) s).1.lo
  rw [atL,if_neg (by rw [hf]; generalize 2^s=P at *; omega)]
  have h2:=atL_ge (f:=s) (n:=1+2) (S:=plusP ⟨0,0⟩ (byP (fracP 1 3 s) 1)) (T:=timesP (fracP 1 3 s) (timesP (fracP 1 3 s) (fracP 1 3 s) s) s) (Q:=timesP (fracP 1 3 s) (fracP 1 3 s) s) (s:=s)
  have h3:(plusP ⟨0,0⟩ (byP (fracP 1 3 s) 1)).lo=(fracP 1 3 s).lo:=by
   show 0+(fracP 1 3 s).lo / 1=_
   rw [Nat.div_one,Nat.zero_add]
  rw [h3] at h2
  exact h2
 rw [hf] at h1
 generalize (atanhP 1 3 s).lo=c at *
 generalize 2^s=P at *
 omega
theorem upq_ge {a b n:Nat} (h:a≤b):a / n≤if b % n=0 then b / n else b / n+1:=by
 have h1:a / n≤b / n:=Nat.div_le_div_right h
 split <;> omega
theorem atL_ord {f:Nat}:∀ {n:Nat} {S T Q:Pr} {s:Nat},S.lo≤S.hi→T.lo≤T.hi→Q.lo≤Q.hi→(atL f n S T Q s).1.lo≤(atL f n S T Q s).1.hi:=by
 induction f with
 | zero=>intro n S T Q s h _ _; exact h
 | succ f ih =>
  intro n S T Q s h1 h2 h3
  rw [atL]
  split
  ·exact h1
  ·exact ih (Nat.add_le_add h1 (upq_ge h2)) (upq_ge (Nat.mul_le_mul h2 h3)) h3
theorem ln2_ord (s:Nat):(atanhP 1 3 s).lo≤(atanhP 1 3 s).hi:=by
 have hf:(fracP 1 3 s).lo≤(fracP 1 3 s).hi:=upq_ge (Nat.le_refl _)
 have hq:(timesP (fracP 1 3 s) (fracP 1 3 s) s).lo≤(timesP (fracP 1 3 s) (fracP 1 3 s) s).hi:=upq_ge (Nat.mul_le_mul hf hf)
 have h:=atL_ord (f:=s+1) (n:=1) (S:=⟨0,0⟩) (s:=s) (Nat.le_refl _) hf hq
 unfold atanhP
 rw [if_neg (by decide)]
 exact Nat.le_trans h (Nat.le_add_right _ _)
theorem ln2_top {s:Nat} (hs:s≤3000):(atanhP 1 3 s).hi≤2^(s+12):=Nat.le_trans (atanhP_le (num:=1) (den:=3) (by decide) (by decide)).2 (pow12 hs)
theorem ExI.bound {s:Nat} {R:Pr × Pr}:∀ {f n i:Nat} {S T X:Pr},ExI s R n i f S T X→R.1.lo≤(s+4) * 2^s∧R.1.hi≤(s+4) * 2^s∧R.2.lo≤2^s∧R.2.hi≤2^s:=by
 intro f
 induction f with
 | zero=>intro n i S T X h; have:=h.f2; omega
 | succ f ih =>
  intro n i S T X h
  have hi:i+1≤s+3:=by have:=h.hf; omega
  have hm:(i+1) * 2^s≤(s+3) * 2^s:=Nat.mul_le_mul_right _ hi
  have e1:(s+4) * 2^s=(s+3) * 2^s+2^s:=by rw [show s+4=(s+3)+1 from rfl,Nat.add_mul,Nat.one_mul]
  by_cases h0:T.lo=0∧X.hi=0
  ·rw [h.done h0,e1]
   exact ⟨Nat.le_trans h.hS.1 (Nat.le_trans hm (Nat.le_add_right _ _)),Nat.le_trans h.hS.2 (Nat.le_trans hm (Nat.le_add_right _ _)),h.hT.1,h.hT.2⟩
  ·obtain ⟨f',he,h2,h3⟩:=h.step h0
   have ht:=timesP_le (s:=s) h.hT h.hX
   have hby:=byP_le (p:=timesP T X s) (n:=n) (B:=2^s) (by have:=h.hn; omega) ht
   by_cases h4:(byP (timesP T X s) n).hi≤1
   ·rw [h2 h4,e1]
    exact ⟨Nat.add_le_add (Nat.le_trans h.hS.1 hm) hby.1,Nat.add_le_add (Nat.le_trans h.hS.2 hm) hby.2,hby.1,hby.2⟩
   ·obtain rfl:f=f':=by omega
    exact ih (h3 (by omega))
theorem expP_le {a b s:Nat} (ha:a≤2^s) (hb:b≤2^s):(expP a b s).lo≤(s+6) * 2^s∧(expP a b s).hi≤(s+6) * 2^s:=by
 obtain ⟨h1,h2,h3,h4⟩:=(ExI.start ha hb).bound
 have e1:(s+6) * 2^s=(s+4) * 2^s+(2^s+2^s):=by rw [show s+6=(s+4)+2 from rfl,Nat.add_mul,Nat.two_mul]
 unfold expP restP
 rw [e1]
 exact ⟨Nat.le_trans h1 (Nat.le_add_right _ _),Nat.add_le_add h2 (Nat.add_le_add h4 h4)⟩
theorem pow12' {s:Nat} (hs:s≤3000):(s+6) * 2^s≤2^(s+12):=by
 rw [Nat.pow_add,Nat.mul_comm]
 exact Nat.mul_le_mul_left _ (by omega)
theorem toF_vals (m:Nat) (e:Int) (more:Bool) (z:Int):toF m e more z=0 ∨ toF m e more z=1 ∨ toF m e more z=3 ∨ toF m e more z=5:=by
 unfold toF
 repeat' split
 all_goals omega
theorem or_ne {f:Int} (h:f=0 ∨ f=1 ∨ f=3 ∨ f=5):Go.bits .or .u8 f 1 ≠ 0:=by
 rcases h with rfl | rfl | rfl | rfl <;> decide
theorem toF_ne {m:Nat} {e:Int} {z:Int} (hodd:m % 2=1) (hb:breakB m e=false):toF m e false z ≠ 0:=by
 unfold toF
 unfold breakB at hb
 by_cases h1:1023 < (bl m:Int) - 1+e
 ·rw [if_pos h1]; decide
 rw [if_neg h1] at hb ⊢
 by_cases h2:(bl m:Int) - 1+e < -1075
 ·rw [if_pos h2]; decide
 rw [if_neg h2]
 have hb:=of_decide_eq_false hb
 generalize unitOf ((bl m:Int) - 1+e)=u at *
 have hn:¬ u - e≤0:=by omega
 have hw:(wholeN m (u - e) z false).2=true:=by
  unfold wholeN partsN
  rw [if_neg hn]
  simp only [Bool.or_false]
  obtain ⟨k,hk⟩:∃ k:Nat,(u - e).toNat - 1=k+1:=⟨(u - e).toNat - 2,by omega⟩
  rw [hk]
  have:m % 2^(k+1) ≠ 0:=by
   intro h
   have h3:2 ∣ m:=Nat.dvd_trans ⟨2^k,by rw [Nat.pow_succ,Nat.mul_comm]⟩ (Nat.dvd_of_mod_eq_zero h)
   omega
  simp [this]
 rw [hw]
 repeat' split
 all_goals first | decide | (exfalso; simp at *)
structure Tw (X:World→Prop) (B gu gv Nu cu Nv cv:Nat) (w0 wr:World) (U V:List Nat):Prop where
 u:wr.ownsRow B 22 1 (.slice (some ⟨gu,0,none⟩) Nu cu) Nu (dvl U)
 v:wr.ownsRow B 22 1 (.slice (some ⟨gv,0,none⟩) Nv cv) Nv (dvl V)
 ne:gu ≠ gv
 du:Digs U
 dv:Digs V
 gB:B≤gu
 b:Below B w0 wr
 x:X wr
 st:∀ w k u,X w→X (w.setCell ⟨gu,k,none⟩ u)
theorem Tw.set {X:World→Prop} {B gu gv Nu cu Nv cv:Nat} {w0 wr:World} {U V:List Nat} (h:Tw X B gu gv Nu cu Nv cv w0 wr U V) (k:Nat) {x:Nat} (hx:x < 18446744073709551616) (u:Value) (hu:u=.int .u64 (x:Int)) :
  Tw X B gu gv Nu cu Nv cv w0 (wr.setCell ⟨gu,k,none⟩ u) (U.set k x) V:=by
 subst hu
 refine ⟨?_,?_,h.ne,h.du.set hx,h.dv,h.gB,h.b.setCell h.gB _,h.st _ _ _ h.x,h.st⟩
 ·rw [← dvl_set]; exact (h.u.stored k _).1
 ·refine ownsRow_setCell_other h.v ?_ _
  simp only [Value.ownBlock]
  intro e
  exact h.ne (Option.some.inj e).symm
theorem Tw.lenU {X:World→Prop} {B gu gv Nu cu Nv cv:Nat} {w0 wr:World} {U V:List Nat} (h:Tw X B gu gv Nu cu Nv cv w0 wr U V):U.length=Nu:=own_len h.u
theorem Tw.lenV {X:World→Prop} {B gu gv Nu cu Nv cv:Nat} {w0 wr:World} {U V:List Nat} (h:Tw X B gu gv Nu cu Nv cv w0 wr U V):V.length=Nv:=own_len h.v
theorem Tw.uAt {X:World→Prop} {B gu gv Nu cu Nv cv:Nat} {w0 wr:World} {U V:List Nat} (h:Tw X B gu gv Nu cu Nv cv w0 wr U V) {k:Nat} (hk:k < Nu):wr.cell? ⟨gu,k,none⟩=some (.int .u64 (dg U k:Nat)):=by
 rw [h.u.cellAt k (by omega)]
 exact dvl_get (dg_get (by rw [h.lenU]; exact hk))
theorem Tw.vAt {X:World→Prop} {B gu gv Nu cu Nv cv:Nat} {w0 wr:World} {U V:List Nat} (h:Tw X B gu gv Nu cu Nv cv w0 wr U V) {k:Nat} (hk:k < Nv):wr.cell? ⟨gv,k,none⟩=some (.int .u64 (dg V k:Nat)):=by
 rw [h.v.cellAt k (by omega)]
 exact dvl_get (dg_get (by rw [h.lenV]; exact hk))
theorem Tw.fz {X:World→Prop} {B gu gv Nu cu Nv cv:Nat} {w0 wr:World} {U V:List Nat} (h:Tw X B gu gv Nu cu Nv cv w0 wr U V) (k:Nat):wr.frozen? ⟨gu,k,none⟩=false:=h.u.frozenAt k
theorem sub_col {o l2 b z b' R:Nat} (hR:R=18446744073709551616) (ho:o < R) (hl:l2 < R) (hb:b≤1) (h1:z=(o+R - l2 - b) % R) (h2:b'=if o < l2+b then 1 else 0):z+(l2+b)=o+R * b'∧z < R∧b'≤1:=by
 by_cases h:o < l2+b
 ·rw [if_pos h] at h2
  have:o+R - l2 - b < R:=by omega
  rw [Nat.mod_eq_of_lt this] at h1
  subst h2 hR
  omega
 ·rw [if_neg h] at h2
  have e:o+R - l2 - b=(o - l2 - b)+R:=by omega
  rw [e,Nat.add_mod_right,Nat.mod_eq_of_lt (by omega)] at h1
  subst h2 hR
  omega
theorem take_col {o y d cy b R hi lo l2 c1 z b':Nat} (hR:R=18446744073709551616) (ho:o < R) (hy:y < R) (hd:d < R) (hc:cy < R) (hb:b≤1) (h1:hi=y * d / R) (h2:lo=y * d % R) (h3:l2=(lo+cy+0) % R) (h4:c1=(lo+cy+0) / R)
  (h5:z=(o+R - l2 - b) % R) (h6:b'=if o < l2+b then 1 else 0) :
  z+(y * d+cy+b)=o+R * (hi+c1+b')∧hi+c1 < R∧c1≤1∧z < R∧l2 < R∧lo < R∧b'≤1:=by
 have h7:y * d≤(R - 1) * (R - 1):=Nat.mul_le_mul (by omega) (by omega)
 have h8:R * hi+lo=y * d:=by rw [h1,h2]; exact Nat.div_add_mod _ _
 have h9:lo < R:=by rw [h2]; exact Nat.mod_lt _ (by omega)
 have h10:R * c1+l2=lo+cy:=by rw [h3,h4]; have:=Nat.div_add_mod (lo+cy+0) R; omega
 have h12:l2 < R:=by rw [h3]; exact Nat.mod_lt _ (by omega)
 obtain ⟨k1,k2,k3⟩:=sub_col hR ho h12 hb h5 h6
 generalize y * d=p at *
 clear h1 h2 h3 h4 h5 h6
 subst hR
 omega
structure TkI (i n d:Nat) (U0 V:List Nat) (O:List Nat) (j c b:Nat):Prop where
 sum:ofd O+18446744073709551616^i * (ofd (V.take j) * d)=ofd U0+18446744073709551616^(i+j) * (c+b)
 low:∀ t,t < i→dg O t=dg U0 t
 high:∀ t,i+j≤t→dg O t=dg U0 t
theorem TkI.step {i n d:Nat} {U0 V O:List Nat} {j c b:Nat} (h:TkI i n d U0 V O j c b) (hl:i+j < O.length) {z c' b':Nat} (hz:z+(dg V j * d+c+b)=dg O (i+j)+18446744073709551616 * (c'+b')) :
  TkI i n d U0 V (O.set (i+j) z) (j+1) c' b':=by
 refine ⟨?_,fun t ht=>?_,fun t ht=>?_⟩
 ·have h1:=ofd_set O (i+j) z hl
  have h2:=h.sum
  rw [take_dg,Nat.add_mul,Nat.mul_add,show i+(j+1)=i+j+1 by omega,Nat.pow_succ,Nat.mul_assoc (18446744073709551616^j),← Nat.mul_assoc (18446744073709551616^i) (18446744073709551616^j),← Nat.pow_add]
  have h3:18446744073709551616^(i+j) * (z+(dg V j * d+c+b))=18446744073709551616^(i+j) * (dg O (i+j)+18446744073709551616 * (c'+b')):=by rw [hz]
  rw [Nat.mul_add,Nat.mul_add,Nat.mul_add,Nat.mul_add,← Nat.mul_assoc (18446744073709551616^(i+j)) 18446744073709551616] at h3
  rw [Nat.mul_add] at h2
  omega
 ·rw [dg_set _ _ _ _ (by omega)]; exact h.low t ht
 ·rw [dg_set _ _ _ _ (by omega)]; exact h.high t (by omega)
theorem TkI.last {i n d:Nat} {U0 V O:List Nat} {c b:Nat} (h:TkI i n d U0 V O n c b) (hl:i+n < O.length) {z b':Nat} (hz:z+(c+b)=dg O (i+n)+18446744073709551616 * b') :
  ofd (O.set (i+n) z)+18446744073709551616^i * (ofd (V.take n) * d)=ofd U0+18446744073709551616^(i+n+1) * b'∧(∀ t,t < i→dg (O.set (i+n) z) t=dg U0 t)∧(∀ t,i+n < t→dg (O.set (i+n) z) t=dg U0 t):=by
 refine ⟨?_,fun t ht=>?_,fun t ht=>?_⟩
 ·have h1:=ofd_set O (i+n) z hl
  have h2:=h.sum
  have h3:18446744073709551616^(i+n) * (z+(c+b))=18446744073709551616^(i+n) * (dg O (i+n)+18446744073709551616 * b'):=by rw [hz]
  rw [Nat.mul_add,Nat.mul_add,Nat.mul_add,← Nat.mul_assoc (18446744073709551616^(i+n)) 18446744073709551616] at h3
  rw [Nat.mul_add] at h2
  rw [Nat.pow_succ]
  omega
 ·rw [dg_set _ _ _ _ (by omega)]; exact h.low t ht
 ·rw [dg_set _ _ _ _ (by omega)]; exact h.high t (by omega)
theorem sub64_s (x y b:Nat) (hb:b≤1) {z c:Nat} (hz:z=(x+18446744073709551616 - y - b) % 18446744073709551616) (hc:c=if x < y+b then 1 else 0) (w:World) :
  (callFunc 186 #[.int .u64 (x:Int),.int .u64 (y:Int),.int .u64 (b:Int)]).run Tryz.prog w=.ok (.value (.tuple #[.int .u64 (z:Int),.int .u64 (c:Int)])) w:=by
 rw [hz,hc]; exact sub64 x y b hb w
def TakeE (X:World→Prop) (B gu gv Nu cu Nv cv i n d:Nat) (U V:List Nat) (w0:World) (e:Ending) (w':World):Prop :=
 ∃ (c:Nat) (O:List Nat),e=.returned (.bool (decide (0 < c)))∧c≤1∧Tw X B gu gv Nu cu Nv cv w0 w' O V ∧
  ofd O+18446744073709551616^i * (ofd (V.take n) * d)=ofd U+18446744073709551616^(i+n+1) * c∧(∀ t,t < i→dg O t=dg U t)∧(∀ t,i+n < t→dg O t=dg U t)
theorem take_any {X:World→Prop} {B gu gv Nu cu Nv cv i n d cc:Nat} {U V:List Nat} {w0 w:World} (h:Tw X B gu gv Nu cu Nv cv w0 w U V) (hiN:i+n < Nu) (hnV:n≤Nv) (hN:Nu≤300000) (hd:d < 18446744073709551616) :
  Calls Tryz.prog 189 #[.slice (some ⟨gu,i,none⟩) (n+1) cc,.slice (some ⟨gv,0,none⟩) n cv,.int .u64 (d:Int)] w (TakeE X B gu gv Nu cu Nv cv i n d U V w0):=by
 have HI:Hid (Tw X B gu gv Nu cu Nv cv w0 w U V∧TkI i n d U V U 0 0 0):=⟨h,by simp [ofd],fun t _=>rfl,fun t _=>rfl⟩
 obtain ⟨M,hM⟩:∃ M,M=n+1:=⟨_,rfl⟩
 rw [← hM]
 have hnM:n < M:=by omega
 clear h hM
 go_enter Tryz.func189,Tryz.ntmps189
 go_wp2
 go_loopw [7,8,17] (fun cy bo ix wr=>∃ (j c b:Nat) (O:List Nat),ix=.int .i64 j∧cy=.int .u64 c∧bo=.int .u64 b∧j≤n∧c < 18446744073709551616∧b≤1∧Hid (Tw X B gu gv Nu cu Nv cv w0 wr O V∧TkI i n d U V O j c b)) (fun _ _ ix _=>n - (intOf ix).toNat)
 case atStart=>exact ⟨0,0,0,U,rfl,rfl,rfl,by omega,by omega,by omega,HI⟩
 case round =>
  obtain ⟨j,cy,b,O,rfl,rfl,rfl,hj,hcy,hb,hh⟩:=hrel
  by_cases hlt:j < n
  ·have hm2:j < M:=by omega
   have hfz:=hh.out.1.fz (i+j)
   have hxo:=hh.out.1.uAt (k:=i+j) (by omega)
   have hxa:=hh.out.1.vAt (k:=j) (by omega)
   have d1:=dg_lt hh.out.1.dv j
   have d2:=dg_lt hh.out.1.du (i+j)
   have HST:Hid (∀ z c' b',z < 18446744073709551616→z+(dg V j * d+cy+b)=dg O (i+j)+18446744073709551616 * (c'+b')→∀ u,u=.int .u64 (z:Int)→Tw X B gu gv Nu cu Nv cv w0 (wr.setCell ⟨gu,i+j,none⟩ u) (O.set (i+j) z) V∧TkI i n d U V (O.set (i+j) z) (j+1) c' b') :=
    fun z c' b' h1 h2 u h3=>⟨hh.out.1.set (i+j) h1 u h3,hh.out.2.step (by rw [hh.out.1.lenU]; omega) h2⟩
   generalize dg V j=y at *
   generalize dg O (i+j)=o at *
   obtain ⟨hi,ehi⟩:∃ hi,hi=y * d / 18446744073709551616:=⟨_,rfl⟩
   obtain ⟨lo',elo⟩:∃ lo',lo'=y * d % 18446744073709551616:=⟨_,rfl⟩
   obtain ⟨l2,el2⟩:∃ l2,l2=(lo'+cy+0) % 18446744073709551616:=⟨_,rfl⟩
   obtain ⟨c1,ec1⟩:∃ c1,c1=(lo'+cy+0) / 18446744073709551616:=⟨_,rfl⟩
   obtain ⟨z,ez⟩:∃ z,z=(o+18446744073709551616 - l2 - b) % 18446744073709551616:=⟨_,rfl⟩
   obtain ⟨b',eb⟩:∃ b',b'=if o < l2+b then 1 else 0:=⟨_,rfl⟩
   obtain ⟨k1,k2,k3,k4,k5,k6,k7⟩:=take_col rfl d2 d1 hd hcy hb ehi elo el2 ec1 ez eb
   have M1:=h_ (fun w=>mul64 y d d1 hd w)
   rw [← ehi,← elo] at M1
   have A1:=fun w=>add64_0 lo' cy w
   rw [← el2,← ec1] at A1
   have A2:=fun w=>sub64_s o l2 b hb ez eb w
   have W1:IntKind.u64.wrap ((hi:Int)+c1)=((hi+c1:Nat):Int):=by rw [IntKind.wrap_u64]; omega
   obtain ⟨hs,ehs⟩:∃ hs,hs=hi+c1:=⟨_,rfl⟩
   rw [← ehs] at W1 k1 k2
   have HO:=h_ (HST.out z hs b' k4 k1 _ rfl)
   clear ehi elo el2 ec1 ez eb k1 k3 k4 k5 k6 HST ehs
   go_wp2_with fail
   refine (M1.out _).mono ?_
   rintro e w2 ⟨rfl,rfl⟩
   go_wp2
   go_roundw
   case rel=>exact ⟨j+1,hs,b',_,by go_num,rfl,rfl,by omega,k2,k7,HO⟩
   case measure=>simp [intOf]; omega
  ·obtain rfl:j=n:=by omega
   have hfz:=hh.out.1.fz (i+j)
   have hxo:=hh.out.1.uAt (k:=i+j) (by omega)
   have d2:=dg_lt hh.out.1.du (i+j)
   obtain ⟨z,ez⟩:∃ z,z=(dg O (i+j)+18446744073709551616 - cy - b) % 18446744073709551616:=⟨_,rfl⟩
   obtain ⟨b',eb⟩:∃ b',b'=if dg O (i+j) < cy+b then 1 else 0:=⟨_,rfl⟩
   obtain ⟨k1,k2,k3⟩:=sub_col rfl d2 hcy hb ez eb
   have HE:Hid (∀ u,u=.int .u64 (z:Int)→TakeE X B gu gv Nu cu Nv cv i j d U V w0 (.returned (.bool (decide (0 < b')))) (wr.setCell ⟨gu,i+j,none⟩ u)) :=
    fun u hu=>⟨b',_,rfl,k3,hh.out.1.set (i+j) k2 u hu,hh.out.2.last (by rw [hh.out.1.lenU]; omega) k1⟩
   have A2:=fun w=>sub64_s (dg O (i+j)) cy b hb ez eb w
   have hdec:decide ((0:Int) < (b':Int))=decide (0 < b'):=by by_cases h:0 < b' <;> simp [h]
   clear ez eb k1 k2 k3
   generalize dg O (i+j)=o at *
   go_wp2
   refine bodyPost_ret (v:=.bool (decide (0 < b'))) (by simp [results,Tryz.results189,go_sem]) rfl ?_
   exact HE.out _ rfl
end Go.Proofs.YtobpioceopfkpaaGreatDoor
