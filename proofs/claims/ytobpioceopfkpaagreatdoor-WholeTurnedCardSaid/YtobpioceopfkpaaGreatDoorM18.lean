/-
  Lemmas for WholeTurned and WholeGrows and WholeRises, part 18 of 36: what the program's functions do, and plain facts; without conditions.
-/
import Derived.Test.YtobpioceopfkpaaGreatDoorM17
import Derived.Test.YtobpioceopfkpaaGreatDoorM01
import Derived.LoopN
import Derived.Test.YtobpioceopfkpaaGreatDoorM11
import Derived.Test.YtobpioceopfkpaaGreatDoorM08
import Derived.Deep.RegionHeld3
import Derived.BigQuiet
import Derived.Test.YtobpioceopfkpaaGreatDoorM09
import Derived.Test.YtobpioceopfkpaaGreatDoorM07
set_option maxRecDepth 100000
set_option maxHeartbeats 4000000
namespace Go.Proofs.YtobpioceopfkpaaGreatDoor
open Go.RowKit
theorem Plan_64 (w:World):Calls Tryz.prog 41 #[.int .i64 64,.int .i64 64] w fun e w'=>∃ v,e=.returned (.tuple #[v,.int .i64 0])∧w'.ownsRow w.heap.size 3 1 v 1 [.int .i64 64]∧Below w.heap.size w w':=by
 have i3:(Tryz.prog.info? 3).map (fun i=>(i.zero,i.size,i.bytes))=some (some (.int .i64 0),1,8):=by kernel_rfl
 go_enter Tryz.func41,Tryz.ntmps41
 go_wp2
 refine wp_loop_rounds 1 ?_
 have ho0:Hid (w.ownsRow w.heap.size 3 1 (.slice none 0 0) 0 []):=World.ownsRow_nil _ _ _ _
 have hb0:Hid (Below w.heap.size w w):=Below.refl _ _
 rw [rounds_succ]
 go_wp2_with (at_builtin; refine wpList_app1 rfl (.tmp 33) (.tmp 35) 87 rfl w.heap.size 3 (.int .i64 0) 8 Tryz.underlying87 i3 rfl (by decide) _ 0 _ rfl _ 1 rfl rfl ho0.out hb0.out hb0.out.size (by decide) ?_)
 intro v1 w1 h1 h2 h3
 have ho1:Hid (w1.ownsRow w.heap.size 3 1 v1 1 [.int .i64 64]):=h1
 have hb1:=h_ h2
 clear h1 h2 h3 ho0 hb0
 go_wp2
 refine bodyPost_ret (v:=.tuple #[v1,.int .i64 0]) (by simp [results,Tryz.results41,go_sem]) rfl ?_
 exact ⟨_,rfl,ho1.out,hb1.out⟩
theorem Plan_1024 (w:World):Calls Tryz.prog 41 #[.int .i64 64,.int .i64 1024] w fun e w'=>∃ v,e=.returned (.tuple #[v,.int .i64 0])∧w'.ownsRow w.heap.size 3 1 v 5 [.int .i64 64,.int .i64 128,.int .i64 256,.int .i64 512,.int .i64 1024]∧Below w.heap.size w w':=by
 have i3:(Tryz.prog.info? 3).map (fun i=>(i.zero,i.size,i.bytes))=some (some (.int .i64 0),1,8):=by kernel_rfl
 go_enter Tryz.func41,Tryz.ntmps41
 go_wp2
 refine wp_loop_rounds 5 ?_
 have ho0:Hid (w.ownsRow w.heap.size 3 1 (.slice none 0 0) 0 []):=World.ownsRow_nil _ _ _ _
 have hb0:Hid (Below w.heap.size w w):=Below.refl _ _
 rw [rounds_succ]
 go_wp2_with (at_builtin; refine wpList_app1 rfl (.tmp 29) (.tmp 31) 87 rfl w.heap.size 3 (.int .i64 0) 8 Tryz.underlying87 i3 rfl (by decide) _ 0 _ rfl _ 1 rfl rfl ho0.out hb0.out hb0.out.size (by decide) ?_)
 intro v1 w1 h1 h2 h3
 have ho1:Hid (w1.ownsRow w.heap.size 3 1 v1 1 [.int .i64 64]):=h1
 have hb1:=h_ h2
 clear h1 h2 h3 ho0 hb0
 go_wp2
 rw [rounds_succ]
 go_wp2_with (at_builtin; refine wpList_app1 rfl (.tmp 29) (.tmp 31) 87 rfl w.heap.size 3 (.int .i64 0) 8 Tryz.underlying87 i3 rfl (by decide) _ 1 _ rfl _ 1 rfl rfl ho1.out hb1.out hb1.out.size (by decide) ?_)
 intro v2 w2 h1 h2 h3
 have ho2:Hid (w2.ownsRow w.heap.size 3 1 v2 2 [.int .i64 64,.int .i64 128]):=h1
 have hb2:=h_ h2
 clear h1 h2 h3 ho1 hb1
 go_wp2
 rw [rounds_succ]
 go_wp2_with (at_builtin; refine wpList_app1 rfl (.tmp 29) (.tmp 31) 87 rfl w.heap.size 3 (.int .i64 0) 8 Tryz.underlying87 i3 rfl (by decide) _ 2 _ rfl _ 1 rfl rfl ho2.out hb2.out hb2.out.size (by decide) ?_)
 intro v3 w3 h1 h2 h3
 have ho3:Hid (w3.ownsRow w.heap.size 3 1 v3 3 [.int .i64 64,.int .i64 128,.int .i64 256]):=h1
 have hb3:=h_ h2
 clear h1 h2 h3 ho2 hb2
 go_wp2
 rw [rounds_succ]
 go_wp2_with (at_builtin; refine wpList_app1 rfl (.tmp 29) (.tmp 31) 87 rfl w.heap.size 3 (.int .i64 0) 8 Tryz.underlying87 i3 rfl (by decide) _ 3 _ rfl _ 1 rfl rfl ho3.out hb3.out hb3.out.size (by decide) ?_)
 intro v4 w4 h1 h2 h3
 have ho4:Hid (w4.ownsRow w.heap.size 3 1 v4 4 [.int .i64 64,.int .i64 128,.int .i64 256,.int .i64 512]):=h1
 have hb4:=h_ h2
 clear h1 h2 h3 ho3 hb3
 go_wp2
 rw [rounds_succ]
 go_wp2_with (at_builtin; refine wpList_app1 rfl (.tmp 33) (.tmp 35) 87 rfl w.heap.size 3 (.int .i64 0) 8 Tryz.underlying87 i3 rfl (by decide) _ 4 _ rfl _ 1 rfl rfl ho4.out hb4.out hb4.out.size (by decide) ?_)
 intro v5 w5 h1 h2 h3
 have ho5:Hid (w5.ownsRow w.heap.size 3 1 v5 5 [.int .i64 64,.int .i64 128,.int .i64 256,.int .i64 512,.int .i64 1024]):=h1
 have hb5:=h_ h2
 clear h1 h2 h3 ho4 hb4
 go_wp2
 refine bodyPost_ret (v:=.tuple #[v5,.int .i64 0]) (by simp [results,Tryz.results41,go_sem]) rfl ?_
 exact ⟨_,rfl,ho5.out,hb5.out⟩
theorem short_r {w:World} {u:Value} {d:Dn} (hu:Ry w u d) (sd:Sd d) (B M:Int) (hB:(bl (bareN d).m:Int)≤B) (hM:-M≤topN (bareN d)∧topN (bareN d)≤M) (hMM:0≤M∧M≤10000000) :
  Calls Tryz.prog 79 #[u,.int .i64 B,.int .i64 M] w fun e w'=>e=.returned (.bool true)∧Below w.heap.size w w':=by
 have CA:=h_ (fun w (h:Ry w u d)=>Bare_s h sd)
 have bd:=sd.bare
 obtain ⟨a1,k1,c1,rfl⟩:=hu.form
 generalize bareN d=D at *
 have CT:=h_ (fun w u (h:Cy w u D)=>Top_d h.ry)
 generalize topN D=t at *
 obtain ⟨n,m,e⟩:=D
 simp only at hB bd CT
 have CB:=h_ (fun w u (h:Dg w u m)=>bits_r (h.rd (by omega)))
 generalize bl m=l at *
 generalize decide (m ≠ 0)=g at *
 have q1:IntKind.i64.wrap (-M)=-M:=IntWalk.i64_in _ (by omega)
 have z1:decide ((l:Int)≤B)=true:=decide_eq_true hB
 have z2:decide (-M≤t)=true:=decide_eq_true hM.1
 have z3:decide (t≤M)=true:=decide_eq_true hM.2
 have HUU:=h_ hu
 clear hu sd hB hM hMM bd
 go_enter Tryz.func79,Tryz.ntmps79
 have F0:=h_ (Fx.one w 42 #[.bool d.neg,.slice a1 k1 c1,.int .i64 d.e] rfl)
 have X0:=h_ (HUU.out.alloc (.cells #[.bool d.neg,.slice a1 k1 c1,.int .i64 d.e] 42))
 clear HUU
 go_upto_region 1 with (fail)
 generalize World.alloc _ _=w0 at F0 X0 ⊢
 have c0_0:=F0.out.c3 0 rfl
 go_wp2_with fail
 clear c0_0
 refine (CA.out _ X0.out).mono ?_
 rintro q w1 ⟨u,rfl,hu,hb⟩
 have F1:=h_ (F0.out.call hb)
 have X1:=h_ (X0.out.below hb)
 clear F0 X0
 have U1:=h_ (hu)
 clear hb
 have c0_1:=F1.out.c3 0 rfl
 clear X1
 obtain ⟨a3,k3,c3,rfl⟩:=U1.out.fm
 go_upto_region 2 with (fail)
 clear c0_1
 obtain ⟨f,p⟩:=F1.out.s3 0 rfl (.bool n) (.slice a3 k3 c3) (.int .i64 e) rfl rfl rfl
 generalize (World.setCell (World.setCell (World.setCell _ _ _) _ _) _ _)=W at f p ⊢
 have F2:=h_ (f)
 have U2:=h_ (U1.out.kp p)
 clear F1 U1
 clear f p
 simp only [List.set_cons_zero] at F2
 have c0_2:=F2.out.c3 0 rfl
 go_wp2_with fail
 clear c0_2
 refine (CT.out _ _ U2.out).mono ?_
 rintro q w3 ⟨rfl,hb⟩
 have F3:=h_ (F2.out.call hb)
 have U3:=h_ (U2.out.below hb)
 clear F2 U2
 clear hb
 have c0_3:=F3.out.c3 0 rfl
 go_wp2_with fail
 clear c0_3
 refine (CB.out _ _ U3.out.dm).mono ?_
 rintro q w4 ⟨rfl,hb⟩
 have F4:=h_ (F3.out.call hb)
 have U4:=h_ (U3.out.below hb)
 clear F3 U3
 clear hb
 have c0_4:=F4.out.c3 0 rfl
 go_wp2
 go_ret
 exact ⟨rfl,F4.out.b⟩
def Ak (w:World) (v:Value) (x y:Dn) (z tt:Int):Prop:=∃ a k c a' k' c',v=.agg #[.bool x.neg,.slice a k c,.int .i64 x.e,.bool y.neg,.slice a' k' c',.int .i64 y.e,.int .u64 1,.bool false,.int .i64 z,.int .i64 64,.int .i64 tt] ∧
 Cy w (.agg #[.bool x.neg,.slice a k c,.int .i64 x.e]) x∧Cy w (.agg #[.bool y.neg,.slice a' k' c',.int .i64 y.e]) y
theorem Ak.below {w w':World} {v:Value} {x y:Dn} {z tt:Int} (h:Ak w v x y z tt) (hb:Below w.heap.size w w'):Ak w' v x y z tt:=by
 obtain ⟨a,k,c,a',k',c',h1,h2,h3⟩:=h; exact ⟨a,k,c,a',k',c',h1,h2.below hb,h3.below hb⟩
theorem Ak.alloc {w:World} {v:Value} {x y:Dn} {z tt:Int} (h:Ak w v x y z tt) (o:Obj):Ak (w.alloc o) v x y z tt:=by
 obtain ⟨a,k,c,a',k',c',h1,h2,h3⟩:=h; exact ⟨a,k,c,a',k',c',h1,h2.alloc o,h3.alloc o⟩
theorem Ak.drew {w:World} {v:Value} {x y:Dn} {z tt:Int} (h:Ak w v x y z tt):Ak w.drew v x y z tt:=by
 obtain ⟨a,k,c,a',k',c',h1,h2,h3⟩:=h; exact ⟨a,k,c,a',k',c',h1,h2.drew,h3.drew⟩
def signA (x y:Dn):Int:=signN y * CmpD x (ofN 1)
theorem and_frac {x:Nat} (hx:x < 18446744073709551616):bits .and .u64 (x:Int) 4503599627370495=((x % 4503599627370496:Nat):Int):=by
 rw [u64_and _ _ (Int.natCast_nonneg _) (by omega) (by decide) (by decide),Int.toNat_natCast]
 congr 1
 exact Nat.and_two_pow_sub_one_eq_mod x 52
theorem and_field {x:Nat} (hx:x < 18446744073709551616):bits .and .u64 ((x:Int) / 4503599627370496) 2047=((x / 4503599627370496 % 2048:Nat):Int):=by
 have e1:(x:Int) / 4503599627370496=((x / 4503599627370496:Nat):Int):=by omega
 have h1:x / 4503599627370496 < 4096:=by omega
 rw [e1,u64_and _ _ (Int.natCast_nonneg _) (by omega) (by decide) (by decide),Int.toNat_natCast]
 congr 1
 exact Nat.and_two_pow_sub_one_eq_mod (x / 4503599627370496) 11
theorem and_sign {x:Nat} (hx:x < 18446744073709551616):bits .and .u64 (x:Int) 9223372036854775808=((if 9223372036854775808≤x then 9223372036854775808 else 0:Nat):Int):=by
 rw [u64_and _ _ (Int.natCast_nonneg _) (by omega) (by decide) (by decide),Int.toNat_natCast]
 congr 1
 show x &&& 2^63=if 2^63≤x then 2^63 else 0
 have ht:x.testBit 63=decide (2^63≤x):=by
  rw [Nat.testBit_eq_decide_div_mod_eq]
  by_cases h1:2^63≤x
  ·have:x / 2^63 % 2=1:=by omega
   simp only [h1,this]
  ·have:x / 2^63 % 2=0:=by omega
   simp only [h1,this]; decide
 apply Nat.eq_of_testBit_eq
 intro i
 rw [Nat.testBit_and,Nat.testBit_two_pow]
 by_cases hi:63=i
 ·subst hi
  rw [ht]
  by_cases h1:2^63≤x
  ·rw [if_pos h1,Nat.testBit_two_pow]; simp only [h1]; rfl
  ·rw [if_neg h1]; simp only [h1]; rfl
 ·have hd:decide (63=i)=false:=decide_eq_false hi
  rw [hd,Bool.and_false]
  split
  ·rw [Nat.testBit_two_pow,hd]
  ·rw [Nat.zero_testBit]
theorem or_hidden {x:Nat} (hx:x < 4503599627370496):bits .or .u64 (x:Int) 4503599627370496=((x+4503599627370496:Nat):Int):=by
 rw [u64_or _ _ (Int.natCast_nonneg _) (by omega) (by decide) (by decide),Int.toNat_natCast]
 congr 1
 have:=or_add (b:=1) (a:=x) (t:=52) hx
 rw [Nat.or_comm]
 simpa [Nat.add_comm] using this
def fld (b:Nat):Nat:=b / 4503599627370496 % 2048
def frc (b:Nat):Nat:=b % 4503599627370496
def sgn (b:Nat):Bool:=decide (9223372036854775808≤b)
def mant (b:Nat):Nat:=if fld b=0 then frc b else frc b+4503599627370496
def dyE (b:Nat):Int:=max (fld b:Int) 1 - 1075
def dyD (b:Nat):Dn:=bareN ⟨sgn b,mant b,dyE b⟩
theorem mant_lt (b:Nat):mant b < 9007199254740992:=by
 have:frc b < 4503599627370496:=Nat.mod_lt _ (by decide)
 unfold mant; split <;> omega
theorem field_r {b:Nat} (hb:b < 18446744073709551616) (w:World):Calls Tryz.prog 24 #[.int .u64 (b:Int)] w fun e w'=>e=.returned (.int .i64 (fld b:Nat))∧w=w':=by
 have h1:=and_field hb
 have h2:fld b < 2048:=Nat.mod_lt _ (by decide)
 have h3:b / 4503599627370496 % 2048=fld b:=rfl
 rw [h3] at h1
 generalize fld b=f at *
 clear h3
 have h4:wrap64 (f:Int)=(f:Int):=by unfold wrap64; omega
 go_enter Tryz.func24,Tryz.ntmps24
 go_wp2
 refine bodyPost_ret (v:=.int .i64 (f:Int)) (by simp [results,Tryz.results24,go_sem]) rfl ⟨rfl,rfl⟩
theorem neg_r {b:Nat} (hb:b < 18446744073709551616) (w:World):Calls Tryz.prog 10 #[.int .u64 (b:Int)] w fun e w'=>e=.returned (.bool (sgn b))∧w=w':=by
 have h1:=and_sign hb
 have h2:sgn b=decide (9223372036854775808≤b):=rfl
 rw [h2]
 by_cases h:9223372036854775808≤b
 ·rw [if_pos h] at h1
  rw [decide_eq_true h]
  have h1:bits .and .u64 (b:Int) 9223372036854775808=9223372036854775808:=h1
  clear h h2
  go_enter Tryz.func10,Tryz.ntmps10
  go_wp2
  exact bodyPost_ret (v:=.bool true) (by simp [results,Tryz.results10,go_sem]) rfl ⟨rfl,rfl⟩
 ·rw [if_neg h] at h1
  rw [decide_eq_false h]
  have h1:bits .and .u64 (b:Int) 9223372036854775808=0:=h1
  clear h h2
  go_enter Tryz.func10,Tryz.ntmps10
  go_wp2
  exact bodyPost_ret (v:=.bool false) (by simp [results,Tryz.results10,go_sem]) rfl ⟨rfl,rfl⟩
theorem finite_r {b:Nat} (hb:b < 18446744073709551616) (w:World):Calls Tryz.prog 9 #[.int .u64 (b:Int)] w fun e w'=>e=.returned (.bool (decide (fld b < 2047)))∧w=w':=by
 have C:=h_ (fun w=>field_r hb w)
 generalize fld b=f at *
 obtain ⟨g,hg⟩:∃ g,g=decide (f < 2047):=⟨_,rfl⟩
 have z1:decide ((f:Int) < 2047)=g:=by
  rw [hg]
  by_cases h:f < 2047
  ·have:(f:Int) < 2047:=by omega
   simp only [h,this]
  ·have:¬ (f:Int) < 2047:=by omega
   simp only [h,this]
 rw [← hg]
 have HG:=h_ hg
 clear hg
 go_enter Tryz.func9,Tryz.ntmps9
 go_wp2_with fail
 refine (C.out _).mono ?_
 rintro q w1 ⟨rfl,rfl⟩
 go_wp2
 refine bodyPost_ret (v:=.bool g) (by rw [HG.out]; simp [results,Tryz.results9,go_sem]) rfl ⟨rfl,rfl⟩
theorem kind_r {b:Nat} (hb:b < 18446744073709551616) (hf:fld b < 2047) (h0:¬ (fld b=0∧frc b=0)) (w:World):Calls Tryz.prog 13 #[.int .u64 (b:Int)] w fun e w'=>e=.returned (.int .i64 (if fld b=0 then 1 else 2))∧w=w':=by
 have C:=h_ (fun w=>field_r hb w)
 have h1:=and_frac hb
 have h3:b % 4503599627370496=frc b:=rfl
 rw [h3] at h1
 obtain ⟨k,hk⟩:∃ k:Int,k=if fld b=0 then 1 else 2:=⟨_,rfl⟩
 rw [← hk]
 generalize fld b=f at *
 generalize frc b=r at *
 clear h3
 by_cases hf0:f=0
 ·subst hf0
  obtain rfl:k=1:=hk
  have z1:((r:Int) == 0)=false:=by rw [beq_eq_false_iff_ne]; intro h; exact h0 ⟨rfl,by omega⟩
  have z2:(r == 0)=false:=by rw [beq_eq_false_iff_ne]; intro h; exact h0 ⟨rfl,h⟩
  clear h0 hf
  go_enter Tryz.func13,Tryz.ntmps13
  go_wp2_with fail
  refine (C.out _).mono ?_
  rintro q w1 ⟨rfl,rfl⟩
  go_wp2
  refine bodyPost_ret (v:=.int .i64 1) (by simp [results,Tryz.results13,go_sem]) rfl ⟨rfl,rfl⟩
 ·obtain rfl:k=2:=by rw [hk,if_neg hf0]
  have z1:((f:Int) == 0)=false:=by rw [beq_eq_false_iff_ne]; omega
  have z2:(f == 0)=false:=by rw [beq_eq_false_iff_ne]; omega
  have z3:decide ((f:Int) < 2047)=true:=decide_eq_true (by omega)
  clear h0 hf0
  go_enter Tryz.func13,Tryz.ntmps13
  go_wp2_with fail
  refine (C.out _).mono ?_
  rintro q w1 ⟨rfl,rfl⟩
  go_wp2
  refine bodyPost_ret (v:=.int .i64 2) (by simp [results,Tryz.results13,go_sem]) rfl ⟨rfl,rfl⟩
abbrev Lc (w:World) (b o m:Nat):Prop:=w.cell? ⟨b,o,none⟩=some (.int .u64 (m:Int))
theorem Lc.below {w w':World} {b o m:Nat} (h:Lc w b o m) (hb:Below w.heap.size w w'):Lc w' b o m:=cell_below hb (Nat.le_refl _) h
theorem Lc.drew {w:World} {b o m:Nat} (h:Lc w b o m):Lc w.drew b o m:=h
def Yk (w:World) (v:Value) (y:Dn):Prop:=∃ a k c,v=.agg #[.bool y.neg,.slice a k c,.int .i64 y.e,.int .u64 1]∧Cy w (.agg #[.bool y.neg,.slice a k c,.int .i64 y.e]) y
theorem Yk.below {w w':World} {v:Value} {y:Dn} (h:Yk w v y) (hb:Below w.heap.size w w'):Yk w' v y:=by
 obtain ⟨a,k,c,h1,h2⟩:=h; exact ⟨a,k,c,h1,h2.below hb⟩
theorem Yk.fm {w:World} {v:Value} {n:Bool} {m:Nat} {e:Int} (h:Yk w v ⟨n,m,e⟩):∃ a k c,v=.agg #[.bool n,.slice a k c,.int .i64 e,.int .u64 1]∧Cy w (.agg #[.bool n,.slice a k c,.int .i64 e]) ⟨n,m,e⟩:=h
theorem Kp.same {w:World} {g i:Nat} {t:TypeId} {cs:Array Value} {x:Value} (h:Blk w g t cs) (hx:cs[i]?=some x):Kp w (w.setCell ⟨g,i,none⟩ x):=by
 intro b o k z hk hc
 by_cases he:(⟨b,o,none⟩:Addr)=⟨g,i,none⟩
 ·injection he with e1 e2
  subst e1 e2
  have h1:=h.at o x hx
  rw [hc] at h1
  have:=Option.some.inj h1
  subst this
  have h2:=(h.set o (.int k z)).at o (.int k z) (by
   have hl:o < cs.size:=(Array.getElem?_eq_some_iff.1 hx).1
   simp [hl])
  exact h2
 ·rw [World.cell?_setCell_other _ _ _ _ (fun h=>he h.symm)]; exact hc
theorem Kp.setnl {w:World} {g i:Nat} {t:TypeId} {cs:Array Value} {x:Value} (h:Blk w g t cs) (hx:cs[i]?=some x) (hn:nlB x=true) (u:Value):Kp w (w.setCell ⟨g,i,none⟩ u):=Kp.set h hx (nl_of hn) u
theorem Kp.s4same {w:World} {g:Nat} {t:TypeId} {x0 x1 x2 x3:Value} (h:Blk w g t #[x0,x1,x2,x3]) (h0:nlB x0=true) (h1:nlB x1=true) (h2:nlB x2=true) {y:Value} (hy:x3=y) {a b c:Value} :
  Kp w ((((w.setCell ⟨g,0,none⟩ a).setCell ⟨g,1,none⟩ b).setCell ⟨g,2,none⟩ c).setCell ⟨g,3,none⟩ y):=by
 subst hy
 have k1:=h.set 0 a
 have k2:=k1.set 1 b
 have k3:=k2.set 2 c
 exact (((Kp.setnl (i:=0) h rfl h0 a).trans (Kp.setnl (i:=1) (x:=x1) k1 rfl h1 b)).trans (Kp.setnl (i:=2) (x:=x2) k2 rfl h2 c)).trans (Kp.same (i:=3) k3 rfl)
theorem lowest_r {w:World} {u:Value} {y:Dn} (hu:Yk w u y) (sd:Sd y) (h0:y.m ≠ 0) (hb:bl (bareN y).m≤60):Calls Tryz.prog 114 #[u] w fun e w'=>∃ r,e=.returned r∧Yk w' r (bareN y)∧Below w.heap.size w w':=by
 have CA:=h_ (fun w u (h:Cy w u y)=>Bare_s h.ry sd)
 have bd:=sd.bare
 have hm0:(bareN y).m ≠ 0:=fun h=>h0 (bareN_m0.1 h)
 obtain ⟨a1,k1,c1,rfl,hx⟩:=hu
 have HT:=h_ hx.tab
 generalize bareN y=D at *
 obtain ⟨n,m,e⟩:=D
 simp only at hm0 hb bd
 have hs:signN ⟨n,m,e⟩ ≠ 0:=by unfold signN; rw [if_neg hm0]; show (if n=true then (-1:Int) else 1) ≠ 0; cases n <;> decide
 have CS:=h_ (fun w u (h:Cy w u ⟨n,m,e⟩)=>Sign_d h.ry)
 generalize signN ⟨n,m,e⟩=sg at *
 have z1:(sg == 0)=false:=beq_eq_false_iff_ne.2 hs
 have hm64:m < 18446744073709551616:=Nat.lt_of_lt_of_le (lt_bl m) (Nat.le_trans (Nat.pow_le_pow_right (by decide) (show bl m≤64 by omega)) (by decide))
 have CD:Hid (∀ w,Calls Tryz.prog 148 #[.int .u64 0,.int .u64 (m:Int),.int .u64 1] w fun e w'=>e=.returned (.tuple #[.int .u64 (m:Int),.int .u64 0])∧Below w.heap.size w w'):=by
  intro w
  have h:=div64 0 m 1 (by decide) (by decide) hm64 w
  simpa [Nat.mod_one] using h
 have HX:=h_ hx
 have HM:=h_ hm0
 have HM64:=h_ hm64
 have HB:=h_ hb
 have BD:=h_ bd
 clear hx sd h0 hb bd hm0 hs hm64
 go_enter Tryz.func114,Tryz.ntmps114
 have F0:=h_ (Fz.two w 56 #[.bool y.neg,.slice a1 k1 c1,.int .i64 y.e,.int .u64 1] 56 #[.bool false,.slice none 0 0,.int .i64 0,.int .u64 0])
 have X0:=h_ ((HX.out.alloc (.cells #[.bool y.neg,.slice a1 k1 c1,.int .i64 y.e,.int .u64 1] 56)).alloc (.cells #[.bool false,.slice none 0 0,.int .i64 0,.int .u64 0] 56))
 clear HX
 go_upto_region 1 with (fail)
 generalize World.alloc (World.alloc _ _) _=w0 at F0 X0 ⊢
 have c0_0:=F0.out.c4 0 rfl
 have c1_0:=F0.out.c4 1 rfl
 go_wp2_with fail
 clear c0_0 c1_0
 refine (CA.out _ _ X0.out).mono ?_
 rintro q w1 ⟨u,rfl,hu,hb⟩
 have F1:=h_ (F0.out.call hb)
 have X1:=h_ (X0.out.below hb)
 clear F0 X0
 have U1:=h_ (hu)
 clear hb
 have c0_1:=F1.out.c4 0 rfl
 have c1_1:=F1.out.c4 1 rfl
 clear X1
 obtain ⟨a3,k3,c3,rfl⟩:=U1.out.fm
 go_upto_region 2 with (fail)
 clear c0_1 c1_1
 have F2:=h_ (F1.out.new 42 #[.bool n,.slice a3 k3 c3,.int .i64 e])
 have U2:=h_ (U1.out.alloc (.cells #[.bool n,.slice a3 k3 c3,.int .i64 e] 42))
 clear F1 U1
 obtain ⟨g1,hg1⟩:∃ g,g=(World.heap w1).size:=⟨_,rfl⟩
 rw [← hg1] at F2 ⊢
 clear hg1
 simp only [List.nil_append,List.cons_append] at F2
 generalize World.alloc w1 _=W2 at F2 U2 ⊢
 have c0_2:=F2.out.c4 0 rfl
 have c1_2:=F2.out.c4 1 rfl
 have c2_2:=F2.out.c3 2 rfl
 go_wp2_with fail
 clear c0_2 c1_2 c2_2
 refine (CS.out _ _ U2.out).mono ?_
 rintro q w3 ⟨rfl,hb⟩
 have F3:=h_ (F2.out.call hb)
 have U3:=h_ (U2.out.below hb)
 clear F2 U2
 clear hb
 have c0_3:=F3.out.c4 0 rfl
 have c1_3:=F3.out.c4 1 rfl
 have c2_3:=F3.out.c3 2 rfl
 obtain ⟨rfl,b3,off3,rfl,x1⟩:=U3.out.dm.one HM.out HM64.out
 go_wp2
 have L3:Hid (Lc _ b3 off3 m):=x1
 clear x1
 refine wp_loop_rounds 1 ?_
 rw [rounds_succ]
 go_wp2
 refine wp_loop_rounds 2 ?_
 rw [rounds_succ]
 go_upto_region 11 with (fail)
 clear c0_3 c1_3 c2_3
 have FCD:=h_ (And.intro ((F3.out.drew).c3 2 rfl).1 ((L3.out.drew)))
 go_region_held3 (fun w'=>(w'.cell? ⟨g1,0,none⟩=some (.bool n)∧w'.cell? ⟨g1,1,none⟩=some (.slice (some ⟨b3,off3,none⟩) 1 c3)∧w'.cell? ⟨g1,2,none⟩=some (.int .i64 e))∧w'.cell? ⟨b3,off3,none⟩=some (.int .u64 (m:Int))) (first | with_reducible exact FCD.out | with_reducible exact FC.out) (first | (go_at_call 148; (with_reducible refine (CD.out _).mono ?_); rintro q ww4 ⟨rfl,hb⟩; have F4:=h_ ((F3.out.drew).call hb); have U4:=h_ ((U3.out.drew).below hb); have L4:=h_ ((L3.out.drew).below hb); have FC:=h_ (And.intro (F4.out.c3 2 rfl).1 (L4.out)); have c0_4:=F4.out.c4 0 rfl; have c1_4:=F4.out.c4 1 rfl; have c2_4:=F4.out.c3 2 rfl; clear hb))
 go_wp2
 rw [rounds_succ]
 go_wp2
 refine wp_loop_rounds 1 ?_
 rw [rounds_succ]
 go_wp2_with (refine wpList_mk (w0:=ww4) rfl (.tmp 77) 40 rfl ww4.heap.size 22 (.int .u64 0) 8 Tryz.underlying40 Tryz.info22 rfl (by decide) _ _ 1 rfl rfl (by decide) (Below.refl _ _) (Nat.le_refl _) ?_)
 intro wm ho1 hb1 hB1
 clear c0_4 c1_4 c2_4
 have hc0:=(F4.out.call hb1).c3 2 rfl
 have hl0:wm.cell? ⟨b3,off3,none⟩=some (.int .u64 (m:Int)):=L4.out.below hb1
 obtain ⟨gN,hgN⟩:∃ g,g=(World.heap ww4).size:=⟨_,rfl⟩
 have HGN:=h_ hgN
 rw [← hgN] at ho1 ⊢
 have HB1:=h_ hb1
 have HBS:=h_ hB1
 clear hgN hb1 hB1
 go_wp2
 refine wp_loop_rounds 2 ?_
 rw [rounds_succ]
 go_wp2_with fail
 refine (CD.out _).mono ?_
 rintro q wq ⟨rfl,hb⟩
 clear hc0 hl0
 have ho2:=h_ (own_below ho1.out hb)
 have hf0:=ho2.out.frozenAt 0
 have hcc:wq.cell? ⟨gN,0,none⟩=some (.int .u64 0):=by rw [ho2.out.cellAt 0 (by decide)]; rfl
 have HBX:Hid (Below ww4.heap.size ww4 (wq.setCell ⟨gN,0,none⟩ (.int .u64 (m:Int)))):=((HB1.out.trans (hb.mono HBS.out)).setCell (by rw [HGN.out]; exact Nat.le_refl _) _)
 have HOX:=h_ (ho2.out.stored 0 (.int .u64 (m:Int))).1
 have hc0:=(F4.out.call (HB1.out.trans (hb.mono HBS.out))).c3 2 rfl
 clear hb
 go_wp2
 rw [rounds_succ]
 go_upto_region 19 with (fail)
 clear hc0 hf0 hcc
 generalize World.setCell _ _ _=wS at HBX HOX ⊢
 have F5:=h_ (F4.out.call HBX.out)
 have T5:=h_ (HT.out.below F5.out.b)
 have S5:=h_ (raw_rd (Raw.of_own (L:=[m]) HOX.out T5.out (by intro x hx; simp at hx; rw [hx]; exact HM64.out)))
 clear F4 U4 L4 HBX HOX HB1 HBS HGN ho1 ho2
 have CBR:=h_ (fun w (h:Rd w (.slice (some ⟨gN,0,none⟩) 1 1) m)=>bare_r h)
 have c0_5:=F5.out.c4 0 rfl
 have c1_5:=F5.out.c4 1 rfl
 have c2_5:=F5.out.c3 2 rfl
 clear c0_5 c1_5 c2_5
 have FCD:=h_ (((F5.out.drew).c3 2 rfl).1)
 go_region_held3 (fun w'=>(w'.cell? ⟨g1,0,none⟩=some (.bool n)∧w'.cell? ⟨g1,1,none⟩=some (.slice (some ⟨b3,off3,none⟩) 1 c3)∧w'.cell? ⟨g1,2,none⟩=some (.int .i64 e))) (first | with_reducible exact FCD.out | with_reducible exact FC.out | exact ((F6.out.s4 1 rfl (.bool n) (.slice b5 f5 d5) (.int .i64 e) (.int .u64 1)).c3 2 rfl).1) (first | (go_at_call 70; (with_reducible refine (CBR.out _ (S5.out.drew)).mono ?_); rintro q ww6 ⟨u5,rfl,hu,hb⟩; have F6:=h_ ((F5.out.drew).call hb); have S6:=h_ ((S5.out.drew).below hb); have R6:=h_ (hu); obtain ⟨b5,f5,d5,rfl⟩:=R6.out.form; have FC:=h_ ((F6.out.c3 2 rfl).1); have c0_6:=F6.out.c4 0 rfl; have c1_6:=F6.out.c4 1 rfl; have c2_6:=F6.out.c3 2 rfl; clear hb))
 go_wp2
 have hw1:IntKind.u64.wrap 1=1:=rfl
 rw [hw1]
 clear hw1
 have f:=F6.out.s4 1 rfl (.bool n) (.slice b5 f5 d5) (.int .i64 e) (.int .u64 1)
 have hcy:=(Cy.mk (n:=n) (e:=e) R6.out (by have:=HB.out; omega) (by have:=BD.out; omega)).setz HT.out f.b (F6.out.box 1 _ _ _ rfl) rfl (fun k _ hk=>(((Below.heap_setCell _ _ _ k hk).trans (Below.heap_setCell _ _ _ k hk)).trans (Below.heap_setCell _ _ _ k hk)).trans (Below.heap_setCell _ _ _ k hk))
 generalize World.setCell (World.setCell (World.setCell (World.setCell _ _ _) _ _) _ _) _ _=W at f hcy ⊢
 have g1':=f.c4 1 rfl
 refine bodyPost_ret (v:=.agg #[.bool n,.slice b5 f5 d5,.int .i64 e,.int .u64 1]) (by simp [results,Tryz.results114,go_sem,g1']) rfl ?_
 exact ⟨_,rfl,⟨_,_,_,rfl,hcy⟩,f.b⟩
theorem Yk.alloc {w:World} {v:Value} {y:Dn} (h:Yk w v y) (o:Obj):Yk (w.alloc o) v y:=by
 obtain ⟨a,k,c,h1,h2⟩:=h; exact ⟨a,k,c,h1,h2.alloc o⟩
theorem Of_no {w:World} {u:Value} {y:Dn} (hu:Cy w u y) (sd:Sd y) (he:(bareN y).e < -62):Calls Tryz.prog 115 #[u] w fun e w'=>e=.returned (.tuple #[.agg #[.int .i64 0,.int .i64 0],.bool false])∧Below w.heap.size w w':=by
 have CA:=h_ (fun w u (h:Cy w u y)=>Bare_s h.ry sd)
 obtain ⟨a1,k1,c1,rfl⟩:=hu.form
 have HX:=h_ hu
 generalize bareN y=D at *
 obtain ⟨n,m,e⟩:=D
 simp only at he
 have z1:decide (e < -62)=true:=decide_eq_true he
 clear hu sd he
 go_enter Tryz.func115,Tryz.ntmps115
 have F0:=h_ (Fx.two w 42 #[.bool y.neg,.slice a1 k1 c1,.int .i64 y.e] 133 #[.int .i64 0,.int .i64 0] rfl rfl)
 have X0:=h_ ((HX.out.alloc (.cells #[.bool y.neg,.slice a1 k1 c1,.int .i64 y.e] 42)).alloc (.cells #[.int .i64 0,.int .i64 0] 133))
 clear HX
 go_upto_region 1 with (fail)
 generalize World.alloc (World.alloc _ _) _=w0 at F0 X0 ⊢
 have c0_0:=F0.out.c3 0 rfl
 have c1_0:=F0.out.c2 1 rfl
 go_wp2_with fail
 clear c0_0 c1_0
 refine (CA.out _ _ X0.out).mono ?_
 rintro q w1 ⟨u,rfl,hu,hb⟩
 have F1:=h_ (F0.out.call hb)
 have X1:=h_ (X0.out.below hb)
 clear F0 X0
 have U1:=h_ (hu)
 clear hb
 have c0_1:=F1.out.c3 0 rfl
 have c1_1:=F1.out.c2 1 rfl
 clear X1
 obtain ⟨a3,k3,c3,rfl⟩:=U1.out.fm
 go_upto_region 2 with (fail)
 clear c0_1 c1_1
 obtain ⟨f,p⟩:=F1.out.s3 0 rfl (.bool n) (.slice a3 k3 c3) (.int .i64 e) rfl rfl rfl
 generalize (World.setCell (World.setCell (World.setCell _ _ _) _ _) _ _)=W at f p ⊢
 have F2:=h_ (f)
 have U2:=h_ (U1.out.kp p)
 clear F1 U1
 clear f p
 simp only [List.set_cons_zero] at F2
 have c0_2:=F2.out.c3 0 rfl
 have c1_2:=F2.out.c2 1 rfl
 go_wp2
 obtain ⟨f0,p0⟩:=F2.out.s2 1 rfl (.int .i64 0) (.int .i64 0) rfl rfl
 have p:=p0
 have f:=f0
 clear f0 p0
 generalize (World.setCell (World.setCell _ _ _) _ _)=W at f p ⊢
 have g1:=f.c2 1 rfl
 refine bodyPost_ret (v:=.tuple #[.agg #[.int .i64 0,.int .i64 0],.bool false]) (by simp [results,Tryz.results115,go_sem,g1]) rfl ?_
 exact ⟨rfl,f.b⟩
theorem esize_r (w:World) (n:Int) (h:-9223372036854775808 < n∧n < 9223372036854775808):Calls Tryz.prog 149 #[.int .i64 n] w fun e w'=>e=.returned (.int .u64 (n.natAbs:Int))∧Below w.heap.size w w':=by
 obtain ⟨h1,h2⟩:=h
 by_cases h0:n < 0
 ·have z:decide (n < 0)=true:=decide_eq_true h0
  have q1:IntKind.u64.wrap (-(IntKind.u64.wrap n))=(n.natAbs:Int):=by simp only [IntKind.wrap_u64]; omega
  have q2:IntKind.u64.wrap (0 - (IntKind.u64.wrap n))=(n.natAbs:Int):=by simp only [IntKind.wrap_u64]; omega
  go_enter Tryz.func149,Tryz.ntmps149
  go_wp2
  go_ret
  exact ⟨rfl,Below.refl _ _⟩
 ·have z:decide (n < 0)=false:=decide_eq_false h0
  have q1:IntKind.u64.wrap n=(n.natAbs:Int):=by rw [IntKind.wrap_u64]; omega
  go_enter Tryz.func149,Tryz.ntmps149
  go_wp2
  go_ret
  exact ⟨rfl,Below.refl _ _⟩
theorem Low_r (w:World) (M:Int) (k g:Nat) (hM:-9223372036854775808 < M∧M < 9223372036854775808) (hk:0 < k∧k < 9223372036854775808) (hg:g=Nat.gcd M.natAbs k) {m1:Int} {k1:Nat} (hm1:M.tdiv (g:Int)=m1) (hk1:k / g=k1) :
  Calls Tryz.prog 116 #[.agg #[.int .i64 M,.int .i64 (k:Int)]] w fun e w'=>e=.returned (.tuple #[.agg #[.int .i64 m1,.int .i64 (k1:Int)],.int .i64 0])∧Below w.heap.size w w':=by
 have CS:=h_ (fun w=>esize_r w M hM)
 have HG:=h_ hg
 obtain ⟨a,ha⟩:∃ a,a=M.natAbs:=⟨_,rfl⟩
 have HA:=h_ ha
 have HM:=h_ hM
 have g0:0 < g:=hg ▸ Nat.gcd_pos_of_pos_right _ hk.1
 have gk:g≤k:=hg ▸ Nat.gcd_le_right _ hk.1
 rw [← ha] at CS
 have q0:IntKind.u64.wrap (k:Int)=(k:Int):=by rw [IntKind.wrap_u64]; omega
 have z0:decide ((k:Int) < 1)=false:=decide_eq_false (by omega)
 have z1:decide (k < 1)=false:=decide_eq_false (by omega)
 have qg:IntKind.i64.wrap (g:Int)=(g:Int):=IntWalk.i64_in _ (by omega)
 have g1:¬ (g:Int)=0:=by omega
 have g2:((g:Int) == 0)=false:=by rw [beq_eq_false_iff_ne]; exact g1
 have qm:IntKind.i64.wrap m1=m1:=by
  have h1:(M.tdiv (g:Int)).natAbs≤M.natAbs:=by rw [Int.natAbs_tdiv]; exact Nat.div_le_self _ _
  rw [hm1] at h1
  exact IntWalk.i64_in _ (by omega)
 have hk3:(k:Int) / (g:Int)=(k1:Int):=by rw [← hk1]; rfl
 have hk4:(k:Int).tdiv (g:Int)=(k1:Int):=by rw [← hk1]; rfl
 have qk:IntKind.i64.wrap (k1:Int)=(k1:Int):=by
  have h1:k1≤k:=hk1 ▸ Nat.div_le_self _ _
  exact IntWalk.i64_in _ (by omega)
 have ha2:a < 9223372036854775808:=by omega
 obtain ⟨hk1,hk2⟩:=hk
 clear ha hg hM hk1
 go_enter Tryz.func116,Tryz.ntmps116
 have F0:=h_ (Fx.two w 133 #[.int .i64 M,.int .i64 (k:Int)] 133 #[.int .i64 0,.int .i64 0] rfl rfl)
 go_upto_region 1 with (fail)
 generalize World.alloc (World.alloc _ _) _=w0 at F0 ⊢
 have c0_0:=F0.out.c2 0 rfl
 have c1_0:=F0.out.c2 1 rfl
 go_upto_region 3 with (fail)
 clear c0_0 c1_0
 have FCD:=h_ (((F0.out.drew).c2 0 rfl).1)
 go_region_held3 (fun w'=>(w'.cell? ⟨w.heap.size,0,none⟩=some (.int .i64 M)∧w'.cell? ⟨w.heap.size,1,none⟩=some (.int .i64 (k:Int)))) (first | with_reducible exact FCD.out | with_reducible exact FC.out) (first | (go_at_call 149; (with_reducible refine (CS.out _).mono ?_); rintro q ww1 ⟨rfl,hb⟩; have F1:=h_ ((F0.out.drew).call hb); have FC:=h_ ((F1.out.c2 0 rfl).1); have c0_1:=F1.out.c2 0 rfl; have c1_1:=F1.out.c2 1 rfl; clear hb))
 go_wp2
 go_loopw [4,5] (fun ta tb wr=>∃ (x y:Nat),ta=.int .u64 (x:Int)∧tb=.int .u64 (y:Int)∧Hid (x < 9223372036854775808∧y < 9223372036854775808∧Nat.gcd x y=g)∧Hid (Fx w wr [(w.heap.size,133,#[.int .i64 M,.int .i64 (k:Int)]),(w.heap.size+1,133,#[.int .i64 0,.int .i64 0])])) (fun _ tb _=>(intOf tb).toNat)
 case atStart=>exact ⟨a,k,rfl,rfl,⟨ha2,hk2,by rw [HG.out,HA.out]⟩,F1⟩
 case round =>
  clear F1
  obtain ⟨x,y,rfl,rfl,hI,hF⟩:=hrel
  by_cases hy:y=0
  ·have hx:x=g:=by have:=hI.out.2.2; rw [hy,Nat.gcd_zero_right] at this; exact this
   have t1:decide (0 < (y:Int))=false:=decide_eq_false (by omega)
   have t2:decide (0 < y)=false:=decide_eq_false (by omega)
   clear hI
   have c0_1:=hF.out.c2 0 rfl
   have c1_1:=hF.out.c2 1 rfl
   have d0_1:=hF.out.drew.c2 0 rfl
   have d1_1:=hF.out.drew.c2 1 rfl
   rw [hx]
   clear hy hx
   go_wp2_with fail
   go_region
   all_goals
   go_wp2
   have f:=(hF.out.s2 1 rfl (.int .i64 m1) (.int .i64 (k1:Int)) rfl rfl).1.drew
   generalize World.drew (World.setCell (World.setCell _ _ _) _ _)=W at f ⊢
   have g1:=f.c2 1 rfl
   refine bodyPost_ret (v:=.tuple #[.agg #[.int .i64 m1,.int .i64 (k1:Int)],.int .i64 0]) (by simp [results,Tryz.results116,go_sem,g1]) rfl ?_
   exact ⟨rfl,f.b⟩
  ·have t1:decide (0 < (y:Int))=true:=decide_eq_true (by omega)
   have t2:decide (0 < y)=true:=decide_eq_true (by omega)
   have t3:¬ (y:Int)=0:=by omega
   have t4:((y:Int) == 0)=false:=by rw [beq_eq_false_iff_ne]; exact t3
   obtain ⟨z,hz⟩:∃ z,z=x % y:=⟨_,rfl⟩
   have hzy:z < y:=hz ▸ Nat.mod_lt _ (by omega)
   have t5:(x:Int).tmod (y:Int)=(z:Int):=by rw [hz]; rfl
   have t6:IntKind.u64.wrap (z:Int)=(z:Int):=by have:=hI.out.2.1; rw [IntKind.wrap_u64]; omega
   have HI:Hid (y < 9223372036854775808∧z < 9223372036854775808∧Nat.gcd y z=g):=⟨hI.out.2.1,by have:=hI.out.2.1; omega,by
    have h3:=hI.out.2.2
    rw [hz,← h3,Nat.gcd_comm x y,Nat.gcd_rec y x,Nat.gcd_comm]⟩
   clear hI hy hz
   go_wp2_with fail
   go_quiet (fail)
   go_wp2
   go_roundw
   case rel=>exact ⟨y,z,rfl,rfl,HI,hF.out.drewN _⟩
   case measure=>simp only [intOf]; omega
theorem Of_long {w:World} {u:Value} {y:Dn} (hu:Cy w u y) (sd:Sd y) (he:-62≤(bareN y).e) (hn:62 < (bl (bareN y).m:Int)+max (bareN y).e 0) :
  Calls Tryz.prog 115 #[u] w fun e w'=>e=.returned (.tuple #[.agg #[.int .i64 0,.int .i64 0],.bool false])∧Below w.heap.size w w':=by
 have CA:=h_ (fun w u (h:Cy w u y)=>Bare_s h.ry sd)
 have sb:=sd.bare
 generalize bareN y=B at *
 obtain ⟨n,m,e⟩:=B
 simp only at he hn sb
 obtain ⟨p,hp⟩:∃ p:Nat,max e 0=(p:Int):=⟨(max e 0).toNat,by omega⟩
 obtain ⟨l,hl⟩:∃ l:Nat,bl m=l:=⟨_,rfl⟩
 obtain ⟨s,hs⟩:∃ s:Nat,l+p=s:=⟨_,rfl⟩
 have CB:Hid (∀ w u,Dg w u m→Calls Tryz.prog 36 #[u] w fun e w'=>e=.returned (.int .i64 (l:Int))∧Below w.heap.size w w'):=fun w u h=>by
  have:=bits_r (h.rd (by omega)); rw [hl] at this; exact this
 have hw:IntKind.i64.wrap ((l:Int)+(p:Int))=(s:Int):=by rw [← hs]; exact IntWalk.i64_in _ (by omega)
 have z1:decide (e < -62)=false:=decide_eq_false (by omega)
 have z2:decide ((62:Int) < (s:Int))=true:=decide_eq_true (by omega)
 have z3:decide (62 < s)=true:=decide_eq_true (by omega)
 obtain ⟨yn,ym,ye⟩:=y
 obtain ⟨a1,k1,c1,rfl⟩:=hu.fm
 have HX:=h_ hu
 clear hu sd sb he hn hl hs
 go_enter Tryz.func115,Tryz.ntmps115
 have F0:=h_ (Fx.two w 42 #[.bool yn,.slice a1 k1 c1,.int .i64 ye] 133 #[.int .i64 0,.int .i64 0] rfl rfl)
 have X0:=h_ ((HX.out.alloc (.cells #[.bool yn,.slice a1 k1 c1,.int .i64 ye] 42)).alloc (.cells #[.int .i64 0,.int .i64 0] 133))
 clear HX
 go_upto_region 1 with (fail)
 generalize World.alloc (World.alloc _ _) _=w0 at F0 X0 ⊢
 have c0_0:=F0.out.c3 0 rfl
 have c1_0:=F0.out.c2 1 rfl
 go_wp2_with fail
 clear c0_0 c1_0
 refine (CA.out _ _ X0.out).mono ?_
 rintro q w1 ⟨u,rfl,hu,hb⟩
 have F1:=h_ (F0.out.call hb)
 have X1:=h_ (X0.out.below hb)
 clear F0 X0
 have U1:=h_ (hu)
 clear hb
 have c0_1:=F1.out.c3 0 rfl
 have c1_1:=F1.out.c2 1 rfl
 clear X1
 obtain ⟨a3,k3,c3,rfl⟩:=U1.out.fm
 go_upto_region 2 with (fail)
 clear c0_1 c1_1
 obtain ⟨f,p⟩:=F1.out.s3 0 rfl (.bool n) (.slice a3 k3 c3) (.int .i64 e) rfl rfl rfl
 generalize (World.setCell (World.setCell (World.setCell _ _ _) _ _) _ _)=W at f p ⊢
 have F2:=h_ (f)
 have U2:=h_ (U1.out.kp p)
 clear F1 U1
 clear f p
 simp only [List.set_cons_zero] at F2
 have c0_2:=F2.out.c3 0 rfl
 have c1_2:=F2.out.c2 1 rfl
 go_upto_region 4 with (fail)
 clear c0_2 c1_2
 have FCD:=h_ (((F2.out.drew).c3 0 rfl).1)
 go_region_held3 (fun w'=>(w'.cell? ⟨w.heap.size,0,none⟩=some (.bool n)∧w'.cell? ⟨w.heap.size,1,none⟩=some (.slice a3 k3 c3)∧w'.cell? ⟨w.heap.size,2,none⟩=some (.int .i64 e))) (first | with_reducible exact FCD.out | with_reducible exact FC.out) (first | (go_at_call 36; (with_reducible refine (CB.out _ _ (U2.out.drew).dm).mono ?_); rintro q ww3 ⟨rfl,hb⟩; have F3:=h_ ((F2.out.drew).call hb); have U3:=h_ ((U2.out.drew).below hb); have FC:=h_ ((F3.out.c3 0 rfl).1); have c0_3:=F3.out.c3 0 rfl; have c1_3:=F3.out.c2 1 rfl; clear hb))
 all_goals
  go_wp2
  obtain ⟨f0,p0⟩:=F3.out.s2 1 rfl (.int .i64 0) (.int .i64 0) rfl rfl
  have p:=p0
  have f:=f0
  clear f0 p0
  generalize (World.setCell (World.setCell _ _ _) _ _)=W at f p ⊢
  have g1:=f.c2 1 rfl
  refine bodyPost_ret (v:=.tuple #[.agg #[.int .i64 0,.int .i64 0],.bool false]) (by simp [results,Tryz.results115,go_sem,g1]) rfl ?_
  exact ⟨rfl,f.b⟩
def ofM (y:Dn):Int:=if y.neg then -((y.m * 2^(max y.e 0).toNat:Nat):Int) else ((y.m * 2^(max y.e 0).toNat:Nat):Int)
def ofK (y:Dn):Nat:=2^(max (-y.e) 0).toNat
theorem wrap_pow {r:Nat} (h:r≤62):wrap64 ((2:Int)^r)=((2^r:Nat):Int):=by
 have h1:(2:Nat)^r≤2^62:=Nat.pow_le_pow_right (by decide) h
 have h2:((2:Int)^r)=((2^r:Nat):Int):=by rw [Int.natCast_pow]; rfl
 rw [h2]
 have h4:(2:Nat)^62=4611686018427387904:=by decide
 rw [h4] at h1
 generalize 2^r=x at *
 exact IntWalk.wrap64_in (x:Int) (by omega)
theorem Of_r {w:World} {u:Value} {y:Dn} (hu:Cy w u y) (sd:Sd y) (he:-62≤(bareN y).e) (hn:(bl (bareN y).m:Int)+max (bareN y).e 0≤62) :
  Calls Tryz.prog 115 #[u] w fun e w'=>e=.returned (.tuple #[.agg #[.int .i64 (ofM (bareN y)),.int .i64 (ofK (bareN y):Nat)],.bool true])∧Below w.heap.size w w':=by
 have CA:=h_ (fun w u (h:Cy w u y)=>Bare_s h.ry sd)
 have sb:=sd.bare
 generalize bareN y=B at *
 obtain ⟨n,m,e⟩:=B
 simp only at he hn sb
 obtain ⟨p,hp⟩:∃ p:Nat,max e 0=(p:Int):=⟨(max e 0).toNat,by omega⟩
 obtain ⟨l,hl⟩:∃ l:Nat,bl m=l:=⟨_,rfl⟩
 obtain ⟨s,hs⟩:∃ s:Nat,l+p=s:=⟨_,rfl⟩
 have CB:Hid (∀ w u,Dg w u m→Calls Tryz.prog 36 #[u] w fun e w'=>e=.returned (.int .i64 (l:Int))∧Below w.heap.size w w'):=fun w u h=>by
  have:=bits_r (h.rd (by omega)); rw [hl] at this; exact this
 have hw:IntKind.i64.wrap ((l:Int)+(p:Int))=(s:Int):=by rw [← hs]; exact IntWalk.i64_in _ (by omega)
 have z1:decide (e < -62)=false:=decide_eq_false (by omega)
 have z2:decide ((62:Int) < (s:Int))=false:=decide_eq_false (by omega)
 have z3:decide (62 < s)=false:=decide_eq_false (by omega)
 have CL:Hid (∀ w u,Dg w u m→Calls Tryz.prog 125 #[u,.int .i64 (p:Int)] w (RetDgE (m * 2^p) 0 w)):=fun w u h=>shl_s (h.rd (by omega)) p (by omega)
 obtain ⟨q,hq⟩:∃ q,m * 2^p=q:=⟨_,rfl⟩
 rw [hq] at CL
 have hq2:bl q≤62:=by
  rw [← hq]
  by_cases h0:m=0
  ·subst h0; rw [Nat.zero_mul]; exact Nat.zero_le _
  ·rw [bl_mul_pow h0]; omega
 have hq3:q < 4611686018427387904:=Nat.lt_of_lt_of_le (lt_bl q) (Nat.le_trans (Nat.pow_le_pow_right (by decide) hq2) (by decide))
 have CM:Hid (∀ w u,Dg w u q→Calls Tryz.prog 126 #[u] w fun e w'=>e=.returned (.tuple #[.int .u64 (q:Int),.bool true])∧Below w.heap.size w w'):=fun w u h=>by
  have:=small_r (h.rd (by omega)); rw [if_pos (by omega),decide_eq_true (by omega)] at this; exact this
 obtain ⟨r,hr⟩:∃ r:Nat,max (-e) 0=(r:Int):=⟨(max (-e) 0).toNat,by omega⟩
 have hr62:r≤62:=by omega
 have hk:=wrap_pow hr62
 obtain ⟨k,hkk⟩:∃ k,2^r=k:=⟨_,rfl⟩
 rw [hkk] at hk
 have hk2:wrap64 ((2:Int)^min r 64)=(k:Int):=by rw [Nat.min_eq_left (by omega)]; exact hk
 have en:IntKind.i64.wrap (-e)=-e:=IntWalk.i64_in _ (by omega)
 have hmq:IntKind.i64.wrap (q:Int)=(q:Int):=IntWalk.i64_in _ (by omega)
 have hmq2:IntKind.i64.wrap (-(q:Int))=-(q:Int):=IntWalk.i64_in _ (by omega)
 have hr3:((r:Int).toNat)=r:=Int.toNat_natCast r
 have hr4:¬ (r:Int) < 0:=by omega
 have e1:ofM ⟨n,m,e⟩=if n then -(q:Int) else (q:Int):=by unfold ofM; simp only; rw [hp,Int.toNat_natCast,hq]
 have e2:ofK ⟨n,m,e⟩=k:=by unfold ofK; simp only; rw [hr,Int.toNat_natCast,hkk]
 rw [e1,e2]
 obtain ⟨yn,ym,ye⟩:=y
 obtain ⟨a1,k1,c1,rfl⟩:=hu.fm
 have HX:=h_ hu
 clear hu sd sb he hn hl hs hq hq2 hr62 hkk e1 e2
 go_enter Tryz.func115,Tryz.ntmps115
 have F0:=h_ (Fx.two w 42 #[.bool yn,.slice a1 k1 c1,.int .i64 ye] 133 #[.int .i64 0,.int .i64 0] rfl rfl)
 have X0:=h_ ((HX.out.alloc (.cells #[.bool yn,.slice a1 k1 c1,.int .i64 ye] 42)).alloc (.cells #[.int .i64 0,.int .i64 0] 133))
 clear HX
 go_upto_region 1 with (fail)
 generalize World.alloc (World.alloc _ _) _=w0 at F0 X0 ⊢
 have c0_0:=F0.out.c3 0 rfl
 have c1_0:=F0.out.c2 1 rfl
 go_wp2_with fail
 clear c0_0 c1_0
 refine (CA.out _ _ X0.out).mono ?_
 rintro q w1 ⟨u,rfl,hu,hb⟩
 have F1:=h_ (F0.out.call hb)
 have X1:=h_ (X0.out.below hb)
 clear F0 X0
 have U1:=h_ (hu)
 clear hb
 have c0_1:=F1.out.c3 0 rfl
 have c1_1:=F1.out.c2 1 rfl
 clear X1
 obtain ⟨a3,k3,c3,rfl⟩:=U1.out.fm
 go_upto_region 2 with (fail)
 clear c0_1 c1_1
 obtain ⟨f,p⟩:=F1.out.s3 0 rfl (.bool n) (.slice a3 k3 c3) (.int .i64 e) rfl rfl rfl
 generalize (World.setCell (World.setCell (World.setCell _ _ _) _ _) _ _)=W at f p ⊢
 have F2:=h_ (f)
 have U2:=h_ (U1.out.kp p)
 clear F1 U1
 clear f p
 simp only [List.set_cons_zero] at F2
 have c0_2:=F2.out.c3 0 rfl
 have c1_2:=F2.out.c2 1 rfl
 go_upto_region 4 with (fail)
 clear c0_2 c1_2
 have FCD:=h_ (((F2.out.drew).c3 0 rfl).1)
 go_region_held3 (fun w'=>(w'.cell? ⟨w.heap.size,0,none⟩=some (.bool n)∧w'.cell? ⟨w.heap.size,1,none⟩=some (.slice a3 k3 c3)∧w'.cell? ⟨w.heap.size,2,none⟩=some (.int .i64 e))) (first | with_reducible exact FCD.out | with_reducible exact FC.out) (first | (go_at_call 36; (with_reducible refine (CB.out _ _ (U2.out.drew).dm).mono ?_); rintro q ww3 ⟨rfl,hb⟩; have F3:=h_ ((F2.out.drew).call hb); have U3:=h_ ((U2.out.drew).below hb); have FC:=h_ ((F3.out.c3 0 rfl).1); have c0_3:=F3.out.c3 0 rfl; have c1_3:=F3.out.c2 1 rfl; clear hb))
 all_goals
  go_wp2_with fail
  clear c0_3 c1_3
  refine (CL.out _ _ U3.out.dm).mono ?_
  rintro q w4 ⟨u,rfl,hu,hb⟩
  have F4:=h_ (F3.out.call hb)
  have U4:=h_ (U3.out.below hb)
  clear F3 U3
  have V4:=h_ (hu)
  clear hb
  have c0_4:=F4.out.c3 0 rfl
  have c1_4:=F4.out.c2 1 rfl
  obtain ⟨a4,k4,c4,rfl⟩:=V4.out.form
  go_wp2_with fail
  clear c0_4 c1_4
  refine (CM.out _ _ V4.out).mono ?_
  rintro q w5 ⟨rfl,hb⟩
  have F5:=h_ (F4.out.call hb)
  have U5:=h_ (U4.out.below hb)
  have V5:=h_ (V4.out.below hb)
  clear F4 U4 V4
  clear hb
  have c0_5:=F5.out.c3 0 rfl
  have c1_5:=F5.out.c2 1 rfl
  clear U5 V5
  go_upto_region 10 with (fail)
  clear c0_5 c1_5
  have F6:=h_ (F5.out.new 133 #[.int .i64 (q:Int),.int .i64 (k:Int)] rfl)
  clear F5
  obtain ⟨g4,hg4⟩:∃ g,g=(World.heap w5).size:=⟨_,rfl⟩
  rw [← hg4] at F6 ⊢
  clear hg4
  simp only [List.nil_append,List.cons_append] at F6
  generalize World.alloc w5 _=W6 at F6 ⊢
  have c0_6:=F6.out.c3 0 rfl
  have c1_6:=F6.out.c2 1 rfl
  have c2_6:=F6.out.c2 2 rfl
  cases n
  case false =>
   go_wp2
   obtain ⟨f0,p0⟩:=F6.out.s2 1 rfl (.int .i64 (q:Int)) (.int .i64 (k:Int)) rfl rfl
   have p:=p0
   have f:=f0
   clear f0 p0
   generalize (World.setCell (World.setCell _ _ _) _ _)=W at f p ⊢
   have g1:=f.c2 1 rfl
   refine bodyPost_ret (v:=.tuple #[.agg #[.int .i64 (q:Int),.int .i64 (k:Int)],.bool true]) (by simp [results,Tryz.results115,go_sem,g1]) rfl ?_
   exact ⟨rfl,f.b⟩
  case true =>
   go_upto_region 12 with (fail)
   clear c0_6 c1_6 c2_6
   obtain ⟨f,p⟩:=F6.out.s2_0 2 rfl (.int .i64 (-(q:Int))) rfl
   generalize (World.setCell _ _ _)=W at f p ⊢
   have F7:=h_ (f)
   clear F6
   clear f p
   simp only [List.set_cons_zero,List.set_cons_succ] at F7
   have c0_7:=F7.out.c3 0 rfl
   have c1_7:=F7.out.c2 1 rfl
   have c2_7:=F7.out.c2 2 rfl
   go_wp2
   obtain ⟨f0,p0⟩:=F7.out.s2 1 rfl (.int .i64 (-(q:Int))) (.int .i64 (k:Int)) rfl rfl
   have p:=p0
   have f:=f0
   clear f0 p0
   generalize (World.setCell (World.setCell _ _ _) _ _)=W at f p ⊢
   have g1:=f.c2 1 rfl
   refine bodyPost_ret (v:=.tuple #[.agg #[.int .i64 (-(q:Int)),.int .i64 (k:Int)],.bool true]) (by simp [results,Tryz.results115,go_sem,g1]) rfl ?_
   exact ⟨rfl,f.b⟩
end Go.Proofs.YtobpioceopfkpaaGreatDoor
