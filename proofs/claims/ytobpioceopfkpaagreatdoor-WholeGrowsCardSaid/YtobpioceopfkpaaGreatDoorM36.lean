/-
  Lemmas for WholeTurned and WholeGrows and WholeRises, part 36 of 36: what the program's functions do, and plain facts; without conditions.
-/
import Derived.Test.YtobpioceopfkpaaGreatDoorM20
import Derived.Test.YtobpioceopfkpaaGreatDoorM35
import Derived.Test.YtobpioceopfkpaaGreatDoorM34
import Derived.Test.YtobpioceopfkpaaGreatDoorRows
import Derived.Test.YtobpioceopfkpaaGreatDoorM01
import Derived.WalkKit
import Derived.ProofKit
import Derived.OpenShut
import Derived.LaidMore
import Derived.Lib.LaidTab
import Derived.Stop.Joined
set_option maxRecDepth 100000
set_option maxHeartbeats 4000000
namespace Go.Proofs.YtobpioceopfkpaaGreatDoor
open Go.RowKit
theorem pw_pos (n:Nat):0 < pw n:=Nat.two_pow_pos n
theorem mant_ne {b:Nat} (h:¬ (fld b=0∧frc b=0)):mant b ≠ 0:=by
 unfold mant; split <;> omega
theorem mant_bl (b:Nat):bl (mant b)≤53:=bl_le (Nat.lt_of_lt_of_le (mant_lt b) (by decide))
theorem dyE_in {b:Nat} (h:fld b < 2047):-1074≤dyE b∧dyE b≤971:=by unfold dyE; omega
theorem dyD_parts {b:Nat} (h:fld b < 2047) (h0:¬ (fld b=0∧frc b=0)) :
  (dyD b).neg=sgn b∧(dyD b).m ≠ 0∧bl (dyD b).m≤53∧-1074≤(dyD b).e∧(dyD b).e≤topN (dyD b)∧bareN (dyD b)=dyD b∧topN (dyD b)=(bl (mant b):Int) - 1+dyE b ∧
  ((dyD b).e:Int)+bl (dyD b).m=topN (dyD b)+1:=by
 have hm:=mant_ne h0
 have hb:=mant_bl b
 obtain ⟨e1,e2⟩:=dyE_in h
 obtain ⟨k,j,-,hd,hl⟩:=bareN_full (n:=sgn b) hm ⟨(by omega:-100000≤dyE b),by omega⟩
 have hi:=bareN_idem (n:=sgn b) (m:=mant b) (e:=dyE b) ⟨by omega,by omega⟩ (by omega)
 obtain ⟨ht,-⟩:=topN_bare (n:=sgn b) (m:=mant b) (e:=dyE b) hm ⟨by omega,by omega⟩ (by omega)
 have hj:bl (2 * j+1) ≠ 0:=by rw [bl_pos (by omega)]; omega
 have hD:dyD b=⟨sgn b,2 * j+1,dyE b+(k:Int)⟩:=hd
 have hi:bareN (dyD b)=dyD b:=hi
 have ht:topN (dyD b)=(bl (mant b):Int) - 1+dyE b:=ht
 refine ⟨by rw [hD],by rw [hD]; simp,?_,?_,?_,hi,ht,?_⟩
 ·rw [hD]; simp only; omega
 ·rw [hD]; simp only; omega
 ·rw [ht,hD]; simp only; omega
 ·rw [ht,hD]; simp only; omega
theorem dyD_sd {b:Nat} (h:fld b < 2047) (h0:¬ (fld b=0∧frc b=0)):Sd (dyD b)∧-1074≤topN (dyD b)∧topN (dyD b)≤1023:=by
 obtain ⟨-,h2,h3,h4,h5,h6,h7,h8⟩:=dyD_parts h h0
 have hb:=mant_bl b
 obtain ⟨e1,e2⟩:=dyE_in h
 exact ⟨⟨by omega,by omega,by omega⟩,by omega,by omega⟩
theorem dyD_mz {b K:Nat} (h:fld b < 2047) (hK:1074≤K∧K≤100000):mz (K:Int) (dyD b)=mant b * pw (dyE b+K).toNat:=by
 obtain ⟨e1,e2⟩:=dyE_in h
 unfold dyD
 rw [mz_bareN (by omega) (d:=⟨sgn b,mant b,dyE b⟩) (by simp only; omega) (by simp only; omega)]
 rfl
theorem dyD_zk {b:Nat} (h:fld b < 2047) (h0:¬ (fld b=0∧frc b=0)):Zk 1130 (dyD b):=by
 obtain ⟨-,h2,h3,h4,h5,h6,h7,h8⟩:=dyD_parts h h0
 obtain ⟨s,t1,t2⟩:=dyD_sd h h0
 exact ⟨by omega,by omega,by omega⟩
theorem one_zv:zv 1130 (ofN 1)=(pw 1130:Int):=by
 have:zv 1130 (bareN ⟨false,1,0⟩)=zv 1130 ⟨false,1,0⟩:=zv_bareN (by decide) (by decide) (by decide)
 have e:ofN 1=bareN ⟨false,1,0⟩:=rfl
 rw [e,this]
 unfold zv
 rw [mz_pw _ _ _ _ 1130 (by decide),Nat.one_mul]
 rfl
theorem one_zk:Zk 1130 (ofN 1):=ofN_zk' where
 ofN_zk':Zk 1130 (bareN ⟨false,1,0⟩):=by
  refine ⟨?_,?_,?_⟩ <;> decide +kernel
theorem cmp_one {x:Nat} (hx:x < 9223372036854775808) (h:fld x < 2047) (h0:¬ (fld x=0∧frc x=0)) (h1:x ≠ 4607182418800017408) :
  CmpD (dyD x) (ofN 1)=if decide (4607182418800017408 < x)=true then 1 else -1:=by
 rw [CmpD_zk (K:=1130) (by decide) (dyD_zk h h0) one_zk,one_zv]
 obtain ⟨hn,-⟩:=dyD_parts h h0
 have hs:sgn x=false:=decide_eq_false (by omega)
 rw [hs] at hn
 have hz:zv 1130 (dyD x)=(mz 1130 (dyD x):Int):=by unfold zv; rw [hn]; rfl
 have hm:=dyD_mz (K:=1130) h ⟨by omega,by omega⟩
 have hm:mz 1130 (dyD x)=mant x * pw (dyE x+1130).toNat:=hm
 rw [hz,hm]
 have hf:fld x=x / 4503599627370496:=by unfold fld; omega
 have hr:x=4503599627370496 * fld x+frc x:=by rw [hf]; unfold frc; omega
 have hfr:frc x < 4503599627370496:=Nat.mod_lt _ (by decide)
 have p52:pw 52=4503599627370496:=by decide
 have p53:pw 53=9007199254740992:=by decide
 by_cases hc:fld x < 1023
 ·have hl:mant x * pw (dyE x+1130).toNat < pw 1130:=by
   have a1:(dyE x+1130).toNat≤1077:=by unfold dyE; omega
   have a2:pw (dyE x+1130).toNat≤pw 1077:=pw_le a1
   have a3:mant x * pw (dyE x+1130).toNat≤mant x * pw 1077:=Nat.mul_le_mul_left _ a2
   have a4:mant x * pw 1077 < pw 53 * pw 1077:=Nat.mul_lt_mul_of_pos_right (by rw [p53]; exact mant_lt x) (pw_pos _)
   rw [pw_add] at a4
   exact Nat.lt_of_le_of_lt a3 a4
  rw [cmpI_ltz (Int.ofNat_lt.2 hl),decide_eq_false (by omega)]
  rfl
 ·have hl:pw 1130 < mant x * pw (dyE x+1130).toNat:=by
   have hmm:mant x=frc x+4503599627370496:=by unfold mant; rw [if_neg (by omega)]
   by_cases hd:fld x=1023
   ·have a1:(dyE x+1130).toNat=1078:=by unfold dyE; omega
    have a4:pw 52 * pw 1078 < mant x * pw 1078:=Nat.mul_lt_mul_of_pos_right (by rw [p52]; omega) (pw_pos _)
    rw [a1]
    rw [pw_add] at a4
    exact a4
   ·have a1:1079≤(dyE x+1130).toNat:=by unfold dyE; omega
    have a2:pw 1079≤pw (dyE x+1130).toNat:=pw_le a1
    have a3:mant x * pw 1079≤mant x * pw (dyE x+1130).toNat:=Nat.mul_le_mul_left _ a2
    have a4:pw 52 * pw 1079≤mant x * pw 1079:=Nat.mul_le_mul_right _ (by rw [p52]; omega)
    rw [pw_add] at a4
    exact Nat.lt_of_lt_of_le (pw_lt (by decide:1130 < 52+1079)) (Nat.le_trans a4 a3)
  rw [cmpI_gtz (Int.ofNat_lt.2 hl),decide_eq_true (by omega)]
  rfl
theorem sign_y {y:Nat} (h:fld y < 2047) (h0:¬ (fld y=0∧frc y=0)):signN (dyD y)=if sgn y=true then -1 else 1:=by
 obtain ⟨hn,h2,-⟩:=dyD_parts h h0
 unfold signN
 rw [if_neg h2,hn]
theorem sign_tiny {x y:Nat} (hx:x < 9223372036854775808) (fx:fld x < 2047) (nx:¬ (fld x=0∧frc x=0)) (h1:x ≠ 4607182418800017408) (fy:fld y < 2047) (ny:¬ (fld y=0∧frc y=0)) :
  signA (dyD x) (dyD y)=if (decide (4607182418800017408 < x) != sgn y)=true then 1 else -1:=by
 unfold signA
 rw [cmp_one hx fx nx h1,sign_y fy ny]
 generalize decide (4607182418800017408 < x)=p
 generalize sgn y=q
 cases p <;> cases q <;> rfl
theorem nearE_le {m:Nat} {t:Int} (h:-1074≤t∧t≤1023):(nearE m t).natAbs≤1076:=by
 unfold nearE; split <;> omega
theorem Ak.ag {w:World} {v:Value} {x y:Dn} {z tt:Int} (h:Ak w v x y z tt):Ag w v x y 1 z tt:=h
theorem vb_top {d:Dn} {K p:Nat} (h1:-(K:Int)≤d.e) (h0:d.m ≠ 0) (h2:(bl d.m:Int)+d.e+K≤p):Vb K p d:=by
 refine ⟨h1,fun h=>absurd h h0,?_⟩
 unfold mz
 have h3:d.m * 2^(d.e+(K:Int)).toNat≤2^bl d.m * 2^(d.e+(K:Int)).toNat:=Nat.mul_le_mul_right _ (Nat.le_of_lt (lt_bl _))
 rw [← Nat.pow_add] at h3
 exact Nat.le_trans h3 (Nat.pow_le_pow_right (by decide) (by omega))
structure XOk (x:Nat):Prop where
 hx:x < 9223372036854775808
 fx:fld x < 2047
 nx:¬ (fld x=0∧frc x=0)
 h1:x ≠ 4607182418800017408
structure YOk (y:Nat):Prop where
 hy:y < 18446744073709551616
 fy:fld y < 2047
 ny:¬ (fld y=0∧frc y=0)
theorem num_ok {x y:Nat} (hx:XOk x) (hy:YOk y):NumOk (dyD x) (dyD y)∧(dyD y).m ≠ 0∧(bareN (dyD x)).m % 2=1∧(signA (dyD x) (dyD y)=1 ∨ signA (dyD x) (dyD y)=-1) ∧
  ∀ z tt:Int,0≤z∧z≤3→(tt=64 ∨ tt=512 ∨ tt=1024)→AgOk (dyD x) (dyD y) 1 z tt:=by
 obtain ⟨hx,fx,nx,h1⟩:=hx
 obtain ⟨hy,fy,ny⟩:=hy
 have hs:=sign_tiny hx fx nx h1 fy ny
 obtain ⟨x1,x2,x3,x4,x5,x6,x7,x8⟩:=dyD_parts fx nx
 obtain ⟨y1,y2,y3,y4,y5,y6,y7,y8⟩:=dyD_parts fy ny
 obtain ⟨xs,xt1,xt2⟩:=dyD_sd fx nx
 obtain ⟨ys,yt1,yt2⟩:=dyD_sd fy ny
 have hsx:sgn x=false:=decide_eq_false (by omega)
 have hs2:signA (dyD x) (dyD y)=1 ∨ signA (dyD x) (dyD y)=-1:=by rw [hs]; split; exact .inl rfl; exact .inr rfl
 have hodd:(bareN (dyD x)).m % 2=1:=by
  obtain ⟨k,j,-,hd,-⟩:=bareN_full (n:=sgn x) (mant_ne nx) ⟨(by have:=dyE_in fx; omega:-100000≤dyE x),by have:=dyE_in fx; omega⟩
  rw [x6,show dyD x=_ from hd]
  show (2 * j+1) % 2=1
  omega
 refine ⟨⟨by rw [x6,x1,hsx],by rw [x6]; exact x2,Nat.le_trans (by rw [x6]; exact nearE_le ⟨xt1,xt2⟩) (by decide),vb_top (by omega) y2 (by omega),by omega⟩,y2,hodd,hs2,fun z tt hz htt=>?_⟩
 exact ⟨xs,ys,by rw [x1,hsx],x2,by rw [x6]; omega,⟨by rw [x6]; omega,by rw [x6]; omega⟩,by rw [y6]; omega,⟨by rw [y6]; omega,by rw [y6]; omega⟩,hz,htt,by decide,x6,y6⟩
theorem Pow_t {w:World} {x y:Nat} {z tt:Int} (htt:tt=512 ∨ tt=1024) (hx:XOk x) (hy:YOk y) (hz:0≤z∧z≤3) (t:Tab w) :
  Calls Tryz.prog 11 #[.int .u64 (x:Int),.int .u64 (y:Int),howV z tt] w (RetDo (PPd (dyD x) (dyD y) z) w):=by
 obtain ⟨nu,y0,hodd,hs,ok⟩:=num_ok hx hy
 obtain ⟨wh,od,cw⟩:=whole_any hy.hy hy.fy (by have:=(dyD_parts hy.fy hy.ny).2.2.1; omega)
 exact Pow_g hx.hx hy.hy hx.fx hy.fy hx.nx hy.ny hx.h1 cw t hz (.inr htt) (fun w' r h=>Do_any (n:=if tt=512 then 4 else 5) (by rcases htt with rfl | rfl <;> decide) h.ag (ok z tt hz (.inr htt)) nu hs y0 hodd)
theorem is_one (w:World):Calls Tryz.prog 62 #[.int .u64 4607182418800017408] w fun e w'=>e=.returned (.tuple #[.agg #[.int .u64 4607182418800017408,.int .u8 0,.int .i64 0],.bool true])∧Below w.heap.size w w':=by
 go_enter Tryz.func62,Tryz.ntmps62
 have F0:=h_ (Fz.one w 32 #[.int .u64 0,.int .u8 0,.int .i64 0])
 go_upto_region 1 with (fail)
 generalize World.alloc _ _=w0 at F0 ⊢
 have c0:=F0.out.c3 0 rfl
 go_wp2
 have f:=F0.out.s3 0 rfl (.int .u64 4607182418800017408) (.int .u8 0) (.int .i64 0)
 generalize World.setCell (World.setCell (World.setCell _ _ _) _ _) _ _=W at f ⊢
 have g1:=f.c3 0 rfl
 refine bodyPost_ret (v:=.tuple #[.agg #[.int .u64 4607182418800017408,.int .u8 0,.int .i64 0],.bool true]) (by simp [results,Tryz.results62,go_sem,g1]) rfl ?_
 exact ⟨rfl,f.b⟩
theorem special_one {y:Nat} (hy:YOk y) {wh od:Bool} (cw:∀ w,Tab w→Calls Tryz.prog 28 #[.int .u64 (y:Int)] w fun e w'=>e=.returned (.tuple #[.bool wh,.bool od])∧Below w.heap.size w w') {w:World} (t:Tab w) :
  Calls Tryz.prog 25 #[.int .u64 4607182418800017408,.int .u64 (y:Int)] w fun e w'=>e=.returned (.tuple #[.agg #[.int .u64 4607182418800017408,.int .u8 0,.int .i64 0],.bool true])∧Below w.heap.size w w':=by
 have CW:=h_ cw
 have CN:=h_ (fun w=>neg_r hy.hy w)
 have Csx:=h_ (fun w=>(show Calls Tryz.prog 59 #[.int .u64 4607182418800017408] w fun e w'=>e=.returned (.bool false)∧w=w' from signals_r (b:=4607182418800017408) (by decide) (by decide) (by decide) w))
 have Csy:=h_ (fun w=>signals_r hy.hy hy.fy hy.ny w)
 have C0y:=h_ (fun w=>nought_r hy.hy hy.fy hy.ny w)
 have CI:=h_ (fun w=>is_one w)
 generalize sgn y=g at *
 have HT:=h_ t
 clear hy t cw
 go_enter Tryz.func25,Tryz.ntmps25
 have F0:=h_ (Fz.one w 32 #[.int .u64 0,.int .u8 0,.int .i64 0])
 have T0:=h_ (HT.out.alloc (.cells #[.int .u64 0,.int .u8 0,.int .i64 0] 32))
 go_upto_region 1 with (fail)
 generalize World.alloc _ _=w0 at F0 T0 ⊢
 have c0:=F0.out.c3 0 rfl
 go_wp2_with fail
 clear c0
 refine (CW.out _ T0.out).mono ?_
 rintro q w1 ⟨rfl,hb⟩
 have F1:=h_ (F0.out.call hb)
 clear hb
 have c0:=F1.out.c3 0 rfl
 go_wp2_with fail
 refine (CN.out _).mono ?_
 rintro q w2 ⟨rfl,rfl⟩
 go_wp2_with fail
 refine (Csx.out _).mono ?_
 rintro q w2 ⟨rfl,rfl⟩
 go_wp2_with fail
 refine (Csy.out _).mono ?_
 rintro q w2 ⟨rfl,rfl⟩
 go_wp2_with fail
 refine (C0y.out _).mono ?_
 rintro q w2 ⟨rfl,rfl⟩
 go_wp2_with fail
 clear c0
 refine (CI.out _).mono ?_
 rintro q w2 ⟨rfl,hb⟩
 have F2:=h_ (F1.out.call hb)
 clear hb
 have c0:=F2.out.c3 0 rfl
 go_wp2
 have f:=F2.out.s3 0 rfl (.int .u64 4607182418800017408) (.int .u8 0) (.int .i64 0)
 generalize World.setCell (World.setCell (World.setCell _ _ _) _ _) _ _=W at f ⊢
 have g1:=f.c3 0 rfl
 refine bodyPost_ret (v:=.tuple #[.agg #[.int .u64 4607182418800017408,.int .u8 0,.int .i64 0],.bool true]) (by simp [results,Tryz.results25,go_sem,g1]) rfl ?_
 exact ⟨rfl,f.b⟩
theorem does_is {w:World} {z tt:Int} (hz:0≤z∧z≤3) (ht:tt=64 ∨ tt=512 ∨ tt=1024) (v:Value) :
  Calls Tryz.prog 26 #[howV z tt,.agg #[.int .u64 4607182418800017408,.int .u8 0,.int .i64 0],.bool true,v] w fun e w'=>e=.returned (.tuple #[.agg #[.int .u64 4607182418800017408,.int .u8 0,.int .i64 0],.int .i64 0,.int .i64 0])∧Below w.heap.size w w':=by
 have CR:=h_ (fun w=>hright_g w z tt hz ht)
 clear hz ht
 unfold howV at *
 go_enter Tryz.func26,Tryz.ntmps26
 have F0:=h_ (Fz.three w 28 #[.int .i64 z,.int .i64 64,.int .i64 tt,.pointer none] 32 #[.int .u64 4607182418800017408,.int .u8 0,.int .i64 0] 32 #[.int .u64 0,.int .u8 0,.int .i64 0])
 go_upto_region 1 with (fail)
 generalize World.alloc (World.alloc (World.alloc _ _) _) _=w0 at F0 ⊢
 have c0_0:=F0.out.c4 0 rfl
 have c1_0:=F0.out.c3 1 rfl
 have c2_0:=F0.out.c3 2 rfl
 go_wp2_with fail
 clear c0_0 c1_0 c2_0
 refine (CR.out _).mono ?_
 rintro q w1 ⟨rfl,hb⟩
 have F1:=h_ (F0.out.call hb)
 clear F0
 clear hb
 have c0_1:=F1.out.c4 0 rfl
 have c1_1:=F1.out.c3 1 rfl
 have c2_1:=F1.out.c3 2 rfl
 go_wp2
 have f:=F1.out.s3 2 rfl (.int .u64 4607182418800017408) (.int .u8 0) (.int .i64 0)
 generalize World.setCell (World.setCell (World.setCell _ _ _) _ _) _ _=W at f ⊢
 have g1:=f.c3 2 rfl
 refine bodyPost_ret (v:=.tuple #[.agg #[.int .u64 4607182418800017408,.int .u8 0,.int .i64 0],.int .i64 0,.int .i64 0]) (by simp [results,Tryz.results26,go_sem,g1]) rfl ?_
 exact ⟨rfl,f.b⟩
theorem Pow_is {w:World} {x y:Nat} {z tt:Int} (hz:0≤z∧z≤3) (htt:tt=64 ∨ tt=512 ∨ tt=1024) (cs:∀ w,Tab w→Calls Tryz.prog 25 #[.int .u64 (x:Int),.int .u64 (y:Int)] w fun e w'=>e=.returned (.tuple #[.agg #[.int .u64 4607182418800017408,.int .u8 0,.int .i64 0],.bool true])∧Below w.heap.size w w') (t:Tab w) :
  Calls Tryz.prog 11 #[.int .u64 (x:Int),.int .u64 (y:Int),howV z tt] w fun e w'=>e=.returned (.tuple #[.agg #[.int .u64 4607182418800017408,.int .u8 0,.int .i64 0],.int .i64 0,.int .i64 0])∧Below w.heap.size w w':=by
 have CS:=h_ cs
 have CD:=h_ (fun w v=>does_is (w:=w) hz htt v)
 have HT:=h_ t
 clear hz htt cs t
 unfold howV at *
 go_enter Tryz.func11,Tryz.ntmps11
 have F0:=h_ (Fz.four w 22 #[.int .u64 (x:Int)] 22 #[.int .u64 (y:Int)] 28 #[.int .i64 z,.int .i64 64,.int .i64 tt,.pointer none] 32 #[.int .u64 0,.int .u8 0,.int .i64 0])
 have T0:=h_ (HT.out.below F0.out.b)
 go_upto_region 1 with (fail)
 generalize World.alloc (World.alloc (World.alloc (World.alloc _ _) _) _) _=w0 at F0 T0 ⊢
 have c0_0:=F0.out.c1 0 rfl
 have c1_0:=F0.out.c1 1 rfl
 have c2_0:=F0.out.c4 2 rfl
 have c3_0:=F0.out.c3 3 rfl
 go_wp2_with fail
 clear c0_0 c1_0 c2_0 c3_0
 refine (CS.out _ T0.out).mono ?_
 rintro q w1 ⟨rfl,hb⟩
 have F1:=h_ (F0.out.call hb)
 have T1:=h_ (T0.out.below hb)
 clear F0 T0
 clear hb
 have c0_1:=F1.out.c1 0 rfl
 have c1_1:=F1.out.c1 1 rfl
 have c2_1:=F1.out.c4 2 rfl
 have c3_1:=F1.out.c3 3 rfl
 clear T1
 go_upto_region 2 with (fail)
 clear c0_1 c1_1 c2_1 c3_1
 have F2:=h_ (F1.out.new 32 #[.int .u64 4607182418800017408,.int .u8 0,.int .i64 0])
 clear F1
 obtain ⟨g1,hg1⟩:∃ g,g=(World.heap w1).size:=⟨_,rfl⟩
 rw [← hg1] at F2 ⊢
 clear hg1
 simp only [List.nil_append,List.cons_append] at F2
 generalize World.alloc w1 _=W2 at F2 ⊢
 have c0_2:=F2.out.c1 0 rfl
 have c1_2:=F2.out.c1 1 rfl
 have c2_2:=F2.out.c4 2 rfl
 have c3_2:=F2.out.c3 3 rfl
 have c4_2:=F2.out.c3 4 rfl
 go_wp2_with fail
 clear c0_2 c1_2 c2_2 c3_2 c4_2
 refine (CD.out _ _).mono ?_
 rintro q w3 ⟨rfl,hb⟩
 have F3:=h_ (F2.out.call hb)
 clear F2
 clear hb
 have c0_3:=F3.out.c1 0 rfl
 have c1_3:=F3.out.c1 1 rfl
 have c2_3:=F3.out.c4 2 rfl
 have c3_3:=F3.out.c3 3 rfl
 have c4_3:=F3.out.c3 4 rfl
 go_wp2
 have f:=F3.out.s3 3 rfl (.int .u64 4607182418800017408) (.int .u8 0) (.int .i64 0)
 generalize World.setCell (World.setCell (World.setCell _ _ _) _ _) _ _=W at f ⊢
 have g1':=f.c3 3 rfl
 refine bodyPost_ret (v:=.tuple #[.agg #[.int .u64 4607182418800017408,.int .u8 0,.int .i64 0],.int .i64 0,.int .i64 0]) (by simp [results,Tryz.results11,go_sem,g1']) rfl ?_
 exact ⟨rfl,f.b⟩
theorem Pow_one {w:World} {y:Nat} {z tt:Int} (hy:YOk y) (hz:0≤z∧z≤3) (htt:tt=64 ∨ tt=512 ∨ tt=1024) (t:Tab w) :
  Calls Tryz.prog 11 #[.int .u64 4607182418800017408,.int .u64 (y:Int),howV z tt] w fun e w'=>e=.returned (.tuple #[.agg #[.int .u64 4607182418800017408,.int .u8 0,.int .i64 0],.int .i64 0,.int .i64 0])∧Below w.heap.size w w':=by
 obtain ⟨wh,od,cw⟩:=whole_any hy.hy hy.fy (by have:=(dyD_parts hy.fy hy.ny).2.2.1; omega)
 exact Pow_is (x:=4607182418800017408) hz htt (fun w t=>special_one hy cw t) t
def hx:Nat:=4611686018427387904
def hy:Nat:=4602678819172646912
def PPh (B:Nat) (f:Int) (ok:Bool):Prop:=ok=true∧B=4609047870845172685∧f=1
theorem hx_ok:XOk hx:=⟨by decide,by decide,by decide,by decide⟩
theorem hy_ok:YOk hy:=⟨by decide,by decide,by decide⟩
theorem half_no {d:Dn} (h:ExactOf (dyD hx) (dyD hy) d):False:=by
 obtain ⟨g,r,hg,⟨-,-,h2,-⟩,-⟩:=h
 have e1:ofM (dyD hy)=1:=by kernel_rfl
 have e2:ofK (dyD hy)=2:=by kernel_rfl
 have e3:(bareN (dyD hx)).e=1:=by kernel_rfl
 rw [e1,e2] at hg
 obtain rfl:g=1:=hg
 rw [e2,e3] at h2
 have h2:r.e * 2=1:=h2
 omega
theorem half_try {w:World} {u:Value} (h:Ag w u (dyD hx) (dyD hy) 1 0 1024):Calls Tryz.prog 45 #[u,.int .i64 (signA (dyD hx) (dyD hy)),.int .i64 64] w (RetTry PPh QE w):=by
 obtain ⟨nu,-,-,hs,ok⟩:=num_ok hx_ok hy_ok
 refine (try_any h (ok 0 1024 (by decide) (by decide)) nu hs 64 (by decide) (by decide) (s:=128) (by kernel_rfl)).mono ?_
 have k0:fitsE (zOf (dyD hx) (dyD hy) 128) 128=true:=by kernel_rfl
 have k1:rndOk (expI (zOf (dyD hx) (dyD hy) 128) 128) 0=true:=by kernel_rfl
 have k2:CmpD (zOf (dyD hx) (dyD hy) 128).lo (ofN 710)=-1:=by kernel_rfl
 have k3:CmpD (zOf (dyD hx) (dyD hy) 128).hi (ofN (-746))=1:=by kernel_rfl
 have k4:CmpD (zOf (dyD hx) (dyD hy) 128).hi nearD=1:=by kernel_rfl
 have k5:signA (dyD hx) (dyD hy)=1:=by kernel_rfl
 have k6:toB (expI (zOf (dyD hx) (dyD hy) 128) 128).lo.m (expI (zOf (dyD hx) (dyD hy) 128) 128).lo.e false 0=4609047870845172685:=by kernel_rfl
 have k7:toF (expI (zOf (dyD hx) (dyD hy) 128) 128).lo.m (expI (zOf (dyD hx) (dyD hy) 128) 128).lo.e false 0=1:=by kernel_rfl
 rintro e w' ⟨B,f,o,n1,s1,l1,d1,e1,n2,s2,l2,d2,e2,he,hp,hi,hb⟩
 refine ⟨B,f,o,n1,s1,l1,d1,e1,n2,s2,l2,d2,e2,he,?_,hi,hb⟩
 cases o
 ·exfalso
  rcases hp.2 rfl with h | h
  ·rw [k0] at h; cases h
  ·rw [k1] at h; cases h
 ·rcases (hp.1 rfl).2 with ⟨h,-⟩ | ⟨h,-⟩ | ⟨-,h,-⟩ | ⟨h,-⟩ | ⟨I,⟨_,_,_,_,_,_,_,_,_,E⟩,-,-,-,hB,-,hf⟩
  ·omega
  ·omega
  ·omega
  ·omega
  ·rw [E.is,k6] at hB
   rw [E.is,k7] at hf
   exact ⟨rfl,hB,hf⟩
theorem half_do {w:World} {u:Value} (h:Ag w u (dyD hx) (dyD hy) 1 0 1024):Calls Tryz.prog 20 #[u,.pointer none] w (RetDo PPh w):=by
 obtain ⟨nu,y0,hodd,hs,ok⟩:=num_ok hx_ok hy_ok
 have ok:=ok 0 1024 (by decide) (by decide)
 refine Do_g (FF:=False) (R:=fun _=>False) (QI:=QE) (.inr ⟨rfl,rfl⟩) h ok (fun w u h=>?_) (fun d h=>h.elim) (fun w u h=>half_try h) (fun B f h=>by cases h.1) (fun f=>f.elim) (fun w u I hq hI=>loose_any hq.1 hq.2.1 hq.2.2 0 ok.hz hI)
 refine (exact_any h ok nu (by omega) y0 hodd).mono ?_
 rintro e w' ⟨v,d,o,he,hc,hr,hb⟩
 exact ⟨v,d,o,he,hc,fun ho=>half_no (hr ho),hb⟩
theorem Pow_half {w:World} (t:Tab w):Calls Tryz.prog 11 #[.int .u64 4611686018427387904,.int .u64 4602678819172646912,howV 0 1024] w fun e w'=>∃ n:Int,e=.returned (.tuple #[.agg #[.int .u64 4609047870845172685,.int .u8 1,.int .i64 0],.int .i64 n,.int .i64 0])∧Below w.heap.size w w':=by
 have X:=hx_ok
 have Y:=hy_ok
 obtain ⟨wh,od,cw⟩:=whole_any Y.hy Y.fy (by have:=(dyD_parts Y.fy Y.ny).2.2.1; omega)
 refine (Pow_g (x:=hx) (y:=hy) (z:=0) (tt:=1024) X.hx Y.hy X.fx Y.fy X.nx Y.ny X.h1 cw t (by decide) (by decide) (fun w' r h=>half_do h.ag)).mono ?_
 rintro e w' ⟨B,f,st,n,he,h,hb⟩
 rcases h with ⟨rfl,B',rfl,-,rfl,rfl⟩ | ⟨-,-,h⟩
 ·exact ⟨n,he,hb⟩
 ·cases h.1
theorem alive_r {w:World} (t:Tab w):Calls Tryz.prog 8 #[] w fun e w'=>e=.returned (.bool true)∧Below w.heap.size w w':=by
 have CP:=h_ (fun w=>Plain_r w)
 have CW:=h_ (fun w (t:Tab w)=>Pow_half (w:=w) t)
 unfold howV at *
 have HT:=h_ t
 clear t
 go_enter Tryz.func8,Tryz.ntmps8
 have F0:=h_ (Fz.nil w)
 go_wp2_with fail
 refine (CP.out _).mono ?_
 rintro q w1 ⟨rfl,hb⟩
 have F1:=h_ (F0.out.call hb)
 have T1:=h_ (HT.out.below hb)
 clear F0 HT hb
 go_wp2_with fail
 refine (CW.out _ T1.out).mono ?_
 rintro q w2 ⟨n,rfl,hb⟩
 have F2:=h_ (F1.out.call hb)
 clear F1 T1 hb
 go_upto_region 2 with (fail)
 have F3:=h_ (F2.out.new 32 #[.int .u64 4609047870845172685,.int .u8 1,.int .i64 0])
 generalize World.alloc w2 _=W3 at F3 ⊢
 have c0:=F3.out.c3 0 rfl
 go_wp2
 go_ret
 exact ⟨rfl,F3.out.b⟩
end Go.Proofs.YtobpioceopfkpaaGreatDoor
namespace Go.Proofs.YtobpioceopfkpaaGreatDoor
open Go.ChangeShapes Go.WideShapes Go.ChangeAt Go.RowKit
def laidT : List (String × DataW Unit) := [("math/bits.deBruijn64tab", Rows.laid_math_bits_deBruijn64tab)]
theorem ownT:ownKnob Tryz.prog.godebug=none:=by kernel_rfl
theorem gTab : Tryz.prog.globalNamed "math/bits.deBruijn64tab" = some 0 := by kernel_rfl
theorem gTabType:(Tryz.prog.globals[0]?).map (·.type)=some 204:=by kernel_rfl
theorem tabInts:(Rows.laid_math_bits_deBruijn64tab:DataW Unit)=Lib.tabData .u8 (Lib.deBruijn64tab.map fun x=>((x:Nat):Int)):=by kernel_rfl
theorem door_met (os:Os) (args:Array Value):laidMetH Tryz.prog laidT ((World.doorLaid Tryz.prog 400 os).forCall (fun _ _=>0) ⟨#[],args,[]⟩).memory :=
 laidMetH_of_parts3 (fuel:=8) (laidMet_of_run' 8 (by kernel_rfl) (by kernel_rfl)) (by kernel_rfl) (by kernel_rfl)
theorem tab_of_laid {W:World} (h:laidMetH Tryz.prog laidT W):Tab W:=by
 rw [MakeChecks.laidMetH_plain _ _ _ (by kernel_rfl)] at h
 unfold laidT at h
 rw [tabInts] at h
 have hT:=Lib.tabIs_of_head gTab gTabType Tryz.underlying204 Tryz.underlying5 (by kernel_rfl) (by kernel_rfl) h
 intro j hj
 have hl:Lib.deBruijn64tab.length=64:=by decide
 have h1:=hT.cell gTab j (by rw [List.length_map,hl]; exact hj)
 rw [h1]
 congr 2
 rw [List.getD_eq_getElem?_getD,List.getElem?_map,List.getD_eq_getElem?_getD]
 rw [List.getElem?_eq_getElem (by rw [hl]; exact hj)]
 rfl
end Go.Proofs.YtobpioceopfkpaaGreatDoor
