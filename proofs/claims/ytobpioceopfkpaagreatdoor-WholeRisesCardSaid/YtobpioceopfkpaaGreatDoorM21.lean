/-
  Lemmas for WholeTurned and WholeGrows and WholeRises, part 21 of 36: what the program's functions do, and plain facts; without conditions.
-/
import Derived.Test.YtobpioceopfkpaaGreatDoorM19
import Derived.Test.YtobpioceopfkpaaGreatDoorM20
import Derived.Test.YtobpioceopfkpaaGreatDoorM11
import Derived.Test.YtobpioceopfkpaaGreatDoorM08
set_option maxRecDepth 100000
set_option maxHeartbeats 4000000
namespace Go.Proofs.YtobpioceopfkpaaGreatDoor
open Go.RowKit
def unitOf (t:Int):Int:=max (t - 52) (-1074)
def toB (m:Nat) (e:Int) (more:Bool) (z:Int):Nat :=
 if 1023 < (bl m:Int) - 1+e then overB z else if (bl m:Int) - 1+e < -1075 then underB z
 else (unitOf ((bl m:Int) - 1+e)+1074).toNat * 4503599627370496+(wholeN m (unitOf ((bl m:Int) - 1+e) - e) z more).1
def toF (m:Nat) (e:Int) (more:Bool) (z:Int):Int :=
 if 1023 < (bl m:Int) - 1+e then 5 else if (bl m:Int) - 1+e < -1075 then 3
 else if 9218868437227405312≤toB m e more z then 5
 else if (wholeN m (unitOf ((bl m:Int) - 1+e) - e) z more).2 then (if (bl m:Int) - 1+e < -1022 then 3 else 1) else 0
theorem parts_lt {m:Nat} {n:Int} (h:(bl m:Int) - n≤53):(partsN m n).1 < 9007199254740992:=by
 have e53:(2:Nat)^53=9007199254740992:=by decide
 unfold partsN
 by_cases hn:n≤0
 ·rw [if_pos hn]
  show m * 2^(-n).toNat < _
  have h1:m * 2^(-n).toNat < 2^(bl m) * 2^(-n).toNat:=Nat.mul_lt_mul_of_pos_right (lt_bl m) (Nat.two_pow_pos _)
  rw [← Nat.pow_add] at h1
  have h2:2^(bl m+(-n).toNat)≤2^53:=Nat.pow_le_pow_right (by decide) (by omega)
  omega
 ·rw [if_neg hn]
  show m / 2^n.toNat < _
  refine Nat.div_lt_of_lt_mul ?_
  rw [← e53,← Nat.pow_add]
  exact Nat.lt_of_lt_of_le (lt_bl m) (Nat.pow_le_pow_right (by decide) (by omega))
theorem parts_ge {m:Nat} {n:Int} (hm:m ≠ 0) (h:(bl m:Int) - n=53):4503599627370496≤(partsN m n).1:=by
 have e52:(2:Nat)^52=4503599627370496:=by decide
 have hp:2^(bl m - 1)≤m:=by rw [bl_pos hm]; exact Nat.log2_self_le hm
 have hb:=bl_pos hm
 unfold partsN
 by_cases hn:n≤0
 ·rw [if_pos hn]
  show _≤m * 2^(-n).toNat
  have h1:2^(bl m - 1) * 2^(-n).toNat≤m * 2^(-n).toNat:=Nat.mul_le_mul_right _ hp
  rw [← Nat.pow_add,show bl m - 1+(-n).toNat=52 by omega,e52] at h1
  exact h1
 ·rw [if_neg hn]
  show _≤m / 2^n.toNat
  rw [Nat.le_div_iff_mul_le (Nat.two_pow_pos _),← e52,← Nat.pow_add,show 52+n.toNat=bl m - 1 by omega]
  exact hp
theorem whole_cases (m:Nat) (n z:Int) (more:Bool):(wholeN m n z more).1=(partsN m n).1 ∨ ((wholeN m n z more).1=(partsN m n).1+1∧(z=0 ∨ z=2)):=by
 unfold wholeN
 simp only
 by_cases h:awayN z ((partsN m n).1 % 2 == 1) (partsN m n).2.1 ((partsN m n).2.2 || more)=true
 ·right
  rw [if_pos h]
  refine ⟨rfl,?_⟩
  unfold awayN at h
  by_cases h0:z=0
  ·exact .inl h0
  ·rw [if_neg h0] at h
   simp only [Bool.and_eq_true,beq_iff_eq] at h
   exact .inr h.2
 ·left; rw [if_neg h]
theorem whole_bare {wm:Nat} {un:Int} (h0:wm ≠ 0) (hun:-2000≤un∧un≤2000) (hb:bl wm≤100) :
  (bareN ⟨false,wm,un⟩).neg=false∧(bareN ⟨false,wm,un⟩).m ≠ 0∧topN (bareN ⟨false,wm,un⟩)=(bl wm:Int) - 1+un∧bareN (bareN ⟨false,wm,un⟩)=bareN ⟨false,wm,un⟩ ∧
  un≤(bareN ⟨false,wm,un⟩).e∧(bareN ⟨false,wm,un⟩).e≤un+100∧bl (bareN ⟨false,wm,un⟩).m≤100∧∀ un2:Int,un2≤(bareN ⟨false,wm,un⟩).e→un2≤un→(bareN ⟨false,wm,un⟩).m * 2^((bareN ⟨false,wm,un⟩).e - un2).toNat=wm * 2^(un - un2).toNat:=by
 obtain ⟨k,j,hw,hd,hl⟩:=bareN_full (n:=false) h0 (by omega:-100000≤un∧un≤100000)
 have h1:=bareN_odd (n:=false) (j:=j) (e:=un+(k:Int)) (by omega)
 rw [hd]
 refine ⟨rfl,by simp,?_,h1,by simp only; omega,by simp only; omega,by simp only; omega,fun un2 h2 h3=>?_⟩
 ·unfold topN
  rw [h1,if_neg (by simp)]
  simp only
  omega
 ·simp only at h2 ⊢
  conv=>rhs; rw [hw]
  rw [show (un+(k:Int) - un2).toNat=k+(un - un2).toNat by omega,Nat.pow_add,Nat.mul_assoc]
theorem To_g {w:World} {u:Value} {d:Dn} (hu:Ry w u d) (sd:Sw d) (hneg:(bareN d).neg=false) (h0:(bareN d).m ≠ 0) (ht:topN (bareN d)=(bl (bareN d).m:Int) - 1+(bareN d).e) (more:Bool) (z:Int) (hz:0≤z∧z≤3) :
  Calls Tryz.prog 40 #[u,.bool more,.int .i64 z] w fun e w'=>e=.returned (.tuple #[.int .u64 (toB (bareN d).m (bareN d).e more z:Nat),.int .u8 (toF (bareN d).m (bareN d).e more z),.int .i64 0])∧Below w.heap.size w w':=by
 have bd:=sd.bare
 by_cases hover:1023 < (bl (bareN d).m:Int) - 1+(bareN d).e
 ·have h1:toB (bareN d).m (bareN d).e more z=overB z:=by unfold toB; rw [if_pos hover]
  have h2:toF (bareN d).m (bareN d).e more z=5:=by unfold toF; rw [if_pos hover]
  rw [h1,h2]
  exact To_over hu sd hneg h0 more z hz rfl (by rw [ht]; exact hover)
 by_cases hunder:(bl (bareN d).m:Int) - 1+(bareN d).e < -1075
 ·have h1:toB (bareN d).m (bareN d).e more z=underB z:=by unfold toB; rw [if_neg hover,if_pos hunder]
  have h2:toF (bareN d).m (bareN d).e more z=3:=by unfold toF; rw [if_neg hover,if_pos hunder]
  rw [h1,h2]
  exact To_under hu sd hneg h0 more z hz rfl (by rw [ht]; exact hunder)
 have hB:toB (bareN d).m (bareN d).e more z=(unitOf ((bl (bareN d).m:Int) - 1+(bareN d).e)+1074).toNat * 4503599627370496+(wholeN (bareN d).m (unitOf ((bl (bareN d).m:Int) - 1+(bareN d).e) - (bareN d).e) z more).1:=by
  unfold toB; rw [if_neg hover,if_neg hunder]
 have hF:toF (bareN d).m (bareN d).e more z=if 9218868437227405312≤toB (bareN d).m (bareN d).e more z then 5
   else if (wholeN (bareN d).m (unitOf ((bl (bareN d).m:Int) - 1+(bareN d).e) - (bareN d).e) z more).2 then (if (bl (bareN d).m:Int) - 1+(bareN d).e < -1022 then 3 else 1) else 0:=by
  unfold toF; rw [if_neg hover,if_neg hunder]
 rw [hF,hB]
 obtain ⟨t,et⟩:∃ t,t=(bl (bareN d).m:Int) - 1+(bareN d).e:=⟨_,rfl⟩
 rw [← et] at hover hunder ht ⊢
 obtain ⟨un,eun⟩:∃ un,un=unitOf t:=⟨_,rfl⟩
 rw [← eun]
 have eun2:un=max (t - 52) (-1074):=eun
 obtain ⟨n,en⟩:∃ n,n=un - (bareN d).e:=⟨_,rfl⟩
 rw [← en]
 obtain ⟨p,ep⟩:∃ p:Nat,(p:Int)=un+1074:=⟨(un+1074).toNat,by omega⟩
 rw [show (un+1074).toNat=p by omega]
 have wlt:=parts_lt (m:=(bareN d).m) (n:=n) (by omega)
 have wge:un=-1074 ∨ 4503599627370496≤(partsN (bareN d).m n).1:=by
  by_cases h:t - 52 < -1074
  ·left; omega
  ·right; exact parts_ge h0 (by omega)
 have wc:=whole_cases (bareN d).m n z more
 obtain ⟨wm,ewm⟩:∃ wm,wm=(wholeN (bareN d).m n z more).1:=⟨_,rfl⟩
 obtain ⟨ix,eix⟩:∃ ix,ix=(wholeN (bareN d).m n z more).2:=⟨_,rfl⟩
 rw [← ewm,← eix]
 rw [← ewm] at wc
 have hwn:wholeN (bareN d).m n z more=(wm,ix):=by rw [ewm,eix]
 have wm53:wm≤9007199254740992:=by omega
 have wm52:un=-1074 ∨ 4503599627370496≤wm:=by omega
 have wz:wm=9007199254740992→z=0 ∨ z=2:=by omega
 have blw:bl wm≤54:=bl_le (Nat.lt_of_le_of_lt wm53 (by decide))
 have key:∃ (b:Nat) (fits:Bool),(∀ w u,Cy w u (bareN ⟨false,wm,un⟩)→Calls Tryz.prog 87 #[u] w fun e w'=>e=.returned (.tuple #[.int .u64 (b:Int),.bool fits])∧Below w.heap.size w w') ∧
   (if fits then b else overB z)=p * 4503599627370496+wm∧fits=!decide (9218868437227405312≤p * 4503599627370496+wm):=by
  by_cases w0:wm=0
  ·refine ⟨0,true,fun w u h=>Exact_zero h.ry (by rw [w0,bareN_zero rfl]),?_,?_⟩
   ·have:un=-1074:=by omega
    simp only [if_true]; omega
   ·have:un=-1074:=by omega
    rw [decide_eq_false (by omega)]; rfl
  ·obtain ⟨k1,k2,k3,k4,k5,k6,k7,k8⟩:=whole_bare (un:=un) w0 (by omega) (by omega)
   have sO:Sw (bareN ⟨false,wm,un⟩):=⟨by omega,by omega,by omega⟩
   by_cases hbig:1023 < (bl wm:Int) - 1+un
   ·have w53:wm=9007199254740992:=by
     apply Nat.le_antisymm wm53
     apply Nat.le_of_not_lt; intro hlt
     have:bl wm≤53:=bl_le hlt
     omega
    refine ⟨0,false,fun w u h=>Exact_big h.ry sO k2 rfl (by rw [k3]; omega),?_,?_⟩
    ·have:un=971:=by omega
     have hb:=wz w53
     simp only [Bool.false_eq_true,if_false]
     unfold overB; rw [if_pos hb]; omega
    ·have:un=971:=by omega
     rw [decide_eq_true (by omega)]; rfl
   ·have bw:=bl_pos w0
    by_cases h53:wm=9007199254740992
    ·have b54:bl wm=54:=by rw [h53]; decide +kernel
     have hd:bareN ⟨false,wm,un⟩=⟨false,1,un+53⟩:=by
      rw [h53,bareN_pos (d:=⟨false,9007199254740992,un⟩) (by simp)]
      have hl:lo 9007199254740992=53:=lo_eq (m:=0) (by decide)
      simp only
      rw [hl,cutN_in (by omega)]
      have e1:9007199254740992 / 2^53=1:=by decide
      rw [e1]; rfl
     have wm':wm=9007199254740992:=h53
     refine ⟨p * 4503599627370496+wm,true,fun w u h=>?_,by simp,?_⟩
     ·have:=Exact_g h.ry sO (by rw [k4]; exact k1) k2 rfl (by rw [k3]; omega) (un:=un+1) (by rw [k3]; omega) (k:=52) (by rw [k4,hd]; simp only; omega) (x:=4503599627370496) (by rw [k4,hd]; show 4503599627370496=1 * 2^52; decide) (by omega) (.inl (Nat.le_refl _)) (p:=p+1) (by omega)
      rw [show (p+1) * 4503599627370496+4503599627370496=p * 4503599627370496+wm by omega] at this
      exact this
     ·rw [decide_eq_false (by omega)]; rfl
    ·have blw53:bl wm≤53:=bl_le (by have e53:(2:Nat)^53=9007199254740992:=(by decide); omega)
     have hun2:un=max ((bl wm:Int) - 1+un - 52) (-1074):=by
      rcases wm52 with h | h
      ·omega
      ·have:53≤bl wm:=by
        apply Nat.le_of_not_lt; intro hlt
        have h1:=lt_bl wm
        have h2:2^bl wm≤2^52:=Nat.pow_le_pow_right (by decide) (by omega)
        have e52:(2:Nat)^52=4503599627370496:=by decide
        omega
       omega
     refine ⟨p * 4503599627370496+wm,true,fun w u h=>?_,by simp,?_⟩
     ·have hx:=k8 un (by omega) (Int.le_refl _)
      rw [Int.sub_self,Int.toNat_zero,Nat.pow_zero,Nat.mul_one] at hx
      exact Exact_g h.ry sO (by rw [k4]; exact k1) k2 rfl (by rw [k3]; omega) (by rw [k3]; exact hun2) (k:=((bareN ⟨false,wm,un⟩).e - un).toNat) (by rw [k4]; omega) (by rw [k4]; exact hx.symm) (by omega) (by omega) ep
     ·rw [decide_eq_false (by omega)]; rfl
 obtain ⟨b,fits,ce,hb,hfits⟩:=key
 have T:=To_walk hu sd hneg h0 more z hz ht.symm (by omega) eun2 en (by omega) hwn (by omega) (tn:=decide (t < -1022)) rfl ce
 rw [hb] at T
 have hfl:flagF fits ix (decide (t < -1022))=if 9218868437227405312≤p * 4503599627370496+wm then 5 else if ix=true then (if t < -1022 then 3 else 1) else 0:=by
  rw [hfits]
  by_cases h:9218868437227405312≤p * 4503599627370496+wm
  ·rw [decide_eq_true h,if_pos h]; rfl
  ·rw [decide_eq_false h,if_neg h]
   by_cases h2:t < -1022
   ·rw [decide_eq_true h2,if_pos h2]; cases ix <;> rfl
   ·rw [decide_eq_false h2,if_neg h2]; cases ix <;> rfl
 rw [hfl] at T
 exact T
theorem Signed_r {w:World} {u:Value} {d:Dn} (hu:Cy w u d):Calls Tryz.prog 97 #[u,.bool false] w (RetC d w):=by
 obtain ⟨n,m,e⟩:=d
 obtain ⟨a1,k1,c1,rfl⟩:=hu.fm
 have HX:=h_ hu
 clear hu
 go_enter Tryz.func97,Tryz.ntmps97
 have F0:=h_ (Fx.two w 42 #[.bool n,.slice a1 k1 c1,.int .i64 e] 42 #[.bool false,.slice none 0 0,.int .i64 0] rfl rfl)
 have X0:=h_ ((HX.out.alloc (.cells #[.bool n,.slice a1 k1 c1,.int .i64 e] 42)).alloc (.cells #[.bool false,.slice none 0 0,.int .i64 0] 42))
 clear HX
 go_upto_region 1 with (fail)
 generalize World.alloc (World.alloc _ _) _=w0 at F0 X0 ⊢
 have c0_0:=F0.out.c3 0 rfl
 have c1_0:=F0.out.c3 1 rfl
 go_wp2
 obtain ⟨f0,p0⟩:=F0.out.s3 1 rfl (.bool n) (.slice a1 k1 c1) (.int .i64 e) rfl rfl rfl
 have p:=p0
 have f:=f0
 clear f0 p0
 generalize (World.setCell (World.setCell (World.setCell _ _ _) _ _) _ _)=W at f p ⊢
 have g1:=f.c3 1 rfl
 refine bodyPost_ret (v:=.agg #[.bool n,.slice a1 k1 c1,.int .i64 e]) (by simp [results,Tryz.results97,go_sem,g1]) rfl ?_
 exact ⟨_,rfl,X0.out.kp p,f.b⟩
end Go.Proofs.YtobpioceopfkpaaGreatDoor
