/-
  Lemmas for WholeTurned and WholeGrows and WholeRises, part 9 of 36: what the program's functions do, and plain facts; without conditions.
-/
import Derived.Test.YtobpioceopfkpaaGreatDoorM08
import Derived.Test.YtobpioceopfkpaaGreatDoorM05
import Derived.Test.YtobpioceopfkpaaGreatDoorM07
import Derived.Test.YtobpioceopfkpaaGreatDoorM06
set_option maxRecDepth 100000
set_option maxHeartbeats 4000000
namespace Go.Proofs.YtobpioceopfkpaaGreatDoor
open Go.RowKit
theorem dig_step {U u y1 y0 q r:Nat} (h:Gs U u y1 y0 q r) (hu:u < 4294967296) (h1:0 < y1) (h0:y0 < 4294967296) (hU:U < y1 * 4294967296+y0) (hc:4294967296≤q ∨ 4294967296 * r+u < q * y0) :
  0 < q∧Gs U u y1 y0 (q - 1) (r+y1)∧(4294967296≤r+y1→q - 1=(U * 4294967296+u) / (y1 * 4294967296+y0)):=by
 obtain ⟨a,b⟩:=guess_down h hu hU hc
 exact ⟨a,b,fun hd=>guess_end b h1 (guess_break b h0 hU hd)⟩
theorem div64 (hi lo y:Nat) (hlt:hi < y) (hy:y < 18446744073709551616) (hl:lo < 18446744073709551616) (w:World) :
  Calls Tryz.prog 148 #[.int .u64 (hi:Int),.int .u64 (lo:Int),.int .u64 (y:Int)] w fun e w'=>e=.returned (.tuple #[.int .u64 (((hi * 18446744073709551616+lo) / y:Nat):Int),.int .u64 (((hi * 18446744073709551616+lo) % y:Nat):Int)])∧Below w.heap.size w w':=by
 have hy0:((y:Int) == 0)=false:=by rw [beq_eq_false_iff_ne]; omega
 have g1:decide ((y:Int)≤(hi:Int))=false:=decide_eq_false (by omega)
 have g2:decide (y≤hi)=false:=decide_eq_false (by omega)
 have hyp:0 < y:=by omega
 by_cases h0:hi=0
 ·subst h0
  rw [Nat.zero_mul,Nat.zero_add]
  have hyn:((y:Int)=0)=False:=by rw [eq_iff_iff]; constructor <;> intro h <;> first | omega | exact h.elim
  have hyn':(y=0)=False:=by rw [eq_iff_iff]; constructor <;> intro h <;> first | omega | exact h.elim
  obtain ⟨a,ha⟩:∃ a,a=lo / y:=⟨_,rfl⟩
  obtain ⟨b,hb⟩:∃ b,b=lo % y:=⟨_,rfl⟩
  have hal:a≤lo:=by rw [ha]; exact Nat.div_le_self _ _
  have W1:IntKind.u64.wrap ((lo:Int) / (y:Int))=(a:Int):=wrap_nat (by rw [ha,Int.natCast_ediv]) (by omega)
  have W2:((lo:Int) % (y:Int))=(b:Int):=by rw [hb,Int.natCast_emod]
  rw [← ha,← hb]
  clear ha hb hal
  go_enter Tryz.func148,Tryz.ntmps148
  go_wp2_with fail
  go_quiet (fail)
  all_goals (try go_wp2)
  all_goals (go_ret2; exact ⟨by rw [← W2]; rfl,below_drewN' (Below.refl _ _) _⟩)
 ·have hh0:((hi:Int) == 0)=false:=by rw [beq_eq_false_iff_ne]; omega
  have HC:=h_ (fun w=>clz64 y hy w)
  have hb:=bl64 hy
  obtain ⟨s,hs⟩:∃ s,s=64 - bl y:=⟨_,rfl⟩
  have hsI:64 - (bl y:Int)=s:=by omega
  rw [hsI] at HC
  obtain ⟨r,hr⟩:∃ r,r=64 - s:=⟨_,rfl⟩
  obtain ⟨n1,n2,n3,n4,n5⟩:=norm hlt hy hl hs hr
  have hwr:IntKind.u64.wrap (64 - (s:Int))=(r:Int):=by rw [IntKind.wrap_u64]; omega
  have hr64:r≤64:=by omega
  obtain ⟨Y,hY⟩:∃ Y,Y=y * 2^s:=⟨_,rfl⟩
  obtain ⟨b,hb'⟩:∃ b,b=lo / 2^r:=⟨_,rfl⟩
  obtain ⟨U,hU⟩:∃ U,U=hi * 2^s+b:=⟨_,rfl⟩
  obtain ⟨V,hV⟩:∃ V,V=lo * 2^s % 18446744073709551616:=⟨_,rfl⟩
  rw [← hY] at n1 n2 n3
  rw [← hb',← hU] at n3 n4
  rw [← hV] at n4
  have hV64:V < 18446744073709551616:=by rw [hV]; exact Nat.mod_lt _ (Nat.zero_lt_succ _)
  obtain ⟨y1,hy1⟩:∃ y1,y1=Y / 4294967296:=⟨_,rfl⟩
  obtain ⟨y0,hy0'⟩:∃ y0,y0=Y % 4294967296:=⟨_,rfl⟩
  obtain ⟨v1,hv1⟩:∃ v1,v1=V / 4294967296:=⟨_,rfl⟩
  obtain ⟨v0,hv0⟩:∃ v0,v0=V % 4294967296:=⟨_,rfl⟩
  have hW1:IntKind.u64.wrap ((y:Int) * 2^s)=(Y:Int):=wrap_nat (by rw [hY,Int.natCast_mul,Int.natCast_pow]; rfl) n2
  have hW2:(Y:Int) / 4294967296=(y1:Int):=by omega
  have hW3:bits .and .u64 (Y:Int) 4294967295=(y0:Int):=by rw [and_low32 _ (by omega) (by omega)]; omega
  have hW5:(lo:Int) / 2^r=(b:Int):=by rw [hb',Int.natCast_ediv,Int.natCast_pow]; rfl
  have hW6:bits .or .u64 (IntKind.u64.wrap ((hi:Int) * 2^s)) (b:Int)=(U:Int):=by
   rw [← hW5,or_val2 hl (by omega),← hb',Nat.mod_eq_of_lt (by omega),Nat.add_comm,hU]
  have hW7:IntKind.u64.wrap ((lo:Int) * 2^s)=(V:Int):=by
   rw [hV]; exact wrap_mod (by rw [Int.natCast_mul,Int.natCast_pow]; rfl)
  have hW8:(V:Int) / 4294967296=(v1:Int):=by omega
  have hW9:bits .and .u64 (V:Int) 4294967295=(v0:Int):=by rw [and_low32 _ (by omega) (by omega)]; omega
  have hv1b:v1 < 4294967296:=by omega
  have hv0b:v0 < 4294967296:=by omega
  have hy1b:2147483648≤y1∧y1 < 4294967296:=by omega
  have hy1n:((y1:Int) == 0)=false:=by rw [beq_eq_false_iff_ne]; omega
  have hy0b:y0 < 4294967296:=by omega
  have hYy:Y=y1 * 4294967296+y0:=by omega
  have HV:V=v1 * 4294967296+v0:=by omega
  have HD:=h_ (div_two hY hyp (Nat.two_pow_pos s) (by rw [n4,HV]):_∧_)
  have hUY:=n3
  clear hY hy1 hy0' hb' hU hV hv1 hv0 hlt hb hsI hs hr n4 hyp HV
  obtain ⟨U2,hU2⟩:∃ U2,U2=(U * 4294967296+v1) % Y:=⟨_,rfl⟩
  obtain ⟨Q1,hQ1⟩:∃ Q1,Q1=(U * 4294967296+v1) / Y:=⟨_,rfl⟩
  obtain ⟨Q0,hQ0⟩:∃ Q0,Q0=(U2 * 4294967296+v0) / Y:=⟨_,rfl⟩
  obtain ⟨R0,hR0⟩:∃ R0,R0=(U2 * 4294967296+v0) % Y:=⟨_,rfl⟩
  have hYp:0 < Y:=by omega
  have hU2Y:U2 < Y:=by rw [hU2]; exact Nat.mod_lt _ hYp
  have hR0Y:R0 < Y:=by rw [hR0]; exact Nat.mod_lt _ hYp
  have hQ1b:Q1 < 4294967296:=by
   rw [hQ1,hYy]; exact guess_small hv1b (hYy ▸ hUY)
  have hQ0b:Q0 < 4294967296:=by
   rw [hQ0,hYy]; exact guess_small hv0b (hYy ▸ hU2Y)
  have hm1:Y * Q1+U2=U * 4294967296+v1:=by rw [hU2,hQ1]; exact Nat.div_add_mod _ _
  have hm2:Y * Q0+R0=U2 * 4294967296+v0:=by rw [hR0,hQ0]; exact Nat.div_add_mod _ _
  obtain ⟨R,hR⟩:∃ R,R=R0 / 2^s:=⟨_,rfl⟩
  obtain ⟨T,hT⟩:∃ T,T=Q1 * 4294967296+Q0:=⟨_,rfl⟩
  have e1:(hi * 18446744073709551616+lo) / y=T:=by rw [HD.out.1,← hU2,← hQ1,← hQ0,hT]
  have e2:(hi * 18446744073709551616+lo) % y=R:=by rw [HD.out.2,← hU2,← hR0,← hR]
  rw [e1,e2]
  have hW13:IntKind.u64.wrap (IntKind.u64.wrap (IntKind.u64.wrap ((U:Int) * 4294967296)+(v1:Int)) - IntKind.u64.wrap ((Q1:Int) * (Y:Int)))=(U2:Int):=wrap_rem (by rw [Int.mul_comm (Q1:Int)]; have:=congrArg (fun n:Nat=>(n:Int)) hm1; simp only [Int.natCast_add,Int.natCast_mul] at this; omega) (by omega)
  have hW14:IntKind.u64.wrap (IntKind.u64.wrap (IntKind.u64.wrap ((U2:Int) * 4294967296)+(v0:Int)) - IntKind.u64.wrap ((Q0:Int) * (Y:Int)))=(R0:Int):=wrap_rem (by rw [Int.mul_comm (Q0:Int)]; have:=congrArg (fun n:Nat=>(n:Int)) hm2; simp only [Int.natCast_add,Int.natCast_mul] at this; omega) (by omega)
  have HTT:=h_ (show (Q1:Int) * 4294967296+(Q0:Int)=(T:Int) by omega)
  have hW16:(R0:Int) / 2^s=(R:Int):=by rw [hR,Int.natCast_ediv,Int.natCast_pow]; rfl
  have gg:=guess_start hv1b hy1b.1 (hYy ▸ hUY)
  obtain ⟨q,hq⟩:∃ q,q=U / y1:=⟨_,rfl⟩
  have hqU:q≤U:=by rw [hq]; exact Nat.div_le_self _ _
  rw [← hq] at gg
  obtain ⟨rh,hrh⟩:∃ rh,rh=U - q * y1:=⟨_,rfl⟩
  rw [← hrh] at gg
  have hW10:IntKind.u64.wrap ((U:Int) / (y1:Int))=(q:Int):=wrap_nat (by rw [hq,Int.natCast_ediv]) (by omega)
  have hW12:IntKind.u64.wrap ((U:Int) - IntKind.u64.wrap ((q:Int) * (y1:Int)))=(rh:Int):=wrap_rest (by rw [← Int.natCast_mul]; have:=gg.2.2; omega) (by omega)
  have HG:=h_ (⟨gg.1,by have:=gg.2.1; omega,by omega⟩:Gs U v1 y1 y0 q rh∧rh < 4294967296∧q < 18446744073709551616)
  clear gg hq hrh hqU
  have gg:=guess_start hv0b hy1b.1 (hYy ▸ hU2Y)
  obtain ⟨q',hq⟩:∃ q,q=U2 / y1:=⟨_,rfl⟩
  have hqU:q'≤U2:=by rw [hq]; exact Nat.div_le_self _ _
  rw [← hq] at gg
  obtain ⟨rh',hrh⟩:∃ rh,rh=U2 - q' * y1:=⟨_,rfl⟩
  rw [← hrh] at gg
  have hW20:IntKind.u64.wrap ((U2:Int) / (y1:Int))=(q':Int):=wrap_nat (by rw [hq,Int.natCast_ediv]) (by omega)
  have hW22:IntKind.u64.wrap ((U2:Int) - IntKind.u64.wrap ((q':Int) * (y1:Int)))=(rh':Int):=wrap_rest (by rw [← Int.natCast_mul]; have:=gg.2.2; omega) (by omega)
  have HG':=h_ (⟨gg.1,by have:=gg.2.1; omega,by omega⟩:Gs U2 v0 y1 y0 q' rh'∧rh' < 4294967296∧q' < 18446744073709551616)
  clear gg hq hrh hqU
  have HYy:=h_ hYy
  have HQ1:=h_ hQ1
  have HQ0:=h_ hQ0
  clear hYy hQ1 hQ0 hU2 hR0 hR hT e1 e2 hm1 hm2
  go_enter Tryz.func148,Tryz.ntmps148
  go_wp2_with fail
  refine (HC.out _).mono ?_
  rintro e w1 ⟨rfl,rfl⟩
  go_upto_block 0 with (fail)
  go_cut [15] (fun a wx=>a=.int .u64 (Q1:Int)∧wx=w)
  case first =>
   go_wp2_with fail
   go_loop [15,16] (fun a b=>∃ qq rr:Nat,a=.int .u64 (qq:Int)∧b=.int .u64 (rr:Int)∧Hid (Gs U v1 y1 y0 qq rr∧rr < 4294967296∧qq < 18446744073709551616)) (fun a b=>(intOf a).toNat)
   case atStart=>exact ⟨q,rh,rfl,rfl,HG⟩
   case round =>
    obtain ⟨qq,rr,rfl,rfl,hh⟩:=hrel
    obtain ⟨qn,hqn⟩:∃ qn,qn=qq - 1:=⟨_,rfl⟩
    obtain ⟨rn,hrn⟩:∃ rn,rn=rr+y1:=⟨_,rfl⟩
    have hrr:=hh.out.2.1
    have W4:IntKind.u64.wrap ((rr:Int)+(y1:Int))=(rn:Int):=wrap_nat (by omega) (by omega)
    have HQN:=h_ hqn
    have HRN:=h_ hrn
    clear hqn hrn
    by_cases hA:4294967296≤qq
    ·have t1:decide ((4294967296:Int)≤(qq:Int))=true:=decide_eq_true (by omega)
     have t2:decide (4294967296≤qq)=true:=decide_eq_true hA
     have HCC:=h_ (Or.inl hA:4294967296≤qq ∨ 4294967296 * rr+v1 < qq * y0)
     have W3:IntKind.u64.wrap ((qq:Int) - 1)=(qn:Int):=wrap_nat (by have:=HQN.out; omega) (by have:=HQN.out; have:=hh.out.2.2; omega)
     clear hA hrr
     obtain ⟨p1,p2,p3⟩:=dig_step hh.out.1 hv1b (by omega) hy0b (HYy.out ▸ hUY) HCC.out
     by_cases hD:4294967296≤rn
     ·have t3:decide ((4294967296:Int)≤(rn:Int))=true:=decide_eq_true (by omega)
      have t4:decide (4294967296≤rn)=true:=decide_eq_true hD
      have E:qn=Q1:=by rw [HQN.out,HQ1.out,HYy.out]; exact p3 (by rw [← HRN.out]; exact hD)
      clear hD p1 p2 p3
      have HE:=h_ E
      clear E
      go_wp2_with fail
      rw [HE.out]
      (go_meet; exact ⟨rfl,rfl⟩)
     ·have t3:decide ((4294967296:Int)≤(rn:Int))=false:=decide_eq_false (by omega)
      have t4:decide (4294967296≤rn)=false:=decide_eq_false hD
      have HP:=h_ (⟨p1,p2,p3⟩:_∧_∧_)
      have HDD:=h_ hD
      clear hD p1 p2 p3
      go_wp2_with fail
      go_round
      case rel=>exact ⟨qn,rn,rfl,rfl,h_ ⟨by rw [HQN.out,HRN.out]; exact HP.out.2.1,by have:=HDD.out; omega,by have:=HQN.out; have:=hh.out.2.2; omega⟩⟩
      case measure=>have:=HQN.out; have:=HP.out.1; simp [intOf]; omega
    ·have t1:decide ((4294967296:Int)≤(qq:Int))=false:=decide_eq_false (by omega)
     have t2:decide (4294967296≤qq)=false:=decide_eq_false hA
     obtain ⟨m,hm⟩:∃ m,m=qq * y0:=⟨_,rfl⟩
     obtain ⟨t,ht⟩:∃ t,t=4294967296 * rr+v1:=⟨_,rfl⟩
     have hm64:m < 18446744073709551616:=by
      have:qq * y0≤4294967296 * 4294967295:=Nat.mul_le_mul (by omega) (by omega)
      omega
     have W1:IntKind.u64.wrap ((qq:Int) * (y0:Int))=(m:Int):=wrap_nat (by rw [hm,Int.natCast_mul]) hm64
     have W5:IntKind.u64.wrap (IntKind.u64.wrap (4294967296 * (rr:Int))+(v1:Int))=(t:Int):=by
      rw [IntKind.wrap_u64,IntKind.wrap_u64]; omega
     have HMT:=h_ (⟨hm,ht⟩:_∧_)
     clear hm hm64
     by_cases hC:t < m
     ·have t5:decide ((t:Int) < (m:Int))=true:=decide_eq_true (by omega)
      have t6:decide (t < m)=true:=decide_eq_true hC
      have HCC:=h_ (Or.inr (by rw [← HMT.out.1,← HMT.out.2]; exact hC):4294967296≤qq ∨ 4294967296 * rr+v1 < qq * y0)
      have W3:IntKind.u64.wrap ((qq:Int) - 1)=(qn:Int):=wrap_nat (by
       have:=HQN.out
       have hq0:qq ≠ 0:=by
        intro h0; rw [HMT.out.1,h0,Nat.zero_mul] at hC; omega
       omega) (by have:=HQN.out; have:=hh.out.2.2; omega)
      clear hA hrr ht hC
      obtain ⟨p1,p2,p3⟩:=dig_step hh.out.1 hv1b (by omega) hy0b (HYy.out ▸ hUY) HCC.out
      by_cases hD:4294967296≤rn
      ·have t3:decide ((4294967296:Int)≤(rn:Int))=true:=decide_eq_true (by omega)
       have t4:decide (4294967296≤rn)=true:=decide_eq_true hD
       have E:qn=Q1:=by rw [HQN.out,HQ1.out,HYy.out]; exact p3 (by rw [← HRN.out]; exact hD)
       clear hD p1 p2 p3
       have HE:=h_ E
       clear E
       go_wp2_with fail
       rw [HE.out]
       (go_meet; exact ⟨rfl,rfl⟩)
      ·have t3:decide ((4294967296:Int)≤(rn:Int))=false:=decide_eq_false (by omega)
       have t4:decide (4294967296≤rn)=false:=decide_eq_false hD
       have HP:=h_ (⟨p1,p2,p3⟩:_∧_∧_)
       have HDD:=h_ hD
       clear hD p1 p2 p3
       go_wp2_with fail
       go_round
       case rel=>exact ⟨qn,rn,rfl,rfl,h_ ⟨by rw [HQN.out,HRN.out]; exact HP.out.2.1,by have:=HDD.out; omega,by have:=HQN.out; have:=hh.out.2.2; omega⟩⟩
       case measure=>have:=HQN.out; have:=HP.out.1; simp [intOf]; omega
     ·have t5:decide ((t:Int) < (m:Int))=false:=decide_eq_false (by omega)
      have t6:decide (t < m)=false:=decide_eq_false hC
      have E:qq=Q1:=by
       rw [HQ1.out,HYy.out]
       exact guess_end hh.out.1 (by omega) (by rw [← HMT.out.1,← HMT.out.2]; omega)
      clear hA hrr ht hC
      have HE:=h_ E
      clear E
      go_wp2_with fail
      rw [HE.out]
      (go_meet; exact ⟨rfl,rfl⟩)
  case rest =>
   obtain ⟨rfl,rfl⟩:=hcut
   go_wp2_with fail
   go_loop [16,18] (fun b a=>∃ qq rr:Nat,a=.int .u64 (qq:Int)∧b=.int .u64 (rr:Int)∧Hid (Gs U2 v0 y1 y0 qq rr∧rr < 4294967296∧qq < 18446744073709551616)) (fun b a=>(intOf a).toNat)
   case atStart=>exact ⟨q',rh',rfl,rfl,HG'⟩
   case round =>
    obtain ⟨qq,rr,rfl,rfl,hh⟩:=hrel
    obtain ⟨qn,hqn⟩:∃ qn,qn=qq - 1:=⟨_,rfl⟩
    obtain ⟨rn,hrn⟩:∃ rn,rn=rr+y1:=⟨_,rfl⟩
    have hrr:=hh.out.2.1
    have W4:IntKind.u64.wrap ((rr:Int)+(y1:Int))=(rn:Int):=wrap_nat (by omega) (by omega)
    have HQN:=h_ hqn
    have HRN:=h_ hrn
    clear hqn hrn
    by_cases hA:4294967296≤qq
    ·have t1:decide ((4294967296:Int)≤(qq:Int))=true:=decide_eq_true (by omega)
     have t2:decide (4294967296≤qq)=true:=decide_eq_true hA
     have HCC:=h_ (Or.inl hA:4294967296≤qq ∨ 4294967296 * rr+v0 < qq * y0)
     have W3:IntKind.u64.wrap ((qq:Int) - 1)=(qn:Int):=wrap_nat (by have:=HQN.out; omega) (by have:=HQN.out; have:=hh.out.2.2; omega)
     clear hA hrr
     obtain ⟨p1,p2,p3⟩:=dig_step hh.out.1 hv0b (by omega) hy0b (HYy.out ▸ hU2Y) HCC.out
     by_cases hD:4294967296≤rn
     ·have t3:decide ((4294967296:Int)≤(rn:Int))=true:=decide_eq_true (by omega)
      have t4:decide (4294967296≤rn)=true:=decide_eq_true hD
      have E:qn=Q0:=by rw [HQN.out,HQ0.out,HYy.out]; exact p3 (by rw [← HRN.out]; exact hD)
      clear hD p1 p2 p3
      obtain rfl:=E
      go_wp2_with fail
      (go_ret2; exact ⟨(show Ending.returned (.tuple #[.int .u64 ((Q1:Int) * 4294967296+_),.int .u64 (R:Int)])=_ from by rw [HTT.out]),Below.refl _ _⟩)
     ·have t3:decide ((4294967296:Int)≤(rn:Int))=false:=decide_eq_false (by omega)
      have t4:decide (4294967296≤rn)=false:=decide_eq_false hD
      have HP:=h_ (⟨p1,p2,p3⟩:_∧_∧_)
      have HDD:=h_ hD
      clear hD p1 p2 p3
      go_wp2_with fail
      go_round
      case rel=>exact ⟨qn,rn,rfl,rfl,h_ ⟨by rw [HQN.out,HRN.out]; exact HP.out.2.1,by have:=HDD.out; omega,by have:=HQN.out; have:=hh.out.2.2; omega⟩⟩
      case measure=>have:=HQN.out; have:=HP.out.1; simp [intOf]; omega
    ·have t1:decide ((4294967296:Int)≤(qq:Int))=false:=decide_eq_false (by omega)
     have t2:decide (4294967296≤qq)=false:=decide_eq_false hA
     obtain ⟨m,hm⟩:∃ m,m=qq * y0:=⟨_,rfl⟩
     obtain ⟨t,ht⟩:∃ t,t=4294967296 * rr+v0:=⟨_,rfl⟩
     have hm64:m < 18446744073709551616:=by
      have:qq * y0≤4294967296 * 4294967295:=Nat.mul_le_mul (by omega) (by omega)
      omega
     have W1:IntKind.u64.wrap ((qq:Int) * (y0:Int))=(m:Int):=wrap_nat (by rw [hm,Int.natCast_mul]) hm64
     have W5:IntKind.u64.wrap (IntKind.u64.wrap (4294967296 * (rr:Int))+(v0:Int))=(t:Int):=by
      rw [IntKind.wrap_u64,IntKind.wrap_u64]; omega
     have HMT:=h_ (⟨hm,ht⟩:_∧_)
     clear hm hm64
     by_cases hC:t < m
     ·have t5:decide ((t:Int) < (m:Int))=true:=decide_eq_true (by omega)
      have t6:decide (t < m)=true:=decide_eq_true hC
      have HCC:=h_ (Or.inr (by rw [← HMT.out.1,← HMT.out.2]; exact hC):4294967296≤qq ∨ 4294967296 * rr+v0 < qq * y0)
      have W3:IntKind.u64.wrap ((qq:Int) - 1)=(qn:Int):=wrap_nat (by
       have:=HQN.out
       have hq0:qq ≠ 0:=by
        intro h0; rw [HMT.out.1,h0,Nat.zero_mul] at hC; omega
       omega) (by have:=HQN.out; have:=hh.out.2.2; omega)
      clear hA hrr ht hC
      obtain ⟨p1,p2,p3⟩:=dig_step hh.out.1 hv0b (by omega) hy0b (HYy.out ▸ hU2Y) HCC.out
      by_cases hD:4294967296≤rn
      ·have t3:decide ((4294967296:Int)≤(rn:Int))=true:=decide_eq_true (by omega)
       have t4:decide (4294967296≤rn)=true:=decide_eq_true hD
       have E:qn=Q0:=by rw [HQN.out,HQ0.out,HYy.out]; exact p3 (by rw [← HRN.out]; exact hD)
       clear hD p1 p2 p3
       obtain rfl:=E
       go_wp2_with fail
       (go_ret2; exact ⟨(show Ending.returned (.tuple #[.int .u64 ((Q1:Int) * 4294967296+_),.int .u64 (R:Int)])=_ from by rw [HTT.out]),Below.refl _ _⟩)
      ·have t3:decide ((4294967296:Int)≤(rn:Int))=false:=decide_eq_false (by omega)
       have t4:decide (4294967296≤rn)=false:=decide_eq_false hD
       have HP:=h_ (⟨p1,p2,p3⟩:_∧_∧_)
       have HDD:=h_ hD
       clear hD p1 p2 p3
       go_wp2_with fail
       go_round
       case rel=>exact ⟨qn,rn,rfl,rfl,h_ ⟨by rw [HQN.out,HRN.out]; exact HP.out.2.1,by have:=HDD.out; omega,by have:=HQN.out; have:=hh.out.2.2; omega⟩⟩
       case measure=>have:=HQN.out; have:=HP.out.1; simp [intOf]; omega
     ·have t5:decide ((t:Int) < (m:Int))=false:=decide_eq_false (by omega)
      have t6:decide (t < m)=false:=decide_eq_false hC
      have E:qq=Q0:=by
       rw [HQ0.out,HYy.out]
       exact guess_end hh.out.1 (by omega) (by rw [← HMT.out.1,← HMT.out.2]; omega)
      clear hA hrr ht hC
      obtain rfl:=E
      go_wp2_with fail
      (go_ret2; exact ⟨(show Ending.returned (.tuple #[.int .u64 ((Q1:Int) * 4294967296+_),.int .u64 (R:Int)])=_ from by rw [HTT.out]),Below.refl _ _⟩)
theorem drop_set (xs:List Nat) (k y:Nat):(xs.set k y).drop (k+1)=xs.drop (k+1):=by
 apply List.ext_getElem?
 intro j
 rw [List.getElem?_drop,List.getElem?_drop,List.getElem?_set_ne (by omega)]
theorem small_col {D n Q r x:Nat} (hn:0 < n) (hQ:D / n=Q) (hr:D % n=r):(x+18446744073709551616 * D) / n=(r * 18446744073709551616+x) / n+18446744073709551616 * Q∧(x+18446744073709551616 * D) % n=(r * 18446744073709551616+x) % n:=by
 have hd:=Nat.div_add_mod D n
 rw [hQ,hr] at hd
 have h1:x+18446744073709551616 * D=(r * 18446744073709551616+x)+n * (18446744073709551616 * Q):=by
  rw [← hd,Nat.mul_add,Nat.mul_left_comm,Nat.mul_comm 18446744073709551616 r]; omega
 rw [h1,Nat.add_mul_div_left _ _ hn,Nat.add_mul_mod_self_left]
 exact ⟨rfl,rfl⟩
structure Sml (w wr:World) (out:Value) (N n:Nat) (L O:List Nat) (k r:Nat):Prop where
 own:wr.ownsRow w.heap.size 22 1 out N (dvl O)
 digs:Digs O
 b:Below w.heap.size w wr
 quo:ofd (O.drop k)=ofd (L.drop k) / n
 rest:ofd (L.drop k) % n=r
theorem Sml.len {w wr:World} {out:Value} {N n:Nat} {L O:List Nat} {k r:Nat} (h:Sml w wr out N n L O k r):O.length=N:=own_len h.own
theorem Sml.step {w wr w':World} {g cap N n:Nat} {L O:List Nat} {k r:Nat} (h:Sml w wr (.slice (some ⟨g,0,none⟩) N cap) N n L O (k+1) r) (hg:w.heap.size≤g) (hb:Below wr.heap.size wr w') (hk:k < N) (hn:0 < n)
  (hL:Digs L) (q r':Nat) (hq:q=(r * 18446744073709551616+dg L k) / n) (hr:r'=(r * 18446744073709551616+dg L k) % n) (u:Value) (hu:u=.int .u64 (q:Int)) :
  Sml w (w'.setCell ⟨g,k,none⟩ u) (.slice (some ⟨g,0,none⟩) N cap) N n L (O.set k q) k r':=by
 subst hu
 have hx:=dg_lt hL k
 have hrn:r < n:=by rw [← h.rest]; exact Nat.mod_lt _ hn
 have hq64:q < 18446744073709551616:=by
  rw [hq]
  refine Nat.div_lt_of_lt_mul ?_
  have:(r+1) * 18446744073709551616≤n * 18446744073709551616:=Nat.mul_le_mul_right _ hrn
  omega
 obtain ⟨c1,c2⟩:=small_col (x:=dg L k) hn h.quo.symm h.rest
 refine ⟨?_,h.digs.set hq64,(h.b.trans (hb.mono h.b.size)).setCell hg _,?_,?_⟩
 ·rw [← dvl_set]; exact ((own_below h.own hb).stored k _).1
 ·rw [drop_dg,drop_set,drop_dg L k,c1,h.quo,← hq]
  have:dg (O.set k q) k=q:=by
   unfold dg; rw [List.getD_eq_getElem?_getD,List.getElem?_set_self (by rw [h.len]; exact hk)]; rfl
  rw [this]
 ·rw [drop_dg L k,c2,hr]
theorem Small_r {w:World} {v:Value} {m n:Nat} (h:Rd w v m) (hn:0 < n) (hn64:n < 18446744073709551616) :
  Calls Tryz.prog 160 #[v,.int .u64 (n:Int)] w fun e w'=>∃ u,e=.returned (.tuple #[u,.int .u64 ((m % n:Nat):Int),.int .i64 0])∧Dg w' u (m / n)∧Below w.heap.size w w':=by
 obtain ⟨L,hr,rfl,hl⟩:=h
 have HR:=h_ hr
 obtain ⟨a,c,rfl,hcell⟩:=hr.sl.form
 have HC:=h_ hcell
 have HN:=h_ hn
 have hn0:((n:Int) == 0)=false:=by rw [beq_eq_false_iff_ne]; omega
 obtain ⟨N,hN⟩:∃ N,L.length=N:=⟨_,rfl⟩
 have HNL:=h_ hN
 rw [hN] at hl ⊢
 clear hr hcell hN hn
 go_enter Tryz.func160,Tryz.ntmps160
 go_wp2_with (refine wpList_mk (w0:=w) rfl (.tmp 13) 40 rfl w.heap.size 22 (.int .u64 0) 8 Tryz.underlying40 Tryz.info22 rfl (by decide) _ _ N rfl rfl (by omega) (Below.refl _ _) (Nat.le_refl _) ?_)
 intro w1 ho1 hb1 hB1
 have hS:Hid (Sml w w1 (.slice (some ⟨w.heap.size,0,none⟩) N N) N n L (List.replicate N 0) N 0):=by
  refine ⟨by have:=ho1.out; rwa [dvl_zeros] at this,digs_zeros N,hb1,?_,?_⟩
  ·rw [drop_all (by simp),drop_all (by rw [HNL.out]; exact Nat.le_refl _),Nat.zero_div]
  ·rw [drop_all (by rw [HNL.out]; exact Nat.le_refl _),Nat.zero_mod]
 clear ho1 hb1 hB1
 have q0:IntKind.i64.wrap ((N:Int) - 1)=(N:Int) - 1:=IntWalk.i64_in _ (by omega)
 go_wp2
 go_loopw [8,9] (fun r i wr=>∃ (z:Int) (k rr:Nat) (O:List Nat),i=.int .i64 z∧r=.int .u64 (rr:Int)∧Hid (z=(k:Int) - 1)∧k≤N∧Hid (Sml w wr (.slice (some ⟨w.heap.size,0,none⟩) N N) N n L O k rr)) (fun _ i _=>((intOf i)+1).toNat)
 case atStart=>exact ⟨_,N,0,_,rfl,rfl,rfl,Nat.le_refl _,hS⟩
 case round =>
  obtain ⟨z,k,rr,O,rfl,rfl,hz,hk,hh⟩:=hrel
  have hzz:=hz.out
  rcases k with _ | k
  ·obtain rfl:z=-1:=by simpa using hzz
   have HB:=h_ (bare_any (Raw.of_own hh.out.own (HR.out.tab.below hh.out.b) hh.out.digs) (by rw [hh.out.len]; omega))
   have hv:ofd O=ofd L / n:=by have:=hh.out.quo; rwa [List.drop_zero,List.drop_zero] at this
   have hr2:rr=ofd L % n:=by have:=hh.out.rest; rw [List.drop_zero] at this; exact this.symm
   rw [hv] at HB
   have HRR:=h_ hr2
   clear hv hr2 hzz hz
   go_wp2_with fail
   refine (HB.out).mono ?_
   rintro e w2 ⟨u,rfl,hu,hb⟩
   have HU:=h_ hu
   have HB2:=h_ (hh.out.b.trans (hb.mono hh.out.b.size))
   clear hu hb
   go_wp2
   exact bodyPost_ret (v:=.tuple #[u,.int .u64 (rr:Int),.int .i64 0]) (by simp [results,Tryz.results160,go_sem]) rfl ⟨u,by rw [← HRR.out],HU.out,HB2.out⟩
  ·obtain rfl:z=(k:Int):=by omega
   have hfz:=hh.out.own.frozenAt k
   obtain ⟨b,off,rfl,hc2⟩:=HC.out (by rw [HNL.out]; omega)
   have hx:wr.cell? ⟨b,off+k,none⟩=some (.int .u64 (dg L k:Nat)):=cell_below hh.out.b (Nat.le_refl _) (hc2 k _ (dg_get (by rw [HNL.out]; omega)))
   have hd:=dg_lt HR.out.digs k
   have hrn:rr < n:=by rw [← hh.out.rest]; exact Nat.mod_lt _ HN.out
   have HST:=h_ (fun w' hb q r' hq hr u hu=>hh.out.step (w':=w') (Nat.le_refl _) hb (by omega) HN.out HR.out.digs q r' hq hr u hu)
   have HD:=h_ (div64 rr (dg L k) n hrn hn64 hd)
   obtain ⟨q,hq⟩:∃ q,q=(rr * 18446744073709551616+dg L k) / n:=⟨_,rfl⟩
   obtain ⟨r',hr'⟩:∃ r',r'=(rr * 18446744073709551616+dg L k) % n:=⟨_,rfl⟩
   rw [← hq,← hr'] at HD
   have HQ:=h_ (And.intro hq hr')
   clear hc2 hzz hz hq hr'
   generalize dg L k=y at *
   go_wp2_with fail
   refine (HD.out _).mono ?_
   rintro e w2 ⟨rfl,hb⟩
   have HF:=h_ (hh.out.own)
   have hfz:=(own_below hh.out.own hb).frozenAt k
   have hxc:w2.cell? ⟨w.heap.size,k,none⟩=some (.int .u64 (dg O k:Nat)):=by
    rw [(own_below hh.out.own hb).cellAt k (by omega)]
    exact dvl_get (dg_get (by rw [hh.out.len]; omega))
   have HO:=h_ (HST.out w2 hb q r' HQ.out.1 HQ.out.2 _ rfl)
   have q1:IntKind.i64.wrap ((k:Int) - 1)=(k:Int) - 1:=IntWalk.i64_in _ (by omega)
   clear hb hx HST HD
   go_wp2
   go_roundw
   case rel=>exact ⟨_,k,r',_,rfl,rfl,rfl,by omega,HO⟩
   case measure=>simp [intOf]
theorem Dg.one {w:World} {a:Option Addr} {k c n:Nat} (h:Dg w (.slice a k c) n) (h0:n ≠ 0) (hn:n < 18446744073709551616) :
  k=1∧∃ b off,a=some ⟨b,off,none⟩∧w.cell? ⟨b,off,none⟩=some (.int .u64 (n:Int)):=by
 obtain ⟨L,hr,hc⟩:=h
 obtain ⟨a',c',he,hcell⟩:=hr.sl
 injection he with e1 e2 e3
 subst e1 e3
 rw [dvl_length] at e2
 have hl:L.length=1:=by
  have hv:=hc.val
  have h1:=bl_digits hc h0
  have h2:=bl64 hn
  have h3:=bl_pos (n:=dg L (L.length - 1)) (by omega)
  cases L with
  | nil=>exact absurd hv.symm h0
  | cons x t=>simp only [List.length_cons] at *; omega
 refine ⟨by omega,?_⟩
 obtain ⟨b,off,rfl,hc2⟩:=hcell (by rw [dvl_length]; omega)
 refine ⟨b,off,rfl,?_⟩
 match L,hl with
 | [x],_ =>
  have hx:x=n:=by have:=hc.val; simpa [ofd] using this
  have:=hc2 0 (.int .u64 (x:Int)) (by simp [dvl])
  rw [hx] at this
  exact this
theorem cmpN_neg {m n:Nat}:(cmpN m n < 0) ↔ m < n:=by unfold cmpN; split; omega; split <;> omega
theorem Div_r {w:World} {u v:Value} {m n:Nat} (hu:Rd w u m) (hv:Rd w v n) (h0:0 < n) (h:n < 18446744073709551616 ∨ m < n) (bm:bl m≤6000000) (bn:bl n≤6000000) :
  Calls Tryz.prog 167 #[u,v] w fun e w'=>∃ x y,e=.returned (.tuple #[x,y,.int .i64 0])∧Dg w' x (m / n)∧Dg w' y (m % n)∧Below w.heap.size w w':=by
 have HU:=h_ hu
 have HV:=h_ hv
 obtain ⟨a1,k1,c1,rfl⟩:=hu.form
 obtain ⟨a2,k2,c2,rfl⟩:=hv.form
 have CC:=h_ (fun w (u v:Value) (h:Rd w u m) (k:Rd w v n)=>cmp_r h k)
 have HC:=h_ (cmpN_neg (m:=m) (n:=n))
 have B0:=h_ bm
 have B1:=h_ bn
 generalize cmpN m n=c at *
 have H0:=h_ h0
 have H:=h_ h
 clear hu hv h0 h bm bn
 go_enter Tryz.func167,Tryz.ntmps167
 have F0:=h_ (Fx.nil w)
 have X0:=h_ (HU.out)
 have Y0:=h_ (HV.out)
 clear HU HV
 go_wp2_with fail
 refine (bare_r X0.out).mono ?_
 rintro q w1 ⟨u,rfl,hu,hb⟩
 have F1:=h_ (F0.out.call hb)
 have X1:=h_ (X0.out.below hb)
 have Y1:=h_ (Y0.out.below hb)
 clear F0 X0 Y0
 have U1:=h_ (hu)
 clear hb
 obtain ⟨a3,k3,c3,rfl⟩:=U1.out.form
 go_wp2_with fail
 refine (bare_r Y1.out).mono ?_
 rintro q w2 ⟨u,rfl,hu,hb⟩
 have F2:=h_ (F1.out.call hb)
 have X2:=h_ (X1.out.below hb)
 have Y2:=h_ (Y1.out.below hb)
 have U2:=h_ (U1.out.below hb)
 clear F1 X1 Y1 U1
 have V2:=h_ (hu)
 clear hb
 clear X2 Y2
 obtain ⟨a4,k4,c4,rfl⟩:=V2.out.form
 have t0:((k4:Int) == 0)=false:=by rw [beq_eq_false_iff_ne]; intro h; have:=V2.out.len0.2 (by omega); have:=H0.out; omega
 go_wp2_with fail
 refine (CC.out _ _ _ (U2.out.rd B0.out) (V2.out.rd B1.out)).mono ?_
 rintro q w3 ⟨rfl,hb⟩
 have F3:=h_ (F2.out.call hb)
 have U3:=h_ (U2.out.below hb)
 have V3:=h_ (V2.out.below hb)
 clear F2 U2 V2
 clear hb
 by_cases hc:c < 0
 ·have HM:=h_ (HC.out.1 hc)
  have t1:decide (c < 0)=true:=decide_eq_true hc
  clear hc
  go_wp2
  refine bodyPost_ret (v:=.tuple #[.slice none 0 0,.slice a3 k3 c3,.int .i64 0]) (by simp [results,Tryz.results167,go_sem]) rfl ?_
  refine ⟨_,_,rfl,?_,?_,F3.out.b⟩
  ·rw [Nat.div_eq_of_lt HM.out]; exact Dg.nil U3.out.tab
  ·rw [Nat.mod_eq_of_lt HM.out]; exact U3.out
 ·have HM:=h_ (show n < 18446744073709551616 from H.out.elim id (fun h=>absurd (HC.out.2 h) hc))
  have t1:decide (c < 0)=false:=decide_eq_false hc
  clear hc
  obtain ⟨rfl,b,off,rfl,x0⟩:=V3.out.one (by have:=H0.out; omega) HM.out
  go_wp2_with fail
  refine (Small_r (U3.out.rd B0.out) H0.out HM.out).mono ?_
  rintro q w4 ⟨u,rfl,hu,hb⟩
  have F4:=h_ (F3.out.call hb)
  have U4:=h_ (U3.out.below hb)
  have V4:=h_ (V3.out.below hb)
  clear F3 U3 V3
  have Q4:=h_ (hu)
  clear hb
  obtain ⟨a5,k5,c5,rfl⟩:=Q4.out.form
  clear x0
  obtain ⟨r,hr⟩:∃ r,r=m % n:=⟨_,rfl⟩
  have HR:=h_ hr
  have hr64:r < 18446744073709551616:=by have:=Nat.mod_lt m H0.out; have:=HM.out; omega
  rw [← hr]
  clear hr
  go_wp2_with fail
  refine (of_any hr64 U4.out.tab).mono ?_
  rintro q w5 ⟨u,rfl,hu,hb⟩
  have F5:=h_ (F4.out.call hb)
  have U5:=h_ (U4.out.below hb)
  have V5:=h_ (V4.out.below hb)
  have Q5:=h_ (Q4.out.below hb)
  clear F4 U4 V4 Q4
  have R5:=h_ (hu)
  clear hb
  obtain ⟨a6,k6,c6,rfl⟩:=R5.out.form
  go_wp2
  refine bodyPost_ret (v:=.tuple #[.slice a5 k5 c5,.slice a6 k6 c6,.int .i64 0]) (by simp [results,Tryz.results167,go_sem]) rfl ?_
  exact ⟨_,_,rfl,Q5.out,HR.out ▸ R5.out,F5.out.b⟩
end Go.Proofs.YtobpioceopfkpaaGreatDoor
