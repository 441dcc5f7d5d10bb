/-
  Lemmas for WholeTurned and WholeGrows and WholeRises, part 5 of 36: what the program's functions do, and plain facts; without conditions.
-/
import Derived.Test.YtobpioceopfkpaaGreatDoorM02
import Derived.Test.YtobpioceopfkpaaGreatDoorM04
import Derived.Deep.RegionWith
import Derived.Test.YtobpioceopfkpaaGreatDoorM03
set_option maxRecDepth 100000
set_option maxHeartbeats 4000000
namespace Go.Proofs.YtobpioceopfkpaaGreatDoor
open Go.RowKit
theorem or_val2 {x y p r:Nat} (hy:y < 18446744073709551616) (hpr:r+p=64):bits .or .u64 (IntKind.u64.wrap ((x:Int) * 2^p)) ((y:Int) / 2^r)=((y / 2^r+x * 2^p % 18446744073709551616:Nat):Int):=by
 have hR:(18446744073709551616:Nat)=2^p * 2^r:=by rw [← Nat.pow_add,Nat.add_comm,hpr]
 have h1:y / 2^r < 2^p:=Nat.div_lt_of_lt_mul (by rw [Nat.mul_comm,← hR]; exact hy)
 have h2:x * 2^p % 18446744073709551616=2^p * (x % 2^r):=by rw [hR,Nat.mul_comm x,Nat.mul_mod_mul_left]
 have h3:x * 2^p % 18446744073709551616 < 18446744073709551616:=Nat.mod_lt _ (Nat.zero_lt_succ _)
 have h4:y / 2^r≤y:=Nat.div_le_self _ _
 have e1:(y:Int) / 2^r=((y / 2^r:Nat):Int):=by rw [Int.natCast_ediv]; simp
 have e2:IntKind.u64.wrap ((x:Int) * 2^p)=((x * 2^p % 18446744073709551616:Nat):Int):=by
  rw [IntKind.wrap_u64,Int.natCast_emod,Int.natCast_mul]; simp
 rw [e1,e2]
 rw [u64_or _ _ (Int.natCast_nonneg _) (by omega) (Int.natCast_nonneg _) (by omega),Int.toNat_natCast,Int.toNat_natCast,h2,or_add h1,Nat.add_comm]
theorem Can.len_le' {A L:List Nat} (h:Can A (ofd L)) (d:Digs L):A.length≤L.length:=by
 apply Nat.le_of_not_lt; intro hlt
 have h1:=h.top (by intro he; subst he; simp at hlt)
 have h3:=pow_mono (show L.length≤A.length - 1 by omega)
 exact Nat.lt_irrefl _ (Nat.lt_of_lt_of_le (ofd_lt d) (Nat.le_trans h3 h1))
def RetDgE (n:Nat) (x:Int) (w:World) (e:Ending) (w':World):Prop:=∃ u,e=.returned (.tuple #[u,.int .i64 x])∧Dg w' u n∧Below w.heap.size w w'
def shlE (m n:Nat):Int:=if m=0 then 0 else if 65536 < n+bl m then 2 else 0
def shlN (m n:Nat):Nat:=if m=0 then 0 else if 65536 < n+bl m then 0 else m * 2^n
theorem shl_any {L:List Nat} {v:Value} {w:World} (h:Raw w v L) (hl:L.length≤100000) (n:Nat) (hn:n≤1000000000) :
  Calls Tryz.prog 125 #[v,.int .i64 (n:Int)] w (RetDgE (shlN (ofd L) n) (shlE (ofd L) n) w):=by
 have HB:=h_ (bare_any h (by omega))
 have LA:Hid (∀ A,Can A (ofd L)→A.length≤100000):=fun A hA=>Nat.le_trans (hA.len_le' h.digs) hl
 clear h
 generalize ofd L=m at *
 obtain ⟨SN,hSN⟩:∃ SN,SN=shlN m n:=⟨_,rfl⟩
 obtain ⟨SE,hSE⟩:∃ SE,SE=shlE m n:=⟨_,rfl⟩
 rw [← hSN,← hSE]
 have HSN:=h_ hSN
 have HSE:=h_ hSE
 clear hSN hSE
 go_enter Tryz.func125,Tryz.ntmps125
 go_wp2_with fail
 refine HB.out.mono ?_
 rintro e w1 ⟨u,rfl,hu,hb1⟩
 obtain ⟨A,hA,cA⟩:=hu
 have hAl:=LA.out A cA
 have HBits:=h_ (bits_any hA (by omega))
 rw [cA.val] at HBits
 obtain ⟨a,c,rfl,-⟩:=hA.sl.form
 have HA:=h_ hA
 have CA:=h_ cA
 have HB1:=h_ hb1
 clear hb1 hA HB LA
 by_cases hm0:m=0
 ·subst hm0
  have hA0:=cA.zero
  have e1:Hid (SN=0):=HSN.out
  have e2:Hid (SE=0):=HSE.out
  subst hA0
  clear HBits cA
  go_wp2
  go_ret2
  refine ⟨.slice none 0 0,?_,?_,HB1.out⟩
  ·rw [e2.out]; rfl
  ·rw [e1.out]; exact Dg.nil HA.out.tab
 ·have hp:=cA.pos hm0
  have e0:((A.length:Int) == 0)=false:=by rw [beq_eq_false_iff_ne]; omega
  have hbl:=cA.bits_len hm0
  have hd64:=bl64 (dg_lt cA.digs (A.length - 1))
  have HM0:=h_ hm0
  have hbm:bl m≤6400000:=by omega
  clear cA
  go_wp2_with fail
  refine HBits.out.mono ?_
  rintro e w2 ⟨rfl,hb2⟩
  have HA2:=h_ (HA.out.below hb2)
  have HB2:=h_ (HB1.out.trans (hb2.mono HB1.out.size))
  clear hb2 HA HB1 HBits hm0
  by_cases hnb:65536 < n+bl m
  ·have e1:Hid (SN=0):=by rw [Hid,HSN.out]; unfold shlN; rw [if_neg HM0.out,if_pos hnb]
   have e2:Hid (SE=2):=by rw [Hid,HSE.out]; unfold shlE; rw [if_neg HM0.out,if_pos hnb]
   have g1:decide ((65536:Int) - (bl m:Int) < (n:Int))=true:=decide_eq_true (by omega)
   have g2:(65536:Int) - (bl m:Int) < (n:Int):=by omega
   clear hbl hd64
   generalize bl m=b at *
   go_wp2
   go_ret2
   refine ⟨.slice none 0 0,?_,?_,HB2.out⟩
   ·rw [e2.out]; rfl
   ·rw [e1.out]; exact Dg.nil HA2.out.tab
  ·have e1:Hid (SN=m * 2^n):=by rw [Hid,HSN.out]; unfold shlN; rw [if_neg HM0.out,if_neg hnb]
   have e2:Hid (SE=0):=by rw [Hid,HSE.out]; unfold shlE; rw [if_neg HM0.out,if_neg hnb]
   have g1:decide ((65536:Int) - (bl m:Int) < (n:Int))=false:=decide_eq_false (by omega)
   have hn65:n≤65536:=by omega
   obtain ⟨q,hq⟩:∃ q,q=n / 64:=⟨_,rfl⟩
   obtain ⟨p,hpp⟩:∃ p,p=n % 64:=⟨_,rfl⟩
   have hn64:n=64 * q+p:=by omega
   have hp64:p < 64:=by omega
   have e3:((n:Int) / 64)=q:=by omega
   have e4:((n:Int) % 64)=p:=by omega
   obtain ⟨len,hlen⟩:∃ len,len=A.length+q+1:=⟨_,rfl⟩
   have hll:len≤200000:=by omega
   have hqq:q≤1024:=by omega
   have HEND:Hid (∀ X,X=m * 2^n % 18446744073709551616^len→X=SN):=by
    intro X hX
    rw [hX,e1.out]
    apply Nat.mod_eq_of_lt
    have h1:=CA.out.lt
    rw [hlen,pow64,show 64 * (A.length+q+1)=64 * A.length+(64 * q+64) by omega,Nat.pow_add,← pow64]
    exact Nat.mul_lt_mul_of_lt_of_le h1 (Nat.pow_le_pow_right (by omega) (by omega)) (Nat.two_pow_pos _)
   have HDIG:Hid (∀ i:Nat,m * 2^n / 18446744073709551616^i % 18446744073709551616=lim A ((i:Int) - q - 1) / 2^(64 - p)+lim A ((i:Int) - q) * 2^p % 18446744073709551616):=by
    intro i
    rw [hn64,← CA.out.val]
    exact shl_digit CA.out.digs (by omega)
   have HLN:Hid (len=A.length+q+1):=hlen
   obtain ⟨r,hr⟩:∃ r,r=64 - p:=⟨_,rfl⟩
   rw [← hr] at HDIG
   have hr64:r≤64:=by omega
   have hwr:IntKind.i64.wrap (64 - (p:Int))=(r:Int):=(IntWalk.i64_in _ (by omega)).trans (by omega)
   have HPR:Hid (r+p=64):=by rw [Hid]; omega
   clear hr hq hpp hlen hbl hd64 hnb hn64
   generalize bl m=b at *
   go_wp2_with (refine wpList_mk (w0:=w2) rfl (.tmp 34) 40 rfl w2.heap.size 22 (.int .u64 0) 8 Tryz.underlying40 Tryz.info22 rfl (by decide) _ _ len rfl (by have:=HLN.out; omega) (by omega) (Below.refl _ _) (Nat.le_refl _) ?_)
   intro w3 ho1 hb1 hB1
   have hS:Hid (Fill len w2 w3 _ (List.replicate len 0) 0∧ofd (List.replicate len 0)=m * 2^n % 18446744073709551616^0):=⟨Fill.start ho1 hb1,by rw [ofd_zeros,Nat.pow_zero,Nat.mod_one]⟩
   clear ho1 hb1 hB1
   go_wp2
   go_loopw [38] (fun i wr=>∃ (k:Nat) (O:List Nat),i=.int .i64 k∧k≤len∧Hid (Fill len w2 wr (.slice (some ⟨w2.heap.size,0,none⟩) len len) O k∧ofd O=m * 2^n % 18446744073709551616^k)) (fun i _=>len - (intOf i).toNat)
   case atStart=>exact ⟨0,_,rfl,by omega,hS⟩
   case round =>
    obtain ⟨k,O,rfl,hk,hh⟩:=hrel
    by_cases hkl:k < len
    ·have hfz:=hh.out.1.own.frozenAt k
     have hx:wr.cell? ⟨w2.heap.size,k,none⟩=some (.int .u64 (dg O k:Nat)):=by
      rw [hh.out.1.own.cellAt k (by omega)]
      exact dvl_get (dg_get (by rw [hh.out.1.len]; exact hkl))
     have HRa:=h_ (HA2.out.below hh.out.1.b)
     have x1:=lim_lt CA.out.digs ((k:Int) - q)
     have x2:=lim_lt CA.out.digs ((k:Int) - q - 1)
     have C1:Hid (∀ w' z,z=(k:Int) - q→Raw w' (.slice a A.length c) A→Calls Tryz.prog 108 #[.slice a A.length c,.int .i64 z] w' fun e w''=>e=.returned (.int .u64 (lim A ((k:Int) - q):Nat))∧w'=w''):=by
      rintro w' z rfl hw'
      exact limb_any hw' _
     have C2:Hid (∀ w' z,z=(k:Int) - q - 1→Raw w' (.slice a A.length c) A→Calls Tryz.prog 108 #[.slice a A.length c,.int .i64 z] w' fun e w''=>e=.returned (.int .u64 (lim A ((k:Int) - q - 1):Nat))∧w'=w''):=by
      rintro w' z rfl hw'
      exact limb_any hw' _
     have HST:Hid (∀ u w',Hid (w'=wr.drew)→u=.int .u64 ((lim A ((k:Int) - q - 1) / 2^r+lim A ((k:Int) - q) * 2^p % 18446744073709551616:Nat):Int)→∃ O',Hid (Fill len w2 (w'.setCell ⟨w2.heap.size,k,none⟩ u) (.slice (some ⟨w2.heap.size,0,none⟩) len len) O' (k+1)∧ofd O'=m * 2^n % 18446744073709551616^(k+1))):=by
      intro u w' hw' hu
      have hm:=hh.out.1.mod hkl hh.out.2
      have hlt:m * 2^n / 18446744073709551616^k % 18446744073709551616 < 18446744073709551616:=Nat.mod_lt _ (Nat.zero_lt_succ _)
      rw [← HDIG.out k] at hu
      rw [hw'.out]
      exact ⟨_,(Fill.drew hh.out.1).step (Nat.le_refl _) _ u hlt hu,hm⟩
     generalize lim A ((k:Int) - q)=x at *
     generalize lim A ((k:Int) - q - 1)=y at *
     go_wp2_with fail
     refine wp_tail 16 (by kernel_rfl) (by kernel_rfl) ?_
     intro w4 h4
     have HR4:Hid (Raw w4 (.slice a A.length c) A):=by rw [h4.out]; exact ⟨HRa.out.tab,HRa.out.sl,HRa.out.digs,HRa.out.cap⟩
     have hx4:w4.cell? ⟨w2.heap.size,k,none⟩=some (.int .u64 (dg O k:Nat)):=by rw [h4.out]; exact hx
     have hf4:w4.frozen? ⟨w2.heap.size,k,none⟩=false:=by rw [h4.out]; exact hfz
     simp only [List.take_succ_cons,List.take_zero,List.drop_succ_cons,List.drop_zero]
     repeat still_step
     still_call (still_of (C1.out _ _ (by first | omega | (rw [IntWalk.i64_in _ (by omega)])) HR4.out))
     repeat still_step
     still_call (still_of (C2.out _ _ (by first | omega | (rw [IntWalk.i64_in _ (by omega)])) HR4.out))
     repeat still_step
     have HV:=h_ (or_val2 (x:=x) x2 HPR.out)
     refine wpStill_fin ?_
     go_wp2
     obtain ⟨O',HO⟩:=HST.out _ w4 h4 (congrArg (Value.int .u64) HV.out)
     go_roundw
     case rel=>exact ⟨k+1,O',by go_num,by omega,HO⟩
     case measure=>simp [intOf]; omega
    ·obtain rfl:k=len:=by omega
     have HF:=h_ (HEND.out _ hh.out.2)
     go_wp2_with fail
     refine (bare_any (hh.out.1.raw HA2.out.tab) (by rw [hh.out.1.len]; omega)).mono ?_
     rintro e w4 ⟨u,rfl,hu,hb3⟩
     have HU:Hid (Dg w4 u SN):=by rw [← HF.out]; exact hu
     have HB4:=h_ (hh.out.1.b.trans (hb3.mono hh.out.1.b.size))
     clear hu hb3
     go_wp2
     go_ret2
     refine ⟨u,?_,HU.out,HB2.out.trans (HB4.out.mono HB2.out.size)⟩
     rw [e2.out]; rfl
theorem col_sub {O T A P c y d x b R:Nat} (h:O+T=A+P * c) (hy:y+(c+d)=x+R * b):O+P * y+(T+P * d)=A+P * x+P * R * b:=by
 have h1:P * (y+(c+d))=P * (x+R * b):=by rw [hy]
 rw [Nat.mul_add,Nat.mul_add,Nat.mul_add,← Nat.mul_assoc] at h1
 omega
theorem sub_end {O m n R Q c T K:Nat} (h:O+T=m+Q * c) (hK:K=T+Q * R) (hn:K=n) (hnm:n≤m) (_:m < Q) (hO:O < Q):O=m - n:=by
 have hR:R=0:=by
  rcases Nat.eq_zero_or_pos R with h0 | h0
  ·exact h0
  ·have:=Nat.le_mul_of_pos_right Q h0; omega
 subst hR
 rcases Nat.eq_zero_or_pos c with h0 | h0
 ·subst h0; omega
 ·have:=Nat.le_mul_of_pos_right Q h0; omega
def subE (m n:Nat):Int:=if m < n then 1 else 0
theorem sub_any {L K:List Nat} {u v:Value} {w:World} (h:Raw w u L) (k:Raw w v K) (hl:L.length≤100000) (kl:K.length≤100000) :
  Calls Tryz.prog 177 #[u,v] w (RetDgE (ofd L - ofd K) (subE (ofd L) (ofd K)) w):=by
 have HC:=h_ (cmp_any h k hl kl)
 have HL:=h_ h
 have HK:=h_ k
 obtain ⟨a,c,rfl,hcell⟩:=h.sl.form
 obtain ⟨a',c',rfl,-⟩:=k.sl.form
 have HCL:=h_ hcell
 clear h k hcell
 by_cases hlt:ofd L < ofd K
 ·have hc:cmpN (ofd L) (ofd K)=-1:=cmpN_lt hlt
  have e1:ofd L - ofd K=0:=by omega
  have e2:subE (ofd L) (ofd K)=1:=by unfold subE; rw [if_pos hlt]
  rw [hc] at HC
  rw [e1,e2]
  clear hlt hc e1 e2 HCL
  go_enter Tryz.func177,Tryz.ntmps177
  go_wp2_with fail
  refine HC.out.mono ?_
  rintro e w1 ⟨rfl,hb⟩
  have HB:=h_ hb
  clear hb
  go_wp2
  go_ret2
  exact ⟨.slice none 0 0,rfl,Dg.nil (HL.out.tab.below HB.out),HB.out⟩
 ·have hge:ofd K≤ofd L:=by omega
  have e2:subE (ofd L) (ofd K)=0:=by unfold subE; rw [if_neg hlt]
  have hc:decide (cmpN (ofd L) (ofd K) < 0)=false:=decide_eq_false (by unfold cmpN; split <;> (try split) <;> omega)
  have HEND:Hid (∀ (O:List Nat) (c:Nat),Digs O→O.length=L.length→ofd O+ofd (K.take L.length)=ofd (L.take L.length)+18446744073709551616^L.length * c→ofd O=ofd L - ofd K):=by
   intro O c hO hOl hs
   rw [take_all (Nat.le_refl _)] at hs
   refine sub_end hs (ofd_cut K L.length) rfl hge (ofd_lt HL.out.digs) ?_
   rw [← hOl]; exact ofd_lt hO
  rw [e2]
  obtain ⟨D,hD⟩:∃ D,D=ofd L - ofd K:=⟨_,rfl⟩
  rw [← hD]; rw [← hD] at HEND
  generalize cmpN (ofd L) (ofd K)=cc at *
  clear hlt hge e2 hD
  go_enter Tryz.func177,Tryz.ntmps177
  go_wp2_with fail
  refine HC.out.mono ?_
  rintro e w1 ⟨rfl,hb⟩
  have HL1:=h_ (HL.out.below hb)
  have HK1:=h_ (HK.out.below hb)
  have HB:=h_ hb
  have HCL1:Hid (∀ (i:Nat),i < L.length→∃ b off,a=some ⟨b,off,none⟩∧w1.cell? ⟨b,off+i,none⟩=some (.int .u64 (dg L i:Nat))):=by
   intro i hi
   obtain ⟨b,off,e,hx⟩:=HCL.out (by omega)
   exact ⟨b,off,e,cell_below hb (Nat.le_refl _) (hx i _ (dg_get hi))⟩
  clear hb HL HK HCL HC
  go_wp2_with (refine wpList_mk (w0:=w1) rfl (.tmp 14) 40 rfl w1.heap.size 22 (.int .u64 0) 8 Tryz.underlying40 Tryz.info22 rfl (by decide) _ _ L.length rfl rfl (by omega) (Below.refl _ _) (Nat.le_refl _) ?_)
  intro w2 ho1 hb1 hB1
  have hS:Hid (Fill L.length w1 w2 _ (List.replicate L.length 0) 0∧ofd (List.replicate L.length 0)+ofd (K.take 0)=ofd (L.take 0)+18446744073709551616^0 * 0):=⟨Fill.start ho1 hb1,by rw [ofd_zeros]; rfl⟩
  clear ho1 hb1 hB1
  go_wp2
  go_loopw [7,18] (fun cc i wr=>∃ (k c:Nat) (O:List Nat),i=.int .i64 k∧cc=.int .u64 c∧k≤L.length∧c≤1∧Hid (Fill L.length w1 wr (.slice (some ⟨w1.heap.size,0,none⟩) L.length L.length) O k∧ofd O+ofd (K.take k)=ofd (L.take k)+18446744073709551616^k * c)) (fun _ i _=>L.length - (intOf i).toNat)
  case atStart=>exact ⟨0,0,_,rfl,rfl,by omega,by omega,hS⟩
  case round =>
   obtain ⟨k,c1,O,rfl,rfl,hk,hcc,hh⟩:=hrel
   by_cases hkl:k < L.length
   ·have hfz:=hh.out.1.own.frozenAt k
    have hx:wr.cell? ⟨w1.heap.size,k,none⟩=some (.int .u64 (dg O k:Nat)):=by
     rw [hh.out.1.own.cellAt k (by omega)]
     exact dvl_get (dg_get (by rw [hh.out.1.len]; exact hkl))
    obtain ⟨b,off,rfl,hcl⟩:=HCL1.out k hkl
    have hxa:wr.cell? ⟨b,off+k,none⟩=some (.int .u64 (dg L k:Nat)):=cell_below hh.out.1.b (Nat.le_refl _) hcl
    have HRk:=h_ (HK1.out.below hh.out.1.b)
    have C2:Hid (∀ w' z,z=(k:Int)→Raw w' (.slice a' K.length c') K→Calls Tryz.prog 108 #[.slice a' K.length c',.int .i64 z] w' fun e w''=>e=.returned (.int .u64 (dg K k:Nat))∧w'=w''):=by
     rintro w' z rfl hw'
     have:=limb_any hw' (k:Int)
     rwa [lim_nat] at this
    have hA:=fun w=>sub64 (dg L k) (dg K k) c1 hcc w
    have d1:=dg_lt HL1.out.digs k
    have d2:=dg_lt HK1.out.digs k
    have HST:Hid (∀ u w' y b,Hid (w'=wr.drew)→y+(c1+dg K k)=dg L k+18446744073709551616 * b→y < 18446744073709551616→u=.int .u64 (y:Int)→Fill L.length w1 (w'.setCell ⟨w1.heap.size,k,none⟩ u) (.slice (some ⟨w1.heap.size,0,none⟩) L.length L.length) (O.set k y) (k+1)∧ofd (O.set k y)+ofd (K.take (k+1))=ofd (L.take (k+1))+18446744073709551616^(k+1) * b):=by
     intro u w' y b hw' hy hy2 hu
     rw [hw'.out]
     refine ⟨(Fill.drew hh.out.1).step (Nat.le_refl _) y u hy2 hu,?_⟩
     rw [hh.out.1.val hkl,take_dg,take_dg,Nat.pow_succ]
     exact col_sub hh.out.2 hy
    generalize dg L k=x at *
    generalize dg K k=y at *
    obtain ⟨s,hs⟩:∃ s,s=(x+18446744073709551616 - y - c1) % 18446744073709551616:=⟨_,rfl⟩
    obtain ⟨bb,hbb⟩:∃ b,b=(if x < y+c1 then 1 else 0:Nat):=⟨_,rfl⟩
    rw [← hs,← hbb] at hA
    have hb1:bb≤1:=by rw [hbb]; split <;> omega
    have hsum:s+(c1+y)=x+18446744073709551616 * bb∧s < 18446744073709551616:=by rw [hs,hbb]; split <;> omega
    have HSS:=h_ hsum
    clear hs hbb hsum d1 d2 hcl
    go_wp2_with fail
    have HR4:Hid (Raw wr.drew (.slice a' K.length c') K):=⟨HRk.out.tab,HRk.out.sl,HRk.out.digs,HRk.out.cap⟩
    have hx4:wr.drew.cell? ⟨w1.heap.size,k,none⟩=some (.int .u64 (dg O k:Nat)):=hx
    have hf4:wr.drew.frozen? ⟨w1.heap.size,k,none⟩=false:=hfz
    have hxa4:wr.drew.cell? ⟨b,off+k,none⟩=some (.int .u64 (x:Int)):=hxa
    go_region_with (go_at_call 108; refine (C2.out _ _ (by omega) HR4.out).mono ?_; rintro e w' ⟨rfl,rfl⟩)
    all_goals go_wp2
    all_goals (have HO:=HST.out _ wr.drew s bb rfl HSS.out.1 HSS.out.2 rfl)
    all_goals go_roundw
    all_goals (first | exact ⟨k+1,bb,_,by go_num,rfl,by omega,by omega,HO⟩ | (simp [intOf]; omega))
   ·obtain rfl:k=L.length:=by omega
    have HF:=h_ (HEND.out _ _ hh.out.1.digs hh.out.1.len hh.out.2)
    go_wp2_with fail
    refine (bare_any (hh.out.1.raw HL1.out.tab) (by rw [hh.out.1.len]; omega)).mono ?_
    rintro e w4 ⟨u,rfl,hu,hb3⟩
    have HU:Hid (Dg w4 u D):=by rw [← HF.out]; exact hu
    have HB4:=h_ (hh.out.1.b.trans (hb3.mono hh.out.1.b.size))
    clear hu hb3
    go_wp2
    go_ret2
    exact ⟨u,rfl,HU.out,HB.out.trans (HB4.out.mono HB.out.size)⟩
theorem small_any {L:List Nat} {v:Value} {w:World} (h:Raw w v L) (hl:L.length≤100000) :
  Calls Tryz.prog 126 #[v] w fun e w'=>e=.returned (.tuple #[.int .u64 ((if ofd L < 18446744073709551616 then ofd L else 0:Nat):Int),.bool (decide (ofd L < 18446744073709551616))])∧Below w.heap.size w w':=by
 have HB:=h_ (bare_any h (by omega))
 clear h hl
 generalize ofd L=m at *
 obtain ⟨x,hx⟩:∃ x,x=(if m < 18446744073709551616 then m else 0):=⟨_,rfl⟩
 obtain ⟨y,hy⟩:∃ y,y=decide (m < 18446744073709551616):=⟨_,rfl⟩
 rw [← hx,← hy]
 have HX:=h_ hx
 have HY:=h_ hy
 clear hx hy
 go_enter Tryz.func126,Tryz.ntmps126
 go_wp2_with fail
 refine HB.out.mono ?_
 rintro e w1 ⟨u,rfl,hu,hb1⟩
 obtain ⟨A,hA,cA⟩:=hu
 obtain ⟨a,c,rfl,hc⟩:=hA.sl.form
 have HB1:=h_ hb1
 clear hb1 HB
 rcases A with _ | ⟨d,A⟩
 ·have hm:m=0:=cA.val.symm
  subst hm
  have e1:x=0:=HX.out
  have e2:y=true:=HY.out
  subst e1 e2
  clear hc hA cA HX HY
  go_wp2
  go_ret2
  exact ⟨rfl,HB1.out⟩
 ·obtain ⟨b,off,rfl,hc1⟩:=hc (by simp)
  have hc0:=hc1 0 d rfl
  have hd:d < 18446744073709551616:=hA.digs d (by simp)
  rcases A with _ | ⟨d2,A⟩
  ·have hm:m=d:=by rw [← cA.val]; simp [ofd]
   subst hm
   have e1:x=m:=by rw [HX.out,if_pos hd]
   have e2:y=true:=by rw [HY.out]; exact decide_eq_true hd
   subst e1 e2
   clear hc hc1 hA cA HX HY
   have hc0':w1.cell? ⟨b,off,none⟩=some (.int .u64 (x:Int)):=hc0
   go_wp2
   go_ret2
   exact ⟨rfl,HB1.out⟩
  ·have hm:¬ m < 18446744073709551616:=by
    have:=cA.top (by simp)
    have h2:18446744073709551616^1≤18446744073709551616^((d :: d2 :: A).length - 1):=pow_mono (by simp)
    rw [Nat.pow_one] at h2
    exact Nat.not_lt.2 (Nat.le_trans h2 this)
   have e1:x=0:=by rw [HX.out,if_neg hm]
   have e2:y=false:=by rw [HY.out]; exact decide_eq_false hm
   subst e1 e2
   clear hc hc1 hc0 hA cA HX HY hm hd
   have g1:(((d :: d2 :: A).length:Int) == 0)=false:=by rw [beq_eq_false_iff_ne]; simp; omega
   have g2:(((d :: d2 :: A).length:Int) == 1)=false:=by rw [beq_eq_false_iff_ne]; simp; omega
   generalize (d :: d2 :: A).length=n at *
   go_wp2
   go_ret2
   exact ⟨rfl,HB1.out⟩
theorem row_col {o x n c R hi lo l2 c1 l3 c2:Nat} (hR:R=18446744073709551616) (hx:x < R) (hn:n < R) (ho:o < R) (hc:c < R) (h1:hi=x * n / R) (h2:lo=x * n % R) (h3:l2=(lo+c+0) % R) (h4:c1=(lo+c+0) / R) (h5:l3=(o+l2+0) % R) (h6:c2=(o+l2+0) / R) :
  hi+c1 < R∧hi+c1+c2 < R∧l3+R * (hi+c1+c2)=o+(x * n+c)∧c1≤1∧c2≤1∧l3 < R∧l2 < R∧lo < R:=by
 have h7:x * n≤(R - 1) * (R - 1):=Nat.mul_le_mul (by omega) (by omega)
 have h8:R * hi+lo=x * n:=by rw [h1,h2]; exact Nat.div_add_mod _ _
 have h9:lo < R:=by rw [h2]; exact Nat.mod_lt _ (by omega)
 have h10:R * c1+l2=lo+c:=by rw [h3,h4]; have:=Nat.div_add_mod (lo+c+0) R; omega
 have h11:R * c2+l3=o+l2:=by rw [h5,h6]; have:=Nat.div_add_mod (o+l2+0) R; omega
 have h12:l2 < R:=by rw [h3]; exact Nat.mod_lt _ (by omega)
 have h13:l3 < R:=by rw [h5]; exact Nat.mod_lt _ (by omega)
 generalize x * n=y at *
 clear h1 h2 h3 h4 h5 h6
 subst hR
 omega
structure RowI (base g N cap i:Nat) (L O0:List Nat) (x:Nat) (w0 wr:World) (O:List Nat) (j c:Nat):Prop where
 own:wr.ownsRow base 22 1 (.slice (some ⟨g,0,none⟩) N cap) N (dvl O)
 digs:Digs O
 sum:ofd O+18446744073709551616^(i+j) * c=ofd O0+18446744073709551616^i * (ofd (L.take j) * x)
 rest:∀ t,i+j≤t→dg O t=dg O0 t
 b:Below base w0 wr
theorem RowI.step {base g N cap i:Nat} {L O0:List Nat} {x:Nat} {w0 wr:World} {O:List Nat} {j c:Nat} (h:RowI base g N cap i L O0 x w0 wr O j c) (hg:base≤g) (hj:i+j < N) (l3 c':Nat) (hs:l3+18446744073709551616 * c'=dg O (i+j)+(dg L j * x+c)) (hl:l3 < 18446744073709551616) (u:Value) (hu:u=.int .u64 (l3:Int)) :
  RowI base g N cap i L O0 x w0 (wr.setCell ⟨g,i+j,none⟩ u) (O.set (i+j) l3) (j+1) c':=by
 subst hu
 have hlen:O.length=N:=own_len h.own
 refine ⟨?_,h.digs.set hl,?_,fun t ht=>?_,h.b.setCell hg _⟩
 ·rw [← dvl_set]; exact (h.own.stored (i+j) _).1
 ·have h1:=ofd_set O (i+j) l3 (by omega)
  have h2:=h.sum
  rw [take_dg,Nat.add_mul,Nat.mul_add,show i+(j+1)=i+j+1 by omega,Nat.pow_succ,Nat.mul_assoc (18446744073709551616^j),← Nat.mul_assoc (18446744073709551616^i) (18446744073709551616^j),← Nat.pow_add]
  have h3:18446744073709551616^(i+j) * (l3+18446744073709551616 * c')=18446744073709551616^(i+j) * (dg O (i+j)+(dg L j * x+c)):=by rw [hs]
  rw [Nat.mul_add,Nat.mul_add,Nat.mul_add,← Nat.mul_assoc] at h3
  omega
 ·rw [dg_set _ _ _ _ (by omega)]; exact h.rest t (by omega)
theorem add64_0 (x y:Nat) (w:World) :
  (callFunc 145 #[.int .u64 (x:Int),.int .u64 (y:Int),.int .u64 0]).run Tryz.prog w =
   .ok (.value (.tuple #[.int .u64 (((x+y+0) % 18446744073709551616:Nat):Int),.int .u64 (((x+y+0) / 18446744073709551616:Nat):Int)])) w:=add64 x y 0 (by omega) w
def RowE (base g N cap i:Nat) (L O0:List Nat) (x:Nat) (w0:World) (e:Ending) (w':World):Prop :=
 (∃ v,e=.returned v)∧∃ O,w'.ownsRow base 22 1 (.slice (some ⟨g,0,none⟩) N cap) N (dvl O)∧Digs O∧ofd O=ofd O0+18446744073709551616^i * (ofd L * x)∧(∀ t,i+L.length < t→dg O t=dg O0 t)∧Below base w0 w'
theorem row_any {g N cap i x M cc:Nat} {O0 L:List Nat} {v:Value} {w0 w:World} (own:w.ownsRow w0.heap.size 22 1 (.slice (some ⟨g,0,none⟩) N cap) N (dvl O0)) (hd:Digs O0) (hB:Below w0.heap.size w0 w) (h:Raw w0 v L) (hg:w0.heap.size≤g)
  (hM:i+M=N) (hiN:L.length < M) (hN:N≤300000) (hz:dg O0 (i+L.length)=0) (hx:x < 18446744073709551616) :
  Calls Tryz.prog 110 #[.slice (some ⟨g,i,none⟩) M cc,v,.int .u64 (x:Int)] w (RowE w0.heap.size g N cap i L O0 x w0):=by
 have HI:Hid (RowI w0.heap.size g N cap i L O0 x w0 w O0 0 0):=⟨own,hd,by simp [ofd],fun t _=>rfl,hB⟩
 have HD:=h_ h.digs
 have HZ:=h_ hz
 obtain ⟨a,c,rfl,hcell⟩:=h.sl.form
 have HC:=h_ hcell
 clear own hd hB h hcell hz
 go_enter Tryz.func110,Tryz.ntmps110
 go_wp2
 go_loopw [6,14] (fun cy ix wr=>∃ (j c:Nat) (O:List Nat),ix=.int .i64 j∧cy=.int .u64 c∧j≤L.length∧c < 18446744073709551616∧Hid (RowI w0.heap.size g N cap i L O0 x w0 wr O j c)) (fun _ ix _=>L.length - (intOf ix).toNat)
 case atStart=>exact ⟨0,0,O0,rfl,rfl,by omega,by omega,HI⟩
 case round =>
  obtain ⟨j,cy,O,rfl,rfl,hj,hcy,hh⟩:=hrel
  have hfz:wr.frozen? ⟨g,i+j,none⟩=false:=hh.out.own.frozenAt (i+j)
  have hxo:wr.cell? ⟨g,i+j,none⟩=some (.int .u64 (dg O (i+j):Nat)):=by
   rw [hh.out.own.cellAt (i+j) (by omega)]
   exact dvl_get (dg_get (by rw [own_len hh.out.own]; omega))
  by_cases hlt:j < L.length
  ·obtain ⟨b,off,rfl,hc2⟩:=HC.out (by omega)
   have hxa:wr.cell? ⟨b,off+j,none⟩=some (.int .u64 (dg L j:Nat)):=cell_below hh.out.b (Nat.le_refl _) (hc2 j _ (dg_get hlt))
   have d1:=dg_lt HD.out j
   have d2:=dg_lt hh.out.digs (i+j)
   have HST:=h_ (fun l3 c' h1 h2 u h3=>hh.out.step hg (by omega) l3 c' h1 h2 u h3)
   generalize dg L j=y at *
   generalize dg O (i+j)=o at *
   obtain ⟨hi,ehi⟩:∃ hi,hi=y * x / 18446744073709551616:=⟨_,rfl⟩
   obtain ⟨lo',elo⟩:∃ lo',lo'=y * x % 18446744073709551616:=⟨_,rfl⟩
   obtain ⟨l2,el2⟩:∃ l2,l2=(lo'+cy+0) % 18446744073709551616:=⟨_,rfl⟩
   obtain ⟨c1,ec1⟩:∃ c1,c1=(lo'+cy+0) / 18446744073709551616:=⟨_,rfl⟩
   obtain ⟨l3,el3⟩:∃ l3,l3=(o+l2+0) % 18446744073709551616:=⟨_,rfl⟩
   obtain ⟨c2',ec2⟩:∃ c2,c2=(o+l2+0) / 18446744073709551616:=⟨_,rfl⟩
   obtain ⟨k1,k2,k3,k4,k5,k6,k7,k8⟩:=row_col rfl d1 hx d2 hcy ehi elo el2 ec1 el3 ec2
   have M1:=h_ (fun w=>mul64 y x d1 hx w)
   rw [← ehi,← elo] at M1
   have A1:=fun w=>add64_0 lo' cy w
   rw [← el2,← ec1] at A1
   have A2:=fun w=>add64_0 o l2 w
   rw [← el3,← ec2] at A2
   have W1:IntKind.u64.wrap ((hi:Int)+c1)=((hi+c1:Nat):Int):=by rw [IntKind.wrap_u64]; omega
   have W2:IntKind.u64.wrap (((hi+c1:Nat):Int)+c2')=((hi+c1+c2':Nat):Int):=by rw [IntKind.wrap_u64]; omega
   have HO:=h_ (HST.out l3 (hi+c1+c2') k3 k6 _ rfl)
   have K2:=k2
   obtain ⟨hs,ehs⟩:∃ hs,hs=hi+c1:=⟨_,rfl⟩
   rw [← ehs] at W1 W2 HO K2
   obtain ⟨ht,eht⟩:∃ ht,ht=hs+c2':=⟨_,rfl⟩
   rw [← eht] at W2 HO K2
   clear ehi elo el2 ec1 el3 ec2 k1 k2 k3 k4 k5 HST ehs eht hc2
   go_wp2_with fail
   refine (M1.out _).mono ?_
   rintro e w2 ⟨rfl,rfl⟩
   go_wp2
   go_roundw
   case rel=>exact ⟨j+1,ht,_,by go_num,rfl,by omega,K2,HO⟩
   case measure=>simp [intOf]; omega
  ·obtain rfl:j=L.length:=by omega
   have hiL:L.length < M:=hiN
   have HE:Hid (∀ u,u=.int .u64 (cy:Int)→RowE w0.heap.size g N cap i L O0 x w0 (.returned (.tuple #[])) (wr.setCell ⟨g,i+L.length,none⟩ u)):=by
    rintro u rfl
    have hlen:O.length=N:=own_len hh.out.own
    refine ⟨⟨_,rfl⟩,O.set (i+L.length) cy,?_,hh.out.digs.set hcy,?_,fun t ht=>?_,hh.out.b.setCell hg _⟩
    ·rw [← dvl_set]; exact (hh.out.own.stored (i+L.length) _).1
    ·have h1:=ofd_set O (i+L.length) cy (by omega)
     have h2:=hh.out.sum
     rw [take_all (Nat.le_refl _)] at h2
     rw [hh.out.rest _ (Nat.le_refl _),HZ.out,Nat.mul_zero] at h1
     omega
    ·rw [dg_set _ _ _ _ (by omega)]; exact hh.out.rest t (by omega)
   go_wp2
   obtain ⟨_,hE⟩:=HE.out _ rfl
   refine bodyPost_ret (results_none rfl _ _ _) rfl ⟨⟨_,rfl⟩,hE⟩
structure ProI (N:Nat) (L K:List Nat) (w wr:World) (out:Value) (O:List Nat) (i:Nat):Prop where
 own:wr.ownsRow w.heap.size 22 1 out N (dvl O)
 digs:Digs O
 sum:ofd O=ofd L * ofd (K.take i)
 rest:∀ t,i+L.length≤t→dg O t=0
 b:Below w.heap.size w wr
theorem product_any {L K:List Nat} {u v:Value} {w:World} (h:Raw w u L) (k:Raw w v K) (hl:L.length≤100000) (kl:K.length≤100000) :
  Calls Tryz.prog 71 #[u,v] w (RetDg (ofd L * ofd K) w):=by
 have HL:=h_ h
 have HK:=h_ k
 obtain ⟨a,c,rfl,-⟩:=h.sl.form
 obtain ⟨a',c',rfl,kcell⟩:=k.sl.form
 have HKC:=h_ kcell
 obtain ⟨N,hN⟩:∃ N,N=L.length+K.length+1:=⟨_,rfl⟩
 have HN:=h_ hN
 have hN2:N≤200001:=by omega
 have hKN:K.length+L.length < N:=by omega
 clear h k kcell hN
 go_enter Tryz.func71,Tryz.ntmps71
 go_wp2_with (refine wpList_mk (w0:=w) rfl (.tmp 13) 40 rfl w.heap.size 22 (.int .u64 0) 8 Tryz.underlying40 Tryz.info22 rfl (by decide) _ _ N rfl (by have:=HN.out; omega) (by omega) (Below.refl _ _) (Nat.le_refl _) ?_)
 intro w1 ho1 hb1 hB1
 have hS:Hid (ProI N L K w w1 (.slice (some ⟨w.heap.size,0,none⟩) N N) (List.replicate N 0) 0):=⟨by have:=ho1.out; rwa [dvl_zeros] at this,digs_zeros N,by rw [ofd_zeros]; simp [ofd],fun t _=>dg_zeros N t,hb1⟩
 clear ho1 hb1 hB1
 go_wp2
 go_loopw [17] (fun ix wr=>∃ (i:Nat) (O:List Nat),ix=.int .i64 i∧i≤K.length∧Hid (ProI N L K w wr (.slice (some ⟨w.heap.size,0,none⟩) N N) O i)) (fun ix _=>K.length - (intOf ix).toNat)
 case atStart=>exact ⟨0,_,rfl,by omega,hS⟩
 case round =>
  obtain ⟨i,O,rfl,hi,hh⟩:=hrel
  by_cases hlt:i < K.length
  ·obtain ⟨b,off,rfl,hc2⟩:=HKC.out (by omega)
   have hxa:wr.cell? ⟨b,off+i,none⟩=some (.int .u64 (dg K i:Nat)):=cell_below hh.out.b (Nat.le_refl _) (hc2 i _ (dg_get hlt))
   have d1:=dg_lt HK.out.digs i
   obtain ⟨M,hM⟩:∃ M,M=N - i:=⟨_,rfl⟩
   have hiM:i+M=N:=by omega
   have hMi:(N:Int) - i=M:=by omega
   have hMn:N - i=M:=hM.symm
   have hROW:=h_ (fun cc=>row_any (x:=dg K i) (cc:=cc) hh.out.own hh.out.digs hh.out.b HL.out (Nat.le_refl _) hiM (by omega) (by omega) (hh.out.rest _ (Nat.le_refl _)) d1)
   have HD:Hid (ofd (K.take (i+1))=ofd (K.take i)+18446744073709551616^i * dg K i):=take_dg K i
   generalize dg K i=x at *
   have hiN:(i:Int)≤N:=by omega
   have hiN2:i≤N:=by omega
   have hiN3:i < N:=by omega
   clear hM hc2
   go_wp2_with fail
   refine (hROW.out _).mono ?_
   rintro e w2 ⟨⟨vv,rfl⟩,O',ho,hd,hs,hr,hb⟩
   have HH:Hid (ProI N L K w w2 (.slice (some ⟨w.heap.size,0,none⟩) N N) O' (i+1)):=by
    refine ⟨ho,hd,?_,fun t ht=>?_,hb⟩
    ·rw [hs,HD.out,hh.out.sum,Nat.mul_add,Nat.mul_left_comm (ofd L)]
    ·rw [hr t (by omega)]; exact hh.out.rest t (by omega)
   clear ho hd hs hr hb hROW
   go_wp2
   go_roundw
   case rel=>exact ⟨i+1,O',by go_num,by omega,HH⟩
   case measure=>simp [intOf]; omega
  ·obtain rfl:i=K.length:=by omega
   have HF:Hid (ofd O=ofd L * ofd K):=by have:=hh.out.sum; rwa [take_all (Nat.le_refl _)] at this
   go_wp2_with fail
   refine (bare_any (Raw.of_own hh.out.own (HL.out.tab.below hh.out.b) hh.out.digs) (by rw [own_len hh.out.own]; omega)).mono ?_
   rintro e w4 ⟨u,rfl,hu,hb3⟩
   have HU:Hid (Dg w4 u (ofd L * ofd K)):=by rw [← HF.out]; exact hu
   have HB4:=h_ (hh.out.b.trans (hb3.mono hh.out.b.size))
   clear hu hb3
   go_wp2
   go_ret
   exact ⟨u,rfl,HU.out,HB4.out⟩
def mulN (m n:Nat):Nat:=if 65536 < bl m+bl n then 0 else m * n
def mulE (m n:Nat):Int:=if m=0 ∨ n=0 then 0 else if 65536 < bl m+bl n then 2 else 0
theorem mul_any {L K:List Nat} {u v:Value} {w:World} (h:Raw w u L) (k:Raw w v K) (hl:L.length≤100000) (kl:K.length≤100000) :
  Calls Tryz.prog 32 #[u,v] w (RetDgE (mulN (ofd L) (ofd K)) (mulE (ofd L) (ofd K)) w):=by
 have HB1:=h_ (bare_any h (by omega))
 have HB2:Hid (∀ w',Raw w' v K→Calls Tryz.prog 70 #[v] w' (RetDg (ofd K) w')):=fun w' hw=>bare_any hw (by omega)
 have HK:=h_ k
 have LA:Hid (∀ A,Can A (ofd L)→A.length≤100000):=fun A hA=>Nat.le_trans (hA.len_le' h.digs) hl
 have LB:Hid (∀ A,Can A (ofd K)→A.length≤100000):=fun A hA=>Nat.le_trans (hA.len_le' k.digs) kl
 clear h k
 generalize ofd L=m at *
 generalize ofd K=n at *
 obtain ⟨SN,hSN⟩:∃ SN,SN=mulN m n:=⟨_,rfl⟩
 obtain ⟨SE,hSE⟩:∃ SE,SE=mulE m n:=⟨_,rfl⟩
 rw [← hSN,← hSE]
 have HSN:=h_ hSN
 have HSE:=h_ hSE
 clear hSN hSE
 go_enter Tryz.func32,Tryz.ntmps32
 go_wp2_with fail
 refine HB1.out.mono ?_
 rintro e w1 ⟨u1,rfl,hu,hb1⟩
 have HU:=h_ hu
 have HK1:=h_ (HK.out.below hb1)
 have B1:=h_ hb1
 clear hu hb1 HK HB1
 go_wp2_with fail
 refine (HB2.out _ HK1.out).mono ?_
 rintro e w2 ⟨u2,rfl,hu2,hb2⟩
 obtain ⟨A,hA,cA⟩:=HU.out.below hb2
 obtain ⟨B,hB,cB⟩:=hu2
 have B2:=h_ (B1.out.trans (hb2.mono B1.out.size))
 have hAl:=LA.out A cA
 have hBl:=LB.out B cB
 obtain ⟨a,c,rfl,-⟩:=hA.sl.form
 obtain ⟨a',c',rfl,-⟩:=hB.sl.form
 have HA:=h_ hA
 have HB:=h_ hB
 have CA:=h_ cA
 have CB:=h_ cB
 clear hA hB hb2 HU HK1 B1 LA LB HB2
 by_cases hm:m=0
 ·subst hm
  have hA0:=cA.zero
  subst hA0
  have e1:Hid (SN=0):=by rw [Hid,HSN.out]; unfold mulN; split <;> simp
  have e2:Hid (SE=0):=by rw [Hid,HSE.out]; unfold mulE; rw [if_pos (.inl rfl)]
  clear cA cB
  go_wp2
  go_ret2
  refine ⟨.slice none 0 0,?_,?_,B2.out⟩
  ·rw [e2.out]; rfl
  ·rw [e1.out]; exact Dg.nil HA.out.tab
 ·have ha0:((A.length:Int) == 0)=false:=by rw [beq_eq_false_iff_ne]; have:=cA.pos hm; omega
  by_cases hn:n=0
  ·subst hn
   have hB0:=cB.zero
   subst hB0
   have e1:Hid (SN=0):=by rw [Hid,HSN.out]; unfold mulN; split <;> simp
   have e2:Hid (SE=0):=by rw [Hid,HSE.out]; unfold mulE; rw [if_pos (.inr rfl)]
   clear cA cB hm
   go_wp2
   go_ret2
   refine ⟨.slice none 0 0,?_,?_,B2.out⟩
   ·rw [e2.out]; rfl
   ·rw [e1.out]; exact Dg.nil HA.out.tab
  ·have hb0:((B.length:Int) == 0)=false:=by rw [beq_eq_false_iff_ne]; have:=cB.pos hn; omega
   have HQ1:=h_ (fun w' (hw:Raw w' (.slice a A.length c) A)=>bits_any hw (by omega))
   have HQ2:=h_ (fun w' (hw:Raw w' (.slice a' B.length c') B)=>bits_any hw (by omega))
   rw [cA.val] at HQ1
   rw [cB.val] at HQ2
   have E1:Hid (SN=if 65536 < bl m+bl n then 0 else m * n):=HSN.out
   have E2:Hid (SE=if 65536 < bl m+bl n then 2 else 0):=by
    rw [Hid,HSE.out]; unfold mulE; rw [if_neg (by omega)]
   have q1:=cA.bits_len hm
   have q2:=bl64 (dg_lt cA.digs (A.length - 1))
   have q3:=cB.bits_len hn
   have q4:=bl64 (dg_lt cB.digs (B.length - 1))
   have q5:bl m≤6400100:=by omega
   have q6:bl n≤6400100:=by omega
   have HP:Hid (∀ w',Raw w' (.slice a A.length c) A→Raw w' (.slice a' B.length c') B→Calls Tryz.prog 71 #[.slice a A.length c,.slice a' B.length c'] w' (RetDg (m * n) w')):=by
    intro w' h1 h2
    have:=product_any h1 h2 (by omega) (by omega)
    rwa [cA.val,cB.val] at this
   clear q1 q2 q3 q4 cA cB hm hn HSN HSE
   generalize bl m=bm at *
   generalize bl n=bn at *
   go_wp2_with fail
   refine (HQ1.out _ HA.out).mono ?_
   rintro e w3 ⟨rfl,hb3⟩
   have HA3:=h_ (HA.out.below hb3)
   have HB3:=h_ (HB.out.below hb3)
   have B3:=h_ (B2.out.trans (hb3.mono B2.out.size))
   clear hb3 HA HB B2 HQ1
   go_wp2_with fail
   refine (HQ2.out _ HB3.out).mono ?_
   rintro e w4 ⟨rfl,hb4⟩
   have HA4:=h_ (HA3.out.below hb4)
   have HB4:=h_ (HB3.out.below hb4)
   have B4:=h_ (B3.out.trans (hb4.mono B3.out.size))
   clear hb4 HA3 HB3 B3 HQ2
   by_cases hbig:65536 < bm+bn
   ·have e1:Hid (SN=0):=by rw [Hid,E1.out,if_pos hbig]
    have e2:Hid (SE=2):=by rw [Hid,E2.out,if_pos hbig]
    have g1:decide ((65536:Int) < (bm:Int)+bn)=true:=decide_eq_true (by omega)
    go_wp2
    go_ret2
    refine ⟨.slice none 0 0,?_,?_,B4.out⟩
    ·rw [e2.out]; rfl
    ·rw [e1.out]; exact Dg.nil HA4.out.tab
   ·have e1:Hid (SN=m * n):=by rw [Hid,E1.out,if_neg hbig]
    have e2:Hid (SE=0):=by rw [Hid,E2.out,if_neg hbig]
    have g1:decide ((65536:Int) < (bm:Int)+bn)=false:=decide_eq_false (by omega)
    have g2:decide (65536 < bm+bn)=false:=decide_eq_false hbig
    go_wp2_with fail
    refine (HP.out _ HA4.out HB4.out).mono ?_
    rintro e w5 ⟨u,rfl,hu,hb5⟩
    have HU:=h_ hu
    have B5:=h_ (B4.out.trans (hb5.mono B4.out.size))
    clear hu hb5
    go_wp2
    go_ret2
    refine ⟨u,?_,?_,B5.out⟩
    ·rw [e2.out]; rfl
    ·rw [e1.out]; exact HU.out
theorem times_any {L:List Nat} {u:Value} {w:World} (h:Raw w u L) (hl:L.length≤100000) {n:Nat} (hn:n < 18446744073709551616) :
  Calls Tryz.prog 138 #[u,.int .u64 (n:Int)] w (RetDgE (mulN (ofd L) n) (mulE (ofd L) n) w):=by
 have HL:=h_ h
 have HO:=h_ (of_any hn h.tab)
 have HMU:Hid (∀ w' v,Raw w' u L→Dg w' v n→Calls Tryz.prog 32 #[u,v] w' (RetDgE (mulN (ofd L) n) (mulE (ofd L) n) w')):=by
  rintro w' v h1 ⟨K,hK,cK⟩
  have hkl:K.length≤1:=by
   apply Nat.le_of_not_lt; intro hlt
   have h2:=cK.top (by intro he; subst he; simp at hlt)
   have h3:=pow_mono (show 1≤K.length - 1 by omega)
   rw [Nat.pow_one] at h3
   exact Nat.lt_irrefl _ (Nat.lt_of_lt_of_le hn (Nat.le_trans h3 h2))
  have:=mul_any h1 hK hl (by omega)
  rwa [cK.val] at this
 clear h hn
 generalize mulN (ofd L) n=SN at *
 generalize mulE (ofd L) n=SE at *
 go_enter Tryz.func138,Tryz.ntmps138
 go_wp2_with fail
 refine HO.out.mono ?_
 rintro e w1 ⟨v,rfl,hv,hb1⟩
 have HV:=h_ hv
 have HL1:=h_ (HL.out.below hb1)
 have B1:=h_ hb1
 clear hv hb1 HL HO
 go_wp2_with fail
 refine (HMU.out _ _ HL1.out HV.out).mono ?_
 rintro e w2 ⟨q,rfl,hq,hb2⟩
 have HQ:=h_ hq
 have B2:=h_ (B1.out.trans (hb2.mono B1.out.size))
 clear hq hb2
 go_wp2
 go_ret2
 exact ⟨q,rfl,HQ.out,B2.out⟩
def Rd (w:World) (v:Value) (n:Nat):Prop:=∃ L,Raw w v L∧ofd L=n∧L.length≤100000
theorem Rd.below {w w':World} {v:Value} {n:Nat} (h:Rd w v n) (hb:Below w.heap.size w w'):Rd w' v n:=by
 obtain ⟨L,h1,h2⟩:=h; exact ⟨L,h1.below hb,h2⟩
theorem Rd.alloc {w:World} {v:Value} {n:Nat} (h:Rd w v n) (o:Obj):Rd (w.alloc o) v n:=by
 obtain ⟨L,h1,h2⟩:=h; exact ⟨L,h1.alloc o,h2⟩
theorem Rd.drewN {w:World} {v:Value} {n:Nat} (h:Rd w v n) (k:Nat):Rd (w.drewN k) v n:=by
 obtain ⟨L,h1,h2⟩:=h; exact ⟨L,h1.drewN k,h2⟩
theorem Rd.drew {w:World} {v:Value} {n:Nat} (h:Rd w v n):Rd w.drew v n:=by
 obtain ⟨L,h1,h2⟩:=h; exact ⟨L,h1.drew,h2⟩
theorem Rd.kp {w w':World} {v:Value} {n:Nat} (h:Rd w v n) (K:Kp w w'):Rd w' v n:=by
 obtain ⟨L,h1,h2⟩:=h; exact ⟨L,h1.kp K,h2⟩
theorem Rd.tab {w:World} {v:Value} {n:Nat} (h:Rd w v n):Tab w:=by
 obtain ⟨L,h1,h2⟩:=h; exact h1.tab
theorem Rd.form {w:World} {v:Value} {n:Nat} (h:Rd w v n):∃ a k c,v=.slice a k c:=by
 obtain ⟨L,h1,_⟩:=h
 obtain ⟨a,c,rfl,_⟩:=h1.sl
 exact ⟨_,_,_,rfl⟩
theorem Rd.nl {w:World} {v:Value} {n:Nat} (h:Rd w v n):Nl v:=by
 obtain ⟨a,k,c,rfl⟩:=h.form; exact Nl.sl _ _ _
theorem Can.len_bl {L:List Nat} {n B:Nat} (h:Can L n) (hb:bl n≤64 * B):L.length≤B+1:=by
 by_cases h0:n=0
 ·rw [h0] at h; rw [h.zero]; simp
 ·have:=h.bits_len h0; omega
theorem Dg.rd {w:World} {v:Value} {n:Nat} (h:Dg w v n) (hb:bl n≤6000000):Rd w v n:=by
 obtain ⟨L,h1,hc⟩:=h
 exact ⟨L,h1,hc.val,by have:=hc.len_bl (B:=93750) (by omega); omega⟩
theorem Rd.nil {w:World} (t:Tab w):Rd w (.slice none 0 0) 0:=⟨[],Raw.nil t,rfl,by decide⟩
theorem bare_r {w:World} {v:Value} {n:Nat} (h:Rd w v n):Calls Tryz.prog 70 #[v] w (RetDg n w):=by
 obtain ⟨L,h1,rfl,h3⟩:=h; exact bare_any h1 (by omega)
theorem bits_r {w:World} {v:Value} {n:Nat} (h:Rd w v n):Calls Tryz.prog 36 #[v] w fun e w'=>e=.returned (.int .i64 (bl n:Nat))∧Below w.heap.size w w':=by
 obtain ⟨L,h1,rfl,h3⟩:=h; exact bits_any h1 (by omega)
theorem low_r {w:World} {v:Value} {n:Nat} (h:Rd w v n):Calls Tryz.prog 75 #[v] w fun e w'=>e=.returned (.int .i64 (lo n:Nat))∧w=w':=by
 obtain ⟨L,h1,rfl,h3⟩:=h; exact low_any h1 (by omega)
theorem odd_r {w:World} {v:Value} {n:Nat} (h:Rd w v n):Calls Tryz.prog 68 #[v] w fun e w'=>e=.returned (.bool (n % 2 == 1))∧w=w':=by
 obtain ⟨L,h1,rfl,h3⟩:=h; exact odd_any h1
theorem cmp_r {w:World} {u v:Value} {m n:Nat} (h:Rd w u m) (k:Rd w v n):Calls Tryz.prog 73 #[u,v] w fun e w'=>e=.returned (.int .i64 (cmpN m n))∧Below w.heap.size w w':=by
 obtain ⟨L,h1,rfl,h3⟩:=h; obtain ⟨K,k1,rfl,k3⟩:=k; exact cmp_any h1 k1 h3 k3
theorem shr_r {w:World} {v:Value} {n:Nat} (h:Rd w v n) (k:Nat) (hk:k≤1000000000):Calls Tryz.prog 76 #[v,.int .i64 (k:Int)] w (RetDgB (n / 2^k) (decide (n % 2^k ≠ 0)) w):=by
 obtain ⟨L,h1,rfl,h3⟩:=h; exact shr_any h1 h3 k hk
theorem shl_r {w:World} {v:Value} {n:Nat} (h:Rd w v n) (k:Nat) (hk:k≤1000000000):Calls Tryz.prog 125 #[v,.int .i64 (k:Int)] w (RetDgE (shlN n k) (shlE n k) w):=by
 obtain ⟨L,h1,rfl,h3⟩:=h; exact shl_any h1 h3 k hk
theorem add_r {w:World} {u v:Value} {m n:Nat} (h:Rd w u m) (k:Rd w v n):Calls Tryz.prog 123 #[u,v] w (RetDg (m+n) w):=by
 obtain ⟨L,h1,rfl,h3⟩:=h; obtain ⟨K,k1,rfl,k3⟩:=k; exact add_any h1 k1 h3 k3
theorem sub_r {w:World} {u v:Value} {m n:Nat} (h:Rd w u m) (k:Rd w v n):Calls Tryz.prog 177 #[u,v] w (RetDgE (m - n) (subE m n) w):=by
 obtain ⟨L,h1,rfl,h3⟩:=h; obtain ⟨K,k1,rfl,k3⟩:=k; exact sub_any h1 k1 h3 k3
theorem small_r {w:World} {v:Value} {n:Nat} (h:Rd w v n):Calls Tryz.prog 126 #[v] w fun e w'=>e=.returned (.tuple #[.int .u64 ((if n < 18446744073709551616 then n else 0:Nat):Int),.bool (decide (n < 18446744073709551616))])∧Below w.heap.size w w':=by
 obtain ⟨L,h1,rfl,h3⟩:=h; exact small_any h1 h3
theorem mul_r {w:World} {u v:Value} {m n:Nat} (h:Rd w u m) (k:Rd w v n):Calls Tryz.prog 32 #[u,v] w (RetDgE (mulN m n) (mulE m n) w):=by
 obtain ⟨L,h1,rfl,h3⟩:=h; obtain ⟨K,k1,rfl,k3⟩:=k; exact mul_any h1 k1 h3 k3
theorem times_r {w:World} {u:Value} {m:Nat} (h:Rd w u m) {n:Nat} (hn:n < 18446744073709551616):Calls Tryz.prog 138 #[u,.int .u64 (n:Int)] w (RetDgE (mulN m n) (mulE m n) w):=by
 obtain ⟨L,h1,rfl,h3⟩:=h; exact times_any h1 h3 hn
end Go.Proofs.YtobpioceopfkpaaGreatDoor
