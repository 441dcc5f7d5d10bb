/-
  Lemmas for WholeTurned and WholeGrows and WholeRises, part 24 of 36: what the program's functions do, and plain facts; without conditions.
-/
import Derived.Test.YtobpioceopfkpaaGreatDoorM23
import Derived.Test.YtobpioceopfkpaaGreatDoorM09
import Derived.Deep.RegionHeld3
import Derived.BigQuiet
import Derived.Test.YtobpioceopfkpaaGreatDoorM04
set_option maxRecDepth 100000
set_option maxHeartbeats 4000000
namespace Go.Proofs.YtobpioceopfkpaaGreatDoor
open Go.RowKit
structure PbI (i:Nat) (U0 V:List Nat) (O:List Nat) (j c:Nat):Prop where
 sum:ofd O+18446744073709551616^(i+j) * c=ofd U0+18446744073709551616^i * ofd (V.take j)
 low:∀ t,t < i→dg O t=dg U0 t
 high:∀ t,i+j≤t→dg O t=dg U0 t
theorem PbI.step {i:Nat} {U0 V O:List Nat} {j c:Nat} (h:PbI i U0 V O j c) (hl:i+j < O.length) {z c':Nat} (hz:z+18446744073709551616 * c'=dg O (i+j)+(dg V j+c)) :
  PbI i U0 V (O.set (i+j) z) (j+1) c':=by
 refine ⟨?_,fun t ht=>?_,fun t ht=>?_⟩
 ·have h1:=ofd_set O (i+j) z hl
  have h2:=h.sum
  rw [take_dg,Nat.mul_add,show i+(j+1)=i+j+1 by omega,Nat.pow_succ,← Nat.mul_assoc (18446744073709551616^i) (18446744073709551616^j),← Nat.pow_add]
  have h3:18446744073709551616^(i+j) * (z+18446744073709551616 * c')=18446744073709551616^(i+j) * (dg O (i+j)+(dg V j+c)):=by rw [hz]
  rw [Nat.mul_add,Nat.mul_add,Nat.mul_add,← Nat.mul_assoc (18446744073709551616^(i+j)) 18446744073709551616] at h3
  omega
 ·rw [dg_set _ _ _ _ (by omega)]; exact h.low t ht
 ·rw [dg_set _ _ _ _ (by omega)]; exact h.high t (by omega)
theorem PbI.last {i n:Nat} {U0 V O:List Nat} {c:Nat} (h:PbI i U0 V O n c) (hl:i+n < O.length) {z c':Nat} (hz:z+18446744073709551616 * c'=dg O (i+n)+(0+c)) :
  ofd (O.set (i+n) z)+18446744073709551616^(i+n+1) * c'=ofd U0+18446744073709551616^i * ofd (V.take n)∧(∀ t,t < i→dg (O.set (i+n) z) t=dg U0 t)∧(∀ t,i+n < t→dg (O.set (i+n) z) t=dg U0 t):=by
 refine ⟨?_,fun t ht=>?_,fun t ht=>?_⟩
 ·have h1:=ofd_set O (i+n) z hl
  have h2:=h.sum
  have h3:18446744073709551616^(i+n) * (z+18446744073709551616 * c')=18446744073709551616^(i+n) * (dg O (i+n)+(0+c)):=by rw [hz]
  rw [Nat.mul_add,Nat.mul_add,Nat.mul_add,Nat.mul_zero,← Nat.mul_assoc (18446744073709551616^(i+n)) 18446744073709551616] at h3
  rw [Nat.pow_succ]
  omega
 ·rw [dg_set _ _ _ _ (by omega)]; exact h.low t ht
 ·rw [dg_set _ _ _ _ (by omega)]; exact h.high t (by omega)
theorem add64_s (x y c:Nat) (hc:c≤1) {z c':Nat} (hz:z=(x+y+c) % 18446744073709551616) (hc':c'=(x+y+c) / 18446744073709551616) (w:World) :
  (callFunc 145 #[.int .u64 (x:Int),.int .u64 (y:Int),.int .u64 (c:Int)]).run Tryz.prog w=.ok (.value (.tuple #[.int .u64 (z:Int),.int .u64 (c':Int)])) w:=by
 rw [hz,hc']; exact add64 x y c hc w
theorem add64_s0 (x c:Nat) (hc:c≤1) {z c':Nat} (hz:z=(x+0+c) % 18446744073709551616) (hc':c'=(x+0+c) / 18446744073709551616) (w:World) :
  (callFunc 145 #[.int .u64 (x:Int),.int .u64 0,.int .u64 (c:Int)]).run Tryz.prog w=.ok (.value (.tuple #[.int .u64 (z:Int),.int .u64 (c':Int)])) w:=add64_s x 0 c hc hz hc' w
def PutE (X:World→Prop) (B gu gv Nu cu Nv cv i n:Nat) (U V:List Nat) (w0:World) (e:Ending) (w':World):Prop :=
 ∃ (c:Nat) (O:List Nat),e=.returned (.bool (decide (0 < c)))∧c≤1∧Tw X B gu gv Nu cu Nv cv w0 w' O V ∧
  ofd O+18446744073709551616^(i+n+1) * c=ofd U+18446744073709551616^i * ofd (V.take n)∧(∀ t,t < i→dg O t=dg U t)∧(∀ t,i+n < t→dg O t=dg U t)
theorem put_any {X:World→Prop} {B gu gv Nu cu Nv cv i n cc:Nat} {U V:List Nat} {w0 w:World} (h:Tw X B gu gv Nu cu Nv cv w0 w U V) (hiN:i+n < Nu) (hnV:n≤Nv) (hN:Nu≤300000) :
  Calls Tryz.prog 190 #[.slice (some ⟨gu,i,none⟩) (n+1) cc,.slice (some ⟨gv,0,none⟩) n cv] w (PutE X B gu gv Nu cu Nv cv i n U V w0):=by
 have HI:Hid (Tw X B gu gv Nu cu Nv cv w0 w U V∧PbI i U V U 0 0):=⟨h,by simp [ofd],fun t _=>rfl,fun t _=>rfl⟩
 obtain ⟨M,hM⟩:∃ M,M=n+1:=⟨_,rfl⟩
 rw [← hM]
 have hnM:n < M:=by omega
 clear h hM
 go_enter Tryz.func190,Tryz.ntmps190
 go_wp2
 go_loopw [5,11] (fun cy ix wr=>∃ (j c:Nat) (O:List Nat),ix=.int .i64 j∧cy=.int .u64 c∧j≤n∧c≤1∧Hid (Tw X B gu gv Nu cu Nv cv w0 wr O V∧PbI i U V O j c)) (fun _ ix _=>n - (intOf ix).toNat)
 case atStart=>exact ⟨0,0,U,rfl,rfl,by omega,by omega,HI⟩
 case round =>
  obtain ⟨j,cy,O,rfl,rfl,hj,hcy,hh⟩:=hrel
  by_cases hlt:j < n
  ·have hm2:j < M:=by omega
   have hfz:=hh.out.1.fz (i+j)
   have hxo:=hh.out.1.uAt (k:=i+j) (by omega)
   have hxa:=hh.out.1.vAt (k:=j) (by omega)
   have d1:=dg_lt hh.out.1.dv j
   have d2:=dg_lt hh.out.1.du (i+j)
   have HST:Hid (∀ z c',z < 18446744073709551616→z+18446744073709551616 * c'=dg O (i+j)+(dg V j+cy)→∀ u,u=.int .u64 (z:Int)→Tw X B gu gv Nu cu Nv cv w0 (wr.setCell ⟨gu,i+j,none⟩ u) (O.set (i+j) z) V∧PbI i U V (O.set (i+j) z) (j+1) c') :=
    fun z c' h1 h2 u h3=>⟨hh.out.1.set (i+j) h1 u h3,hh.out.2.step (by rw [hh.out.1.lenU]; omega) h2⟩
   generalize dg V j=y at *
   generalize dg O (i+j)=o at *
   obtain ⟨z,ez⟩:∃ z,z=(o+y+cy) % 18446744073709551616:=⟨_,rfl⟩
   obtain ⟨c',ec⟩:∃ c',c'=(o+y+cy) / 18446744073709551616:=⟨_,rfl⟩
   have A2:=fun w=>add64_s o y cy hcy ez ec w
   have k1:z+18446744073709551616 * c'=o+(y+cy):=by omega
   have k2:z < 18446744073709551616:=by omega
   have k3:c'≤1:=by omega
   have HO:=h_ (HST.out z c' k2 k1 _ rfl)
   clear ez ec k1 k2 HST
   go_wp2
   go_roundw
   case rel=>exact ⟨j+1,c',_,by go_num,rfl,by omega,k3,HO⟩
   case measure=>simp [intOf]; omega
  ·obtain rfl:j=n:=by omega
   have hfz:=hh.out.1.fz (i+j)
   have hxo:=hh.out.1.uAt (k:=i+j) (by omega)
   have d2:=dg_lt hh.out.1.du (i+j)
   obtain ⟨z,ez⟩:∃ z,z=(dg O (i+j)+0+cy) % 18446744073709551616:=⟨_,rfl⟩
   obtain ⟨c',ec⟩:∃ c',c'=(dg O (i+j)+0+cy) / 18446744073709551616:=⟨_,rfl⟩
   have A2:=fun w=>add64_s0 (dg O (i+j)) cy hcy ez ec w
   have HE:Hid (∀ u,u=.int .u64 (z:Int)→PutE X B gu gv Nu cu Nv cv i j U V w0 (.returned (.bool (decide (0 < c')))) (wr.setCell ⟨gu,i+j,none⟩ u)) :=
    fun u hu=>⟨c',_,rfl,by omega,hh.out.1.set (i+j) (by omega) u hu,hh.out.2.last (by rw [hh.out.1.lenU]; omega) (by omega)⟩
   have hdec:decide ((0:Int) < (c':Int))=decide (0 < c'):=by by_cases h:0 < c' <;> simp [h]
   clear ez ec
   generalize dg O (i+j)=o at *
   go_wp2
   refine bodyPost_ret (v:=.bool (decide (0 < c'))) (by simp [results,Tryz.results190,go_sem]) rfl ?_
   exact HE.out _ rfl
def Gd (u2 u1 u0 top nx d:Nat):Prop:=∀ q,q < 18446744073709551616→q * (top * 18446744073709551616+nx)≤(u2 * 18446744073709551616+u1) * 18446744073709551616+u0→q≤d
theorem Gd.max (u2 u1 u0 top nx:Nat):Gd u2 u1 u0 top nx 18446744073709551615:=by
 intro q h _; omega
theorem first_aux {R u2 u1 u0 top nx q:Nat} (h0:u0 < R) (h:q * (top * R+nx)≤(u2 * R+u1) * R+u0):q * top≤u2 * R+u1:=by
 generalize u2 * R+u1=X at *
 rw [Nat.mul_add,← Nat.mul_assoc] at h
 have h1:q * top * R < (X+1) * R:=by rw [Nat.add_mul,Nat.one_mul]; omega
 have:=Nat.lt_of_mul_lt_mul_right h1
 omega
theorem Gd.first {u2 u1 u0 top nx d:Nat} (h0:u0 < 18446744073709551616) (ht:0 < top) (hd:d=(u2 * 18446744073709551616+u1) / top):Gd u2 u1 u0 top nx d:=by
 intro q _ h
 rw [hd,Nat.le_div_iff_mul_le ht]
 exact first_aux h0 h
theorem Gd.less {u2 u1 u0 top nx d r hi lo:Nat} (h:Gd u2 u1 u0 top nx d) (hs:d * top+r=u2 * 18446744073709551616+u1) (hm:hi * 18446744073709551616+lo=d * nx) (hc:r * 18446744073709551616+u0 < hi * 18446744073709551616+lo):0 < d∧Gd u2 u1 u0 top nx (d - 1):=by
 have h0:0 < d:=by
  rcases Nat.eq_zero_or_pos d with h1 | h1
  ·subst h1; rw [Nat.zero_mul] at hm; omega
  ·exact h1
 refine ⟨h0,fun q hq hk=>?_⟩
 have h2:=h q hq hk
 by_cases h3:q=d
 ·exfalso
  subst h3
  rw [← hs,Nat.mul_add,← Nat.mul_assoc,Nat.add_mul] at hk
  omega
 ·omega
def GuessE (u2 u1 u0 top nx:Nat) (w:World) (e:Ending) (w':World):Prop:=∃ d:Nat,e=.returned (.int .u64 (d:Int))∧d < 18446744073709551616∧Gd u2 u1 u0 top nx d∧Below w.heap.size w w'
theorem guess_any {g i n cc u2 u1 u0 top nx:Nat} {w:World} (hn:2≤n) (hn2:n≤300000) (h2:w.cell? ⟨g,i+n,none⟩=some (.int .u64 (u2:Int))) (h1:w.cell? ⟨g,i+(n - 1),none⟩=some (.int .u64 (u1:Int))) (h0:w.cell? ⟨g,i+(n - 2),none⟩=some (.int .u64 (u0:Int)))
  (b1:u1 < 18446744073709551616) (b0:u0 < 18446744073709551616) (bt:top < 18446744073709551616) (bx:nx < 18446744073709551616) (ht:0 < top) :
  Calls Tryz.prog 188 #[.slice (some ⟨g,i,none⟩) (n+1) cc,.int .u64 (top:Int),.int .u64 (nx:Int)] w (GuessE u2 u1 u0 top nx w):=by
 obtain ⟨M,hM⟩:∃ M,M=n+1:=⟨_,rfl⟩
 obtain ⟨p1,hp1⟩:∃ p,p=n - 1:=⟨_,rfl⟩
 obtain ⟨p2,hp2⟩:∃ p,p=n - 2:=⟨_,rfl⟩
 have hnM:n < M:=by omega
 have hp1M:p1 < M:=by omega
 have hp2M:p2 < M:=by omega
 have hp1B:p1≤300000:=by omega
 have hp2B:p2≤300000:=by omega
 have v0:(M:Int) - 1=(n:Int):=by omega
 have v1:(n:Int) - 1=(p1:Int):=by omega
 have v2:(n:Int) - 2=(p2:Int):=by omega
 have i1:IntKind.i64.wrap (p1:Int)=(p1:Int):=IntWalk.i64_in _ (by omega)
 have i2:IntKind.i64.wrap (p2:Int)=(p2:Int):=IntWalk.i64_in _ (by omega)
 rw [← hp1] at h1
 rw [← hp2] at h0
 rw [← hM]
 have e2:=h2
 have e1:=h1
 have e0:=h0
 have d2:w.drew.cell? ⟨g,i+n,none⟩=some (.int .u64 (u2:Int)):=h2
 have d1:w.drew.cell? ⟨g,i+p1,none⟩=some (.int .u64 (u1:Int)):=h1
 have H0:=h_ h0
 clear hM hp1 hp2 hn h2 h1 h0 e0
 by_cases hge:top≤u2
 ·have z1:decide ((top:Int)≤(u2:Int))=true:=decide_eq_true (by omega)
  have z2:decide (top≤u2)=true:=decide_eq_true hge
  clear hge H0
  go_enter Tryz.func188,Tryz.ntmps188
  go_wp2
  refine bodyPost_ret (v:=.int .u64 18446744073709551615) (by simp [results,Tryz.results188,go_sem]) rfl ?_
  exact ⟨18446744073709551615,rfl,by decide,Gd.max u2 u1 u0 top nx,Below.refl _ _⟩
 ·have z1:decide ((top:Int)≤(u2:Int))=false:=decide_eq_false (by omega)
  have z2:decide (top≤u2)=false:=decide_eq_false hge
  have CD:=h_ (fun w=>div64 u2 u1 top (by omega) bt b1 w)
  obtain ⟨q0,hq0⟩:∃ q,q=(u2 * 18446744073709551616+u1) / top:=⟨_,rfl⟩
  obtain ⟨r0,hr0⟩:∃ r,r=(u2 * 18446744073709551616+u1) % top:=⟨_,rfl⟩
  rw [← hq0,← hr0] at CD
  have hr1:r0 < top:=hr0 ▸ Nat.mod_lt _ ht
  have hq1:q0 < 18446744073709551616:=by
   rw [hq0]
   refine Nat.div_lt_of_lt_mul ?_
   have:(u2+1) * 18446744073709551616≤top * 18446744073709551616:=Nat.mul_le_mul_right _ (by omega)
   rw [Nat.add_mul] at this
   omega
  have HG:Hid (Gd u2 u1 u0 top nx q0∧q0 * top+r0=u2 * 18446744073709551616+u1):=⟨Gd.first b0 ht hq0,by rw [hq0,hr0,Nat.mul_comm]; exact Nat.div_add_mod _ _⟩
  have hr2:r0 < 18446744073709551616:=by omega
  have HQ:=h_ hq1
  have HR:=h_ hr2
  have HT:=h_ (And.intro b0 (And.intro bt bx))
  clear hge hq0 hr0 hr1 hq1 hr2 ht b1
  go_enter Tryz.func188,Tryz.ntmps188
  go_upto_region 4 with (fail)
  have FC:=h_ (And.intro d2 d1)
  go_region_held3 (fun w'=>w'.cell? ⟨g,i+n,none⟩=some (.int .u64 (u2:Int))∧w'.cell? ⟨g,i+p1,none⟩=some (.int .u64 (u1:Int))) (first | with_reducible exact FC.out | with_reducible exact FC2.out) (first | (go_at_call 148; (with_reducible refine (CD.out _).mono ?_); rintro q ww1 ⟨rfl,hb⟩; have B1:=h_ hb; have Z1:=h_ (cell_below hb (Nat.le_refl _) (show w.drew.cell? ⟨g,i+p2,none⟩=some (.int .u64 (u0:Int)) from H0.out)); have FC2:=h_ (And.intro (cell_below hb (Nat.le_refl _) FC.out.1) (cell_below hb (Nat.le_refl _) FC.out.2)); clear hb))
  have HN:=h_ (And.intro d2 d1)
  clear FC d2 d1 e2 e1 H0 CD
  have HB:Hid (Below w.heap.size w ww1):=(below_drewN' (Below.refl w.heap.size w) 1).trans B1.out
  clear B1
  go_wp2
  go_loopw [8,9] (fun tq tr wr=>∃ q r:Nat,tq=.int .u64 (q:Int)∧tr=.int .u64 (r:Int)∧q < 18446744073709551616∧r < 18446744073709551616∧Hid (Gd u2 u1 u0 top nx q∧q * top+r=u2 * 18446744073709551616+u1)∧Hid (wr.cell? ⟨g,i+p2,none⟩=some (.int .u64 (u0:Int)))∧Hid (Below w.heap.size w wr)) (fun tq _ _=>(intOf tq).toNat)
  case atStart=>exact ⟨q0,r0,rfl,rfl,HQ.out,HR.out,HG,Z1,HB⟩
  case round =>
   obtain ⟨q,r,rfl,rfl,hq,hr,hG,hZ,hB⟩:=hrel
   obtain ⟨b0,bt,bx⟩:=HT.out
   have CM:=h_ (fun w=>mul64 q nx hq bx w)
   obtain ⟨hi,ehi⟩:∃ hi,hi=q * nx / 18446744073709551616:=⟨_,rfl⟩
   obtain ⟨lo',elo⟩:∃ lo',lo'=q * nx % 18446744073709551616:=⟨_,rfl⟩
   rw [← ehi,← elo] at CM
   have HM:Hid (hi * 18446744073709551616+lo'=q * nx):=by rw [Hid,ehi,elo,Nat.mul_comm]; exact Nat.div_add_mod _ _
   have hl:lo' < 18446744073709551616:=by rw [elo]; exact Nat.mod_lt _ (by decide)
   have HL:=h_ hl
   have x0:=hZ.out
   obtain ⟨s,hs⟩:∃ s,s=(r+top+0) % 18446744073709551616:=⟨_,rfl⟩
   obtain ⟨c,hc⟩:∃ c,c=(r+top+0) / 18446744073709551616:=⟨_,rfl⟩
   have A1:=fun w=>add64_0 r top w
   rw [← hs,← hc] at A1
   have HS:Hid (s+18446744073709551616 * c=r+top∧s < 18446744073709551616∧c≤1):=by show _∧_∧_; omega
   have HQ2:=h_ hq
   clear ehi elo hl hs hc b0 bt bx hr
   by_cases g1:hi < r
   ·have t1:decide ((hi:Int) < (r:Int))=true:=decide_eq_true (by omega)
    have t2:decide (hi < r)=true:=decide_eq_true g1
    clear g1
    go_wp2_with fail
    refine (CM.out _).mono ?_
    rintro e w2 ⟨rfl,rfl⟩
    go_wp2
    go_ret
    exact ⟨q,rfl,HQ2.out,hG.out.1,hB.out⟩
   ·have t1:decide ((hi:Int) < (r:Int))=false:=decide_eq_false (by omega)
    have t2:decide (hi < r)=false:=decide_eq_false g1
    by_cases g2:hi=r
    ·have t3:((hi:Int) == (r:Int))=true:=by rw [beq_iff_eq]; omega
     have t4:(hi == r)=true:=by rw [beq_iff_eq]; exact g2
     by_cases g3:lo'≤u0
     ·have t5:decide ((lo':Int)≤(u0:Int))=true:=decide_eq_true (by omega)
      have t6:decide (lo'≤u0)=true:=decide_eq_true g3
      clear g1 g2 g3
      go_wp2_with fail
      refine (CM.out _).mono ?_
      rintro e w2 ⟨rfl,rfl⟩
      go_wp2
      go_ret
      exact ⟨q,rfl,HQ2.out,hG.out.1,hB.out⟩
     ·have t5:decide ((lo':Int)≤(u0:Int))=false:=decide_eq_false (by omega)
      have t6:decide (lo'≤u0)=false:=decide_eq_false g3
      have HLESS:=h_ (hG.out.1.less hG.out.2 HM.out (by rw [g2]; omega))
      obtain ⟨q',hq'⟩:∃ q',q=q'+1:=⟨q - 1,by have:=HLESS.out.1; omega⟩
      have HG2:Hid (Gd u2 u1 u0 top nx q'):=by
       have:=HLESS.out.2
       rw [hq'] at this
       exact this
      have HQ':=h_ hq'
      have hsub:(q:Int) - 1=(q':Int):=by omega
      have hsw:IntKind.u64.wrap (q':Int)=(q':Int):=by have:=HQ2.out; rw [IntKind.wrap_u64]; omega
      have hsw2:IntKind.u64.wrap ((q:Int) - 1)=(q':Int):=by rw [hsub]; exact hsw
      clear g1 g2 g3 hq' hq
      by_cases g4:c=0
      ·have t7:decide (0 < (c:Int))=false:=decide_eq_false (by omega)
       have t8:decide (0 < c)=false:=decide_eq_false (by omega)
       have HI:Hid (s < 18446744073709551616∧q' < 18446744073709551616∧q' * top+s=u2 * 18446744073709551616+u1):=by
        have e1:=HS.out
        have e2:=hG.out.2
        have e3:=HQ2.out
        rw [HQ'.out,Nat.add_mul,Nat.one_mul] at e2
        have e4:=HQ'.out
        exact ⟨e1.2.1,by omega,by rw [g4] at e1; omega⟩
       clear g4
       go_wp2_with fail
       refine (CM.out _).mono ?_
       rintro e w2 ⟨rfl,rfl⟩
       go_wp2
       go_roundw
       case rel=>exact ⟨q',s,rfl,rfl,HI.out.2.1,HI.out.1,⟨HG2.out,HI.out.2.2⟩,hZ,hB⟩
       case measure=>have:=HQ'.out; simp only [intOf]; omega
      ·have t7:decide (0 < (c:Int))=true:=decide_eq_true (by omega)
       have t8:decide (0 < c)=true:=decide_eq_true (by omega)
       clear g4
       go_wp2_with fail
       refine (CM.out _).mono ?_
       rintro e w2 ⟨rfl,rfl⟩
       go_wp2
       go_ret
       exact ⟨q',rfl,by have:=HQ'.out; have:=HQ2.out; omega,HG2.out,hB.out⟩
    ·have t3:((hi:Int) == (r:Int))=false:=by rw [beq_eq_false_iff_ne]; omega
     have t4:(hi == r)=false:=by rw [beq_eq_false_iff_ne]; exact g2
     have HLESS:=h_ (hG.out.1.less hG.out.2 HM.out (by have:=HL.out; omega))
     obtain ⟨q',hq'⟩:∃ q',q=q'+1:=⟨q - 1,by have:=HLESS.out.1; omega⟩
     have HG2:Hid (Gd u2 u1 u0 top nx q'):=by
      have:=HLESS.out.2
      rw [hq'] at this
      exact this
     have HQ':=h_ hq'
     have hsub:(q:Int) - 1=(q':Int):=by omega
     have hsw:IntKind.u64.wrap (q':Int)=(q':Int):=by have:=HQ2.out; rw [IntKind.wrap_u64]; omega
     have hsw2:IntKind.u64.wrap ((q:Int) - 1)=(q':Int):=by rw [hsub]; exact hsw
     clear g1 g2 hq' hq
     by_cases g4:c=0
     ·have t7:decide (0 < (c:Int))=false:=decide_eq_false (by omega)
      have t8:decide (0 < c)=false:=decide_eq_false (by omega)
      have HI:Hid (s < 18446744073709551616∧q' < 18446744073709551616∧q' * top+s=u2 * 18446744073709551616+u1):=by
       have e1:=HS.out
       have e2:=hG.out.2
       have e3:=HQ2.out
       rw [HQ'.out,Nat.add_mul,Nat.one_mul] at e2
       have e4:=HQ'.out
       exact ⟨e1.2.1,by omega,by rw [g4] at e1; omega⟩
      clear g4
      go_wp2_with fail
      refine (CM.out _).mono ?_
      rintro e w2 ⟨rfl,rfl⟩
      go_wp2
      go_roundw
      case rel=>exact ⟨q',s,rfl,rfl,HI.out.2.1,HI.out.1,⟨HG2.out,HI.out.2.2⟩,hZ,hB⟩
      case measure=>have:=HQ'.out; simp only [intOf]; omega
     ·have t7:decide (0 < (c:Int))=true:=decide_eq_true (by omega)
      have t8:decide (0 < c)=true:=decide_eq_true (by omega)
      clear g4
      go_wp2_with fail
      refine (CM.out _).mono ?_
      rintro e w2 ⟨rfl,rfl⟩
      go_wp2
      go_ret
      exact ⟨q',rfl,by have:=HQ'.out; have:=HQ2.out; omega,HG2.out,hB.out⟩
structure LfI (s:Nat) (L:List Nat) (O:List Nat) (k:Nat):Prop where
 val:ofd O=ofd (L.take k) * 2^s
 top:dg O k < 2^s
 zero:∀ t,k < t→dg O t=0
theorem LfI.step {s:Nat} {L O:List Nat} {k:Nat} (h:LfI s L O k) (hs:s≤64) (hd:Digs L) (hl:k+1 < O.length) :
  LfI s L ((O.set k (dg O k+dg L k * 2^s % 18446744073709551616)).set (k+1) (dg L k / 2^(64 - s))) (k+1)∧dg O k+dg L k * 2^s % 18446744073709551616 < 18446744073709551616∧dg L k / 2^(64 - s) < 18446744073709551616:=by
 have hx:=dg_lt hd k
 have hR:2^s * 2^(64 - s)=18446744073709551616:=by rw [← Nat.pow_add,show s+(64 - s)=64 by omega]
 have hp:=Nat.two_pow_pos s
 have hq:=Nat.two_pow_pos (64 - s)
 have e1:dg L k * 2^s / 18446744073709551616=dg L k / 2^(64 - s):=by
  rw [← hR,Nat.mul_comm (2^s),Nat.mul_div_mul_right _ _ hp]
 have e2:dg L k * 2^s % 18446744073709551616=2^s * (dg L k % 2^(64 - s)):=by
  rw [← hR,Nat.mul_comm (dg L k),Nat.mul_mod_mul_left]
 have e3:=Nat.div_add_mod (dg L k * 2^s) 18446744073709551616
 have h1:dg O k+dg L k * 2^s % 18446744073709551616 < 18446744073709551616:=by
  rw [e2]
  have h2:dg L k % 2^(64 - s) < 2^(64 - s):=Nat.mod_lt _ hq
  have h3:2^s * (dg L k % 2^(64 - s)+1)≤2^s * 2^(64 - s):=Nat.mul_le_mul_left _ h2
  rw [hR,Nat.mul_add,Nat.mul_one] at h3
  have:=h.top
  omega
 have h2:dg L k / 2^(64 - s) < 18446744073709551616:=Nat.lt_of_le_of_lt (Nat.div_le_self _ _) hx
 refine ⟨⟨?_,?_,fun t ht=>?_⟩,h1,h2⟩
 ·have a1:=ofd_set O k (dg O k+dg L k * 2^s % 18446744073709551616) (by omega)
  have a2:=ofd_set (O.set k (dg O k+dg L k * 2^s % 18446744073709551616)) (k+1) (dg L k / 2^(64 - s)) (by rw [List.length_set]; exact hl)
  rw [dg_set _ _ _ _ (by omega),h.zero (k+1) (by omega),Nat.mul_zero] at a2
  rw [take_dg,Nat.add_mul,← h.val,Nat.mul_assoc]
  rw [e1] at e3
  have a3:18446744073709551616^k * (18446744073709551616 * (dg L k / 2^(64 - s))+dg L k * 2^s % 18446744073709551616)=18446744073709551616^k * (dg L k * 2^s):=by rw [e3]
  rw [Nat.mul_add,← Nat.mul_assoc (18446744073709551616^k) 18446744073709551616] at a3
  rw [Nat.pow_succ] at a2
  rw [Nat.mul_add] at a1
  omega
 ·have:dg ((O.set k (dg O k+dg L k * 2^s % 18446744073709551616)).set (k+1) (dg L k / 2^(64 - s))) (k+1)=dg L k / 2^(64 - s):=by
   unfold dg
   rw [List.getD_eq_getElem?_getD,List.getElem?_set_self (by rw [List.length_set]; exact hl)]; rfl
  rw [this]
  exact Nat.div_lt_of_lt_mul (by rw [Nat.mul_comm,hR]; exact hx)
 ·rw [dg_set _ _ _ _ (by omega),dg_set _ _ _ _ (by omega)]; exact h.zero t (by omega)
theorem or_left {o x s:Nat} (ho:o < 2^s) (hs:s≤64):bits .or .u64 (o:Int) (IntKind.u64.wrap ((x:Int) * 2^s))=((o+x * 2^s % 18446744073709551616:Nat):Int):=by
 have hR:(18446744073709551616:Nat)=2^s * 2^(64 - s):=by rw [← Nat.pow_add,show s+(64 - s)=64 by omega]
 have h2:x * 2^s % 18446744073709551616=2^s * (x % 2^(64 - s)):=by rw [hR,Nat.mul_comm x,Nat.mul_mod_mul_left]
 have h3:x * 2^s % 18446744073709551616 < 18446744073709551616:=Nat.mod_lt _ (Nat.zero_lt_succ _)
 have h4:2^s≤18446744073709551616:=by rw [hR]; exact Nat.le_mul_of_pos_right _ (Nat.two_pow_pos _)
 have e2:IntKind.u64.wrap ((x:Int) * 2^s)=((x * 2^s % 18446744073709551616:Nat):Int):=by
  rw [IntKind.wrap_u64,Int.natCast_emod,Int.natCast_mul]; simp
 rw [e2,u64_or _ _ (Int.natCast_nonneg _) (by omega) (Int.natCast_nonneg _) (by omega),Int.toNat_natCast,Int.toNat_natCast,h2,Nat.or_comm,or_add ho,Nat.add_comm]
def LeftE (s:Nat) (L:List Nat) (w:World) (e:Ending) (w':World):Prop:=∃ O,e=.returned (.slice (some ⟨w.heap.size,0,none⟩) (L.length+1) (L.length+1)) ∧
 w'.ownsRow w.heap.size 22 1 (.slice (some ⟨w.heap.size,0,none⟩) (L.length+1) (L.length+1)) (L.length+1) (dvl O)∧Digs O∧ofd O=ofd L * 2^s∧Below w.heap.size w w'
theorem left_any {L:List Nat} {v:Value} {w:World} (h:Raw w v L) (hl:L.length≤100000) (s:Nat) (hs:s≤63):Calls Tryz.prog 187 #[v,.int .i64 (s:Int)] w (LeftE s L w):=by
 have HL:=h_ h
 obtain ⟨a,c,rfl,hcell⟩:=h.sl.form
 have HC:=h_ hcell
 obtain ⟨n,hn⟩:∃ n,n=L.length+1:=⟨_,rfl⟩
 obtain ⟨l,hl2⟩:∃ l,l=L.length:=⟨_,rfl⟩
 have HN:=h_ hn
 have HL2:=h_ hl2
 unfold LeftE
 rw [← hn]
 have hn1:n≤100001:=by omega
 have hln:l < n:=by omega
 have hl1:l≤100000:=by omega
 have hw:(l:Int)+1=(n:Int):=by omega
 rw [← hl2]
 have q1:(64:Int) - (s:Int)=((64 - s:Nat):Int):=by omega
 have q2:¬ (s:Int) < 0:=by omega
 have q3:¬ ((64 - s:Nat):Int) < 0:=by omega
 obtain ⟨r,hr⟩:∃ r,r=64 - s:=⟨_,rfl⟩
 have HR:=h_ hr
 rw [← hr] at q1 q3
 have hr1:r≤64:=by omega
 clear h hcell hn hl2 hr hl
 go_enter Tryz.func187,Tryz.ntmps187
 go_wp2_with (refine wpList_mk (w0:=w) rfl (.tmp 10) 40 rfl w.heap.size 22 (.int .u64 0) 8 Tryz.underlying40 Tryz.info22 rfl (by decide) _ _ n rfl (by have:=HN.out; omega) (by omega) (Below.refl _ _) (Nat.le_refl _) ?_)
 intro w1 ho1 hb1 hB1
 have hS:Hid ((w1.ownsRow w.heap.size 22 1 (.slice (some ⟨w.heap.size,0,none⟩) n n) n (dvl (List.replicate n 0))∧Digs (List.replicate n 0)∧Below w.heap.size w w1)∧LfI s L (List.replicate n 0) 0) :=
  ⟨⟨by have:=ho1.out; rwa [dvl_zeros] at this,digs_zeros n,hb1⟩,by rw [ofd_zeros]; simp [ofd],by rw [dg_zeros]; exact Nat.two_pow_pos s,fun t _=>dg_zeros n t⟩
 clear ho1 hb1 hB1
 go_wp2
 go_loopw [14] (fun ix wr=>∃ (k:Nat) (O:List Nat),ix=.int .i64 k∧k≤l∧Hid ((wr.ownsRow w.heap.size 22 1 (.slice (some ⟨w.heap.size,0,none⟩) n n) n (dvl O)∧Digs O∧Below w.heap.size w wr)∧LfI s L O k)) (fun ix _=>l - (intOf ix).toNat)
 case atStart=>exact ⟨0,_,rfl,by omega,hS⟩
 case round =>
  obtain ⟨k,O,rfl,hk,hh⟩:=hrel
  by_cases hkl:k < l
  ·obtain ⟨b,off,rfl,hc2⟩:=HC.out (by rw [← HL2.out]; omega)
   have hxa:wr.cell? ⟨b,off+k,none⟩=some (.int .u64 (dg L k:Nat)):=cell_below hh.out.1.2.2 (Nat.le_refl _) (hc2 k _ (dg_get (by rw [← HL2.out]; exact hkl)))
   have hlen:O.length=n:=own_len hh.out.1.1
   have hfz:=hh.out.1.1.frozenAt k
   have hfz2:=hh.out.1.1.frozenAt (k+1)
   have hxo:wr.cell? ⟨w.heap.size,k,none⟩=some (.int .u64 (dg O k:Nat)):=by
    rw [hh.out.1.1.cellAt k (by omega)]
    exact dvl_get (dg_get (by rw [hlen]; omega))
   have hxo2:wr.cell? ⟨w.heap.size,k+1,none⟩=some (.int .u64 (dg O (k+1):Nat)):=by
    rw [hh.out.1.1.cellAt (k+1) (by omega)]
    exact dvl_get (dg_get (by rw [hlen]; omega))
   have dfz:wr.drew.frozen? ⟨w.heap.size,k,none⟩=false:=hfz
   have dxo:wr.drew.cell? ⟨w.heap.size,k,none⟩=some (.int .u64 (dg O k:Nat)):=hxo
   have ho:=or_left (x:=dg L k) hh.out.2.top (by omega:s≤64)
   obtain ⟨st,b1,b2⟩:=hh.out.2.step (by omega:s≤64) HL.out.digs (by omega)
   have HST:Hid (∀ y z:Nat,y=dg O k+dg L k * 2^s % 18446744073709551616→z=dg L k / 2^r→∀ u v,u=.int .u64 (y:Int)→v=.int .u64 (z:Int) →
     ((((wr.setCell ⟨w.heap.size,k,none⟩ u).drew).setCell ⟨w.heap.size,k+1,none⟩ v).ownsRow w.heap.size 22 1 (.slice (some ⟨w.heap.size,0,none⟩) n n) n (dvl ((O.set k y).set (k+1) z))∧Digs ((O.set k y).set (k+1) z)∧Below w.heap.size w (((wr.setCell ⟨w.heap.size,k,none⟩ u).drew).setCell ⟨w.heap.size,k+1,none⟩ v))∧LfI s L ((O.set k y).set (k+1) z) (k+1)):=by
    rintro y z hy hz u v rfl rfl
    rw [HR.out] at hz
    rw [← hy,← hz] at st
    rw [← hy] at b1
    rw [← hz] at b2
    refine ⟨⟨?_,(hh.out.1.2.1.set b1).set b2,?_⟩,st⟩
    ·rw [← dvl_set,← dvl_set]
     exact (((hh.out.1.1.stored k _).1).drew.stored (k+1) _).1
    ·exact Below.setCell (below_drewN' (hh.out.1.2.2.setCell (Nat.le_refl _) _) 1) (Nat.le_refl _) _
   generalize dg L k=x at *
   generalize dg O k=o at *
   generalize dg O (k+1)=o2 at *
   obtain ⟨y,hy⟩:∃ y,y=o+x * 2^s % 18446744073709551616:=⟨_,rfl⟩
   obtain ⟨z,hz⟩:∃ z,z=x / 2^r:=⟨_,rfl⟩
   have HF:=h_ (HST.out y z hy hz _ _ rfl rfl)
   rw [← hy] at ho
   have hshr:(x:Int) / 2^r=(z:Int):=by rw [hz]; simp
   clear hy hz st b1 b2 HST hc2 hlen
   go_wp2_with fail
   go_region
   go_wp2
   go_roundw
   case rel=>exact ⟨k+1,_,by go_num,by omega,HF⟩
   case measure=>simp [intOf]; omega
  ·obtain rfl:k=l:=by omega
   have HE:Hid (ofd O=ofd L * 2^s):=by
    have:=hh.out.2.val
    rwa [take_all (by rw [HL2.out]; exact Nat.le_refl _)] at this
   go_wp2
   go_ret
   exact ⟨O,rfl,hh.out.1.1,hh.out.1.2.1,HE.out,hh.out.1.2.2⟩
end Go.Proofs.YtobpioceopfkpaaGreatDoor
namespace Go.Proofs.YtobpioceopfkpaaGreatDoor
structure LgI (A2 Vv n N k:Nat) (U Q:List Nat):Prop where
 sum:A2=ofd U+Vv * ofd Q
 zero:∀ t,t < k→dg Q t=0
 less:ofd U < Vv * 18446744073709551616^k
 lenQ:Q.length=N
structure InI (Vv n j:Nat) (U0 U:List Nat) (d c:Nat):Prop where
 sum:ofd U+18446744073709551616^j * (Vv * d)=ofd U0+18446744073709551616^(j+n+1) * c
 low:∀ t,t < j→dg U t=dg U0 t
 high:∀ t,j+n < t→dg U t=dg U0 t
 c1:c≤1
 d64:d < 18446744073709551616
 q:ofd U0 / 18446744073709551616^j / Vv≤d
theorem high_zero {xs:List Nat} {m:Nat} (h:ofd xs < 18446744073709551616^m) {t:Nat} (ht:m≤t):dg xs t=0:=by
 have h1:=ofd_cut xs t
 rw [drop_dg,Nat.mul_add] at h1
 have h2:18446744073709551616^m≤18446744073709551616^t:=pow_mono ht
 rcases Nat.eq_zero_or_pos (dg xs t) with h0 | h0
 ·exact h0
 ·have:=Nat.le_mul_of_pos_right (18446744073709551616^t) h0
  omega
theorem Digs.drop {xs:List Nat} (h:Digs xs) (k:Nat):Digs (xs.drop k):=fun d hd=>h d (List.mem_of_mem_drop hd)
theorem low_of_high {xs:List Nat} (hd:Digs xs) {m:Nat} (h:∀ t,m≤t→dg xs t=0):ofd xs < 18446744073709551616^m:=by
 have h1:=ofd_cut xs m
 have h2:ofd (xs.drop m)=0:=by
  have:∀ l,xs.length - l≤xs.length→∀ k,xs.length=k+l→m≤k→ofd (xs.drop k)=0:=by
   intro l
   induction l with
   | zero=>intro _ k hk _; rw [List.drop_of_length_le (by omega)]; rfl
   | succ l ih=>intro _ k hk hm; rw [drop_dg,h k hm,ih (by omega) (k+1) (by omega) (by omega)]
  by_cases hm:m≤xs.length
  ·exact this (xs.length - m) (by omega) m (by omega) (Nat.le_refl _)
  ·rw [List.drop_of_length_le (by omega)]; rfl
 rw [h2,Nat.mul_zero,Nat.add_zero] at h1
 rw [h1]
 exact ofd_take_lt hd m
theorem part_top {U:List Nat} (hd:Digs U) {j n:Nat} (hn:2≤n) (h:ofd U < 18446744073709551616^(j+n+1)) :
  ∃ l,l < 18446744073709551616^(n - 2)∧ofd U / 18446744073709551616^j=18446744073709551616^(n - 2) * ((dg U (j+n) * 18446744073709551616+dg U (j+(n - 1))) * 18446744073709551616+dg U (j+(n - 2)))+l:=by
 obtain ⟨m,rfl⟩:∃ m,n=m+2:=⟨n - 2,by omega⟩
 have e1:m+2 - 2=m:=by omega
 have e2:m+2 - 1=m+1:=by omega
 rw [e1,e2]
 rw [drop_val hd]
 have hd2:Digs (U.drop j):=hd.drop j
 have h1:=ofd_cut (U.drop j) m
 have h2:=ofd_take_lt hd2 m
 refine ⟨ofd ((U.drop j).take m),h2,?_⟩
 rw [h1,List.drop_drop,drop_dg,drop_dg,drop_dg]
 have hz:ofd (U.drop (j+m+1+1+1))=0:=by
  have:=drop_val hd (j+m+1+1+1)
  rw [← this]
  exact Nat.div_eq_of_lt (by have e:j+(m+2)+1=j+m+1+1+1:=(by omega); rw [e] at h; exact h)
 rw [hz,show j+(m+2)=j+m+1+1 by omega,show j+(m+1)=j+m+1 by omega]
 generalize dg U (j+m+1+1)=x2
 generalize dg U (j+m+1)=x1
 generalize dg U (j+m)=x0
 rw [Nat.add_comm]
 congr 2
 omega
theorem guess_ge {P Vv q B u t l m:Nat} (hq:q=P / Vv) (hP:P=B * u+l) (hl:l < B) (hV:Vv=B * t+m):q * t≤u:=by
 have h1:Vv * q≤P:=by rw [hq]; exact Nat.mul_div_le _ _
 rw [hP,hV,Nat.add_mul,Nat.mul_assoc] at h1
 have h2:B * (t * q) < B * (u+1):=by rw [Nat.mul_add,Nat.mul_one]; omega
 have:=Nat.lt_of_mul_lt_mul_left h2
 rw [Nat.mul_comm] at this
 omega
theorem LgI.first {A2 Vv n N k:Nat} {U Q:List Nat} (h:LgI A2 Vv n N (k+1) U Q) (hV:Vv < 18446744073709551616^n) :
  ofd U < 18446744073709551616^(k+n+1)∧ofd U / 18446744073709551616^k / Vv < 18446744073709551616:=by
 have hp:0 < 18446744073709551616^k:=Nat.pow_pos (by decide)
 constructor
 ·have h1:=h.less
  have h2:Vv * 18446744073709551616^(k+1)≤18446744073709551616^n * 18446744073709551616^(k+1):=Nat.mul_le_mul_right _ (Nat.le_of_lt hV)
  rw [← Nat.pow_add,show n+(k+1)=k+n+1 by omega] at h2
  exact Nat.lt_of_lt_of_le h1 h2
 ·have h1:=h.less
  rw [Nat.pow_succ,Nat.mul_left_comm] at h1
  exact Nat.div_lt_of_lt_mul (Nat.div_lt_of_lt_mul h1)
theorem InI.less {Vv n j:Nat} {U0 U:List Nat} {d:Nat} (h:InI Vv n j U0 U d 1) (dU:Digs U) (h0:ofd U0 < 18446744073709551616^(j+n+1)) :
  0 < d∧ofd U0 / 18446744073709551616^j / Vv≤d - 1:=by
 have hU:ofd U < 18446744073709551616^(j+n+1):=low_of_high dU fun t ht=>by
  rw [h.high t (by omega)]; exact high_zero h0 ht
 have key:ofd U0 / 18446744073709551616^j / Vv < d:=by
  apply Nat.lt_of_not_le
  intro hle
  have h1:Vv * d≤ofd U0 / 18446744073709551616^j:=Nat.le_trans (Nat.mul_le_mul_left _ hle) (Nat.mul_div_le _ _)
  have h2:18446744073709551616^j * (Vv * d)≤ofd U0:=Nat.le_trans (Nat.mul_le_mul_left _ h1) (Nat.mul_div_le _ _)
  have h3:=h.sum
  rw [Nat.mul_one] at h3
  generalize 18446744073709551616^(j+n+1)=X at *
  generalize 18446744073709551616^j * (Vv * d)=Y at *
  clear hle h1
  omega
 generalize ofd U0 / 18446744073709551616^j / Vv=q at *
 clear hU h h0
 omega
theorem put_aux {X Y Z u0 u o c:Nat} (hc:c≤1) (h3:u+(Y+Z)=u0+X) (hs:o+X * c=u+Z):o+Y=u0+X * (1 - c):=by
 rcases (Nat.le_one_iff_eq_zero_or_eq_one.1 hc) with rfl | rfl
 ·rw [Nat.mul_zero,Nat.add_zero] at hs
  rw [Nat.sub_zero,Nat.mul_one]
  omega
 ·rw [Nat.mul_one] at hs
  rw [Nat.sub_self,Nat.mul_zero,Nat.add_zero]
  omega
theorem InI.put {Vv n j:Nat} {U0 U O:List Nat} {d d' c':Nat} (h:InI Vv n j U0 U d 1) (hd:d=d'+1) (hq:ofd U0 / 18446744073709551616^j / Vv≤d')
  (hs:ofd O+18446744073709551616^(j+n+1) * c'=ofd U+18446744073709551616^j * Vv) (hl:∀ t,t < j→dg O t=dg U t) (hh:∀ t,j+n < t→dg O t=dg U t) (hc:c'≤1):InI Vv n j U0 O d' (1 - c') where
 sum:=by
  have h3:=h.sum
  rw [hd,Nat.mul_add Vv,Nat.mul_one,Nat.mul_add,Nat.mul_one] at h3
  exact put_aux hc h3 hs
 low:=fun t ht=>(hl t ht).trans (h.low t ht)
 high:=fun t ht=>(hh t ht).trans (h.high t ht)
 c1:=Nat.sub_le 1 c'
 d64:=by have:=h.d64; rw [hd] at this; exact Nat.lt_of_le_of_lt (Nat.le_succ d') this
 q:=hq
theorem InI.done {A2 Vv n N j:Nat} {U0 U Q:List Nat} {d:Nat} (h:InI Vv n j U0 U d 0) (g:LgI A2 Vv n N (j+1) U0 Q) (hV0:0 < Vv) (hj:j < N):LgI A2 Vv n N j U (Q.set j d):=by
 have hs:=h.sum
 rw [Nat.mul_zero,Nat.add_zero] at hs
 have hp:0 < 18446744073709551616^j:=Nat.pow_pos (by decide)
 have hdm:=Nat.div_add_mod (ofd U0) (18446744073709551616^j)
 have hml:=Nat.mod_lt (ofd U0) hp
 have hq:=h.q
 have h2:Vv * d≤ofd U0 / 18446744073709551616^j:=by
  rw [Nat.le_div_iff_mul_le hp,Nat.mul_comm]
  exact Nat.le_trans (Nat.le_add_left _ _) (Nat.le_of_eq hs)
 have h3:d=ofd U0 / 18446744073709551616^j / Vv:=by
  have:d≤ofd U0 / 18446744073709551616^j / Vv:=by rw [Nat.le_div_iff_mul_le hV0,Nat.mul_comm]; exact h2
  exact Nat.le_antisymm this hq
 have h4:=Nat.mod_lt (ofd U0 / 18446744073709551616^j) hV0
 have h5:=Nat.div_add_mod (ofd U0 / 18446744073709551616^j) Vv
 rw [← h3] at h5
 have hQl:j < Q.length:=by rw [g.lenQ]; exact hj
 have e1:=ofd_set Q j d hQl
 rw [g.zero j (by omega),Nat.mul_zero,Nat.add_zero] at e1
 refine ⟨?_,fun t ht=>?_,?_,by rw [List.length_set]; exact g.lenQ⟩
 ·rw [g.sum,e1,Nat.mul_add,← hs,Nat.mul_left_comm Vv]
  generalize 18446744073709551616^j * (Vv * d)=Y
  generalize Vv * ofd Q=Z
  clear hdm hml hq h2 h3 h4 h5 e1 hs
  omega
 ·rw [dg_set _ _ _ _ (by omega)]; exact g.zero t (by omega)
 ·generalize ofd U0 / 18446744073709551616^j=P at *
  generalize ofd U0 % 18446744073709551616^j=l at *
  generalize P % Vv=r at *
  generalize 18446744073709551616^j=B at *
  have h6:B * P=B * (Vv * d)+B * r:=by rw [← Nat.mul_add,h5]
  have h7:B * (r+1)≤B * Vv:=Nat.mul_le_mul_left _ h4
  rw [Nat.mul_add,Nat.mul_one] at h7
  rw [Nat.mul_comm Vv]
  generalize B * (Vv * d)=Y at *
  generalize B * r=Z at *
  generalize B * P=X at *
  generalize B * Vv=W at *
  clear h4 h5 h3 h2
  omega
theorem LgI.done {a b s n N:Nat} {U Q:List Nat} (h:LgI (a * 2^s) (b * 2^s) n N 0 U Q) (hb:0 < b):ofd U / 2^s=a % b∧ofd Q=a / b:=by
 have h1:=h.sum
 have h2:=h.less
 rw [Nat.pow_zero,Nat.mul_one] at h2
 have hp:=Nat.two_pow_pos s
 have h3:b * 2^s * ofd Q=(b * ofd Q) * 2^s:=Nat.mul_right_comm _ _ _
 rw [h3] at h1
 have hle:b * ofd Q≤a:=by
  apply Nat.le_of_mul_le_mul_right (c:=2^s) _ hp; omega
 have h4:ofd U=(a - b * ofd Q) * 2^s:=by rw [Nat.sub_mul]; omega
 rw [h4] at h2
 have h5:=Nat.lt_of_mul_lt_mul_right h2
 have h6:a=b * ofd Q+(a - b * ofd Q):=by omega
 constructor
 ·rw [h4,Nat.mul_div_cancel _ hp]
  conv=>rhs; rw [h6]
  rw [Nat.mul_add_mod,Nat.mod_eq_of_lt h5]
 ·conv=>rhs; rw [h6]
  rw [Nat.mul_add_div hb,Nat.div_eq_of_lt h5,Nat.add_zero]
end Go.Proofs.YtobpioceopfkpaaGreatDoor
