/-
  Lemmas for WholeGrows, part 2 of 3: what the program's functions do, and plain facts; without conditions.
-/
import Derived.Test.YtobpioceopfkpaaGreatDoorM34
import Derived.Test.YtobpioceopfkpaaGreatDoorG01
set_option maxRecDepth 100000
set_option maxHeartbeats 4000000
namespace Go.Proofs.YtobpioceopfkpaaGreatDoor
open Rl
def val (m:Nat) (e:Int):Rat:=(m:Rat) * (2:Rat)^e
def rv (d:Dn):Rat:=if d.neg then -val d.m d.e else val d.m d.e
theorem two_z (e:Int):(0:Rat) < (2:Rat)^e:=Rat.zpow_pos (by decide)
theorem z_add (a b:Int):(2:Rat)^(a+b)=(2:Rat)^a * (2:Rat)^b:=Rat.zpow_add (by decide) a b
theorem z_nat (n:Nat):(2:Rat)^(n:Int)=(2:Rat)^n:=Rat.zpow_natCast 2 n
theorem z_neg (n:Nat):(2:Rat)^(-(n:Int))=1 / (2:Rat)^n:=by rw [Rat.zpow_neg,z_nat,Rat.div_def,Rat.one_mul]
theorem z_to {e:Int} (h:0≤e):(2:Rat)^e.toNat=(2:Rat)^e:=by rw [← z_nat,Int.toNat_of_nonneg h]
theorem rpow_add (a:Rat) (m n:Nat):a^(m+n)=a^m * a^n:=by
 induction n with
 | zero=>rw [Nat.add_zero,Rat.pow_zero,Rat.mul_one]
 | succ n ih=>rw [← Nat.add_assoc,Rat.pow_succ,ih,Rat.pow_succ,Rat.mul_assoc]
theorem val_nn (m:Nat) (e:Int):0≤val m e:=Rat.mul_nonneg (nn m) (Rat.le_of_lt (two_z e))
theorem val_pos {m:Nat} (h:m ≠ 0) (e:Int):0 < val m e:=Rat.mul_pos (by exact_mod_cast Nat.pos_of_ne_zero h) (two_z e)
theorem mz_val {K:Nat} {d:Dn} (h:-(K:Int)≤d.e):((mz K d:Nat):Rat)=val d.m d.e * (2:Rat)^K:=by
 unfold mz val
 push_cast
 rw [z_to (by omega),z_add,z_nat]
 grind
theorem zv_rv {K:Nat} {d:Dn} (h:-(K:Int)≤d.e):((zv K d:Int):Rat)=rv d * (2:Rat)^K:=by
 have:=mz_val h
 unfold zv rv
 split
 ·push_cast
  rw [this]; grind
 ·push_cast
  rw [this]
theorem rv_le {K:Nat} {a b:Dn} (ha:-(K:Int)≤a.e) (hb:-(K:Int)≤b.e):rv a≤rv b ↔ zv K a≤zv K b:=by
 have h1:=zv_rv ha
 have h2:=zv_rv hb
 have hp:=two_pos K
 constructor
 ·intro h
  have h3:=Rat.mul_le_mul_of_nonneg_right h (Rat.le_of_lt hp)
  rw [← h1,← h2] at h3
  exact_mod_cast h3
 ·intro h
  have h3:((zv K a:Int):Rat)≤((zv K b:Int):Rat):=by exact_mod_cast h
  rw [h1,h2] at h3
  exact Rat.le_of_mul_le_mul_right h3 hp
theorem rv_bare {d:Dn} (he:-2147483648≤d.e∧d.e≤2147483648):rv (bareN d)=rv d:=by
 obtain ⟨K,hK⟩:∃ K:Nat,K=2147483648:=⟨_,rfl⟩
 have h0:-(K:Int)≤d.e:=by omega
 have h1:=zv_bareN (K:=(K:Int)) (d:=d) (by omega) h0 he
 have h2:=bareN_low (K:=(K:Int)) (d:=d) (by omega) h0 he
 exact Rat.le_antisymm ((rv_le h2 h0).2 (by omega)) ((rv_le h0 h2).2 (by omega))
theorem rv_zk {K:Nat} {a b:Dn} (ha:Zk K a) (hb:Zk K b):rv a≤rv b ↔ zv K a≤zv K b:=rv_le ha.1 hb.1
theorem CmpD_rv {K:Nat} {a b:Dn} (ha:Zk K a) (hb:Zk K b):(CmpD a b≤0 ↔ rv a≤rv b)∧(0≤CmpD a b ↔ rv b≤rv a):=by
 rw [rv_zk ha hb,rv_zk hb ha,CmpD_zk (by omega) ha hb]
 have h1:=@cmpI_neg_iff (zv K a) (zv K b)
 have h2:=@cmpI_pos_iff (zv K a) (zv K b)
 omega
theorem bare_zk {n:Bool} {m:Nat} {e:Int} (he:-100000≤e∧e≤100000) (hb:bl m≤100000):Zk (2147483648:Nat) (bareN ⟨n,m,e⟩):=by
 by_cases h0:m=0
 ·subst h0
  rw [bareN_zero (d:=⟨n,0,e⟩) rfl]
  exact ⟨by decide,by decide,by decide⟩
 ·obtain ⟨k,j,hw,hd,hl⟩:=bareN_full (n:=n) h0 he
  rw [hd]
  exact ⟨by show -2147483648≤e+(k:Int); omega,by show -2147483648≤e+(k:Int); omega,by show e+(k:Int)≤2147483648; omega⟩
theorem within_rv {lo hi:Nat} {e:Int} {neg:Bool} (he:-100000≤e∧e≤100000) (b1:bl lo≤100000) (b2:bl hi≤100000) :
  rv (withinN lo hi e neg).lo≤rv ⟨neg,lo,e⟩∧rv (withinN lo hi e neg).lo≤rv ⟨neg,hi,e⟩∧rv ⟨neg,lo,e⟩≤rv (withinN lo hi e neg).hi∧rv ⟨neg,hi,e⟩≤rv (withinN lo hi e neg).hi:=by
 have e1:=rv_bare (d:=⟨neg,lo,e⟩) ⟨by show _≤e; omega,by show e≤_; omega⟩
 have e2:=rv_bare (d:=⟨neg,hi,e⟩) ⟨by show _≤e; omega,by show e≤_; omega⟩
 have z1:=bare_zk (n:=neg) he b1
 have z2:=bare_zk (n:=neg) he b2
 rw [← e1,← e2]
 unfold withinN
 have c:=(CmpD_rv z1 z2).1
 have c':=(CmpD_rv z1 z2).2
 split
 ·rename_i h
  have:=c'.1 (by omega)
  exact ⟨this,Rat.le_refl,Rat.le_refl,this⟩
 ·rename_i h
  have:=c.1 (by omega)
  exact ⟨Rat.le_refl,this,this,Rat.le_refl⟩
theorem at_PQ {num den s:Nat} (h:0 < den) (h3:num * 3≤den) {r:Rat} (hr:r=((den:Rat)+(num:Rat)) / ((den:Rat) - (num:Rat))) :
  P ((((atanhP num den s).lo * 2:Nat):Rat) / (2:Rat)^s) r∧Q ((((atanhP num den s).hi * 2:Nat):Rat) / (2:Rat)^s) r:=by
 obtain ⟨⟨m,h1⟩,h2⟩:=atanhP_enc (s:=s) h h3
 have hd:(0:Rat) < (den:Rat):=by exact_mod_cast h
 have hn:(0:Rat)≤(num:Rat):=nn num
 have h3':(num:Rat) * 3≤(den:Rat):=by exact_mod_cast h3
 have h0:0≤(num:Rat) / (den:Rat):=div_nn hn (Rat.le_of_lt hd)
 have he:(num:Rat) / (den:Rat) * (den:Rat)=(num:Rat):=by grind
 have ht:(num:Rat) / (den:Rat) * 3≤1:=by
  have e:(num:Rat) / (den:Rat) * 3=((num:Rat) * 3) / (den:Rat):=by rw [Rat.div_def,Rat.div_def]; grind
  rw [e,← Rat.not_lt,Rat.lt_div_iff hd,Rat.not_lt]; grind
 have hrr:r=(1+(num:Rat) / (den:Rat)) / (1 - (num:Rat) / (den:Rat)):=by
  rw [hr]
  generalize (num:Rat) / (den:Rat)=t at *
  rw [← he]
  have:(den:Rat) - t * (den:Rat) ≠ 0:=by grind
  have:1 - t ≠ 0:=by grind
  grind
 have hp:=two_pos s
 rw [hrr]
 generalize (num:Rat) / (den:Rat)=t at *
 generalize (2:Rat)^s=q at *
 refine ⟨(log_P h0 (by grind) m).le_z ?_,log_Q h0 (by grind) fun n=>?_⟩
 ·rw [← Rat.not_lt,Rat.lt_div_iff hp,Rat.not_lt]
  push_cast
  generalize Ls t m=L at *
  grind
 ·have:=h2 n
  rw [le_div hp]
  push_cast
  generalize Ls t n=L at *
  grind
theorem rv_s {n:Bool} {m s:Nat}:rv ⟨n,m,-(s:Int)⟩=if n then -((m:Rat) / (2:Rat)^s) else (m:Rat) / (2:Rat)^s:=by
 unfold rv val
 simp only
 rw [z_neg]
 have e:(m:Rat) * (1 / (2:Rat)^s)=(m:Rat) / (2:Rat)^s:=by rw [Rat.div_def,Rat.div_def]; grind
 rw [e]
theorem bl_small {a k:Nat} (h:a≤2^k) (hk:k≤4000):bl a≤100000:=Nat.le_trans (bl_le (k:=k+1) (Nat.lt_of_le_of_lt h (Nat.pow_lt_pow_right (by decide) (by omega)))) (by omega)
theorem at_bl {num den s:Nat} (h:0 < den) (h3:num * 3≤den) (hs:s≤3000):bl ((atanhP num den s).lo * 2)≤100000∧bl ((atanhP num den s).hi * 2)≤100000:=by
 have h:=atanhP_le (num:=num) (den:=den) (s:=s) (by omega) h3
 have h2:=pow12 hs
 have h4:2^(s+12) * 2=2^(s+13):=(Nat.pow_succ (n:=2) (m:=s+12)).symm
 exact ⟨bl_small (k:=s+13) (Nat.le_trans (Nat.mul_le_mul_right 2 (Nat.le_trans h.1 h2)) (Nat.le_of_eq h4)) (by omega),bl_small (k:=s+13) (Nat.le_trans (Nat.mul_le_mul_right 2 (Nat.le_trans h.2 h2)) (Nat.le_of_eq h4)) (by omega)⟩
theorem logX_PQ {m s:Nat} (h0:m ≠ 0) (hs:s≤3000):P (rv (logX m s).lo) ((m:Rat) / (nearO m:Rat))∧Q (rv (logX m s).hi) ((m:Rat) / (nearO m:Rat)):=by
 obtain ⟨g1,g2,g3⟩:=near_third h0
 have hm:(0:Rat) < (m:Rat):=by exact_mod_cast Nat.pos_of_ne_zero h0
 unfold logX
 generalize nearO m=o at *
 have ho:(0:Rat) < (o:Rat):=by exact_mod_cast g2
 by_cases hlt:m < o
 ·rw [if_pos hlt] at g1 ⊢
  rw [decide_eq_true hlt]
  obtain ⟨p,q⟩:=at_PQ (num:=o - m) (den:=m+o) (s:=s) (by omega) g1 (r:=(o:Rat) / (m:Rat)) (by
   have e:((o - m:Nat):Rat)=(o:Rat) - (m:Rat):=by
    have:((o - m:Nat):Rat)+(m:Rat)=(o:Rat):=by exact_mod_cast (by omega:o - m+m=o)
    grind
   rw [e]; push_cast
   have:(m:Rat)+(o:Rat) - ((o:Rat) - (m:Rat)) ≠ 0:=by grind
   grind)
  obtain ⟨bb1,bb2⟩:=at_bl (num:=o - m) (den:=m+o) (s:=s) (by omega) g1 hs
  obtain ⟨w1,w2,w3,w4⟩:=within_rv (lo:=(atanhP (o - m) (m+o) s).lo * 2) (hi:=(atanhP (o - m) (m+o) s).hi * 2) (e:=-(s:Int)) (neg:=true) (by omega) bb1 bb2
  rw [rv_s,if_pos rfl] at w1 w2 w3 w4
  have e:1 / ((o:Rat) / (m:Rat))=(m:Rat) / (o:Rat):=by grind
  have p':=p.neg
  have q':=q.neg
  rw [e] at p' q'
  exact ⟨q'.le_z w2,p'.le_z w3⟩
 ·rw [if_neg hlt] at g1 ⊢
  rw [decide_eq_false hlt]
  obtain ⟨p,q⟩:=at_PQ (num:=m - o) (den:=m+o) (s:=s) (by omega) g1 (r:=(m:Rat) / (o:Rat)) (by
   have e:((m - o:Nat):Rat)=(m:Rat) - (o:Rat):=by
    have:((m - o:Nat):Rat)+(o:Rat)=(m:Rat):=by exact_mod_cast (by omega:m - o+o=m)
    grind
   rw [e]; push_cast
   have:(m:Rat)+(o:Rat) - ((m:Rat) - (o:Rat)) ≠ 0:=by grind
   grind)
  obtain ⟨bb1,bb2⟩:=at_bl (num:=m - o) (den:=m+o) (s:=s) (by omega) g1 hs
  obtain ⟨w1,w2,w3,w4⟩:=within_rv (lo:=(atanhP (m - o) (m+o) s).lo * 2) (hi:=(atanhP (m - o) (m+o) s).hi * 2) (e:=-(s:Int)) (neg:=false) (by omega) bb1 bb2
  rw [rv_s,if_neg (by simp)] at w1 w2 w3 w4
  exact ⟨p.le_z w1,q.le_z w4⟩
theorem ln2_PQ (s:Nat):P ((((atanhP 1 3 s).lo+(atanhP 1 3 s).lo:Nat):Rat) / (2:Rat)^s) 2∧Q ((((atanhP 1 3 s).hi+(atanhP 1 3 s).hi:Nat):Rat) / (2:Rat)^s) 2:=by
 have:=at_PQ (num:=1) (den:=3) (s:=s) (by decide) (by decide) (r:=2) (by push_cast; grind)
 rwa [Nat.mul_two,Nat.mul_two] at this
theorem ln2_up (s n:Nat):P ((((atanhP 1 3 s).lo+(atanhP 1 3 s).lo) * n:Nat) / (2:Rat)^s) ((2:Rat)^n)∧Q ((((atanhP 1 3 s).hi+(atanhP 1 3 s).hi) * n:Nat) / (2:Rat)^s) ((2:Rat)^n):=by
 obtain ⟨p,q⟩:=ln2_PQ s
 generalize (atanhP 1 3 s).lo+(atanhP 1 3 s).lo=c at *
 generalize (atanhP 1 3 s).hi+(atanhP 1 3 s).hi=d at *
 have p':=p.pow n
 have q':=q.pow n
 have e:∀ c:Nat,(n:Rat) * ((c:Rat) / (2:Rat)^s)=((c * n:Nat):Rat) / (2:Rat)^s:=fun c=>by push_cast; rw [Rat.div_def,Rat.div_def]; grind
 rw [e] at p' q'
 exact ⟨p',q'⟩
theorem logY_PQ {E:Int} {s:Nat} (hE:E.natAbs≤2048) (hs:s≤3000):P (rv (logY E s).lo) ((2:Rat)^E)∧Q (rv (logY E s).hi) ((2:Rat)^E):=by
 have hb:bl (((atanhP 1 3 s).lo+(atanhP 1 3 s).lo) * E.natAbs)≤100000∧bl (((atanhP 1 3 s).hi+(atanhP 1 3 s).hi) * E.natAbs)≤100000:=by
  have h:=atanhP_le (num:=1) (den:=3) (s:=s) (by decide) (by decide)
  have h2:=pow12 hs
  have h3:=p24 s
  exact ⟨bl_small (Nat.le_trans (Nat.mul_le_mul (Nat.add_le_add (Nat.le_trans h.1 h2) (Nat.le_trans h.1 h2)) hE) (Nat.le_of_eq h3)) (by omega),bl_small (Nat.le_trans (Nat.mul_le_mul (Nat.add_le_add (Nat.le_trans h.2 h2) (Nat.le_trans h.2 h2)) hE) (Nat.le_of_eq h3)) (by omega)⟩
 obtain ⟨p,q⟩:=ln2_up s E.natAbs
 unfold logY
 generalize ((atanhP 1 3 s).lo+(atanhP 1 3 s).lo) * E.natAbs=c at *
 generalize ((atanhP 1 3 s).hi+(atanhP 1 3 s).hi) * E.natAbs=d at *
 obtain ⟨w1,w2,w3,w4⟩:=within_rv (lo:=c) (hi:=d) (e:=-(s:Int)) (neg:=decide (E < 0)) (by omega) hb.1 hb.2
 rw [rv_s] at w1 w2 w3 w4
 by_cases h:E < 0
 ·rw [decide_eq_true h] at *
  rw [if_pos rfl] at w1 w2 w3 w4
  have e:(2:Rat)^E=1 / (2:Rat)^E.natAbs:=by rw [← z_neg]; congr 1; omega
  rw [e]
  exact ⟨q.neg.le_z w2,p.neg.le_z w3⟩
 ·rw [decide_eq_false h] at *
  rw [if_neg (by simp)] at w1 w2 w3 w4
  have e:(2:Rat)^E=(2:Rat)^E.natAbs:=by rw [← z_nat]; congr 1; omega
  rw [e]
  exact ⟨p.le_z w1,q.le_z w4⟩
theorem pow_cast (n:Nat):((2^n:Nat):Rat)=(2:Rat)^(n:Int):=by rw [two_cast,z_nat]
theorem near_val {m:Nat} {e:Int} (h0:m ≠ 0):(m:Rat) / (nearO m:Rat) * (2:Rat)^(nearE m ((bl m:Int) - 1+e))=val m e:=by
 have hb:0 < bl m:=by rw [bl_pos h0]; omega
 have key:∀ (o:Nat) (E:Int),(o:Rat)=(2:Rat)^(E - e)→(m:Rat) / (o:Rat) * (2:Rat)^E=val m e:=fun o E h=>by
  rw [h]
  unfold val
  have h1:(2:Rat)^E=(2:Rat)^(E - e) * (2:Rat)^e:=by rw [← z_add]; congr 1; omega
  rw [h1]
  have h2:=two_z (E - e)
  grind
 unfold nearO nearE
 split
 ·refine key _ _ ?_
  rw [show 2^(bl m - 1)+2^(bl m - 1)=2^(bl m) by rw [← Nat.mul_two,← Nat.pow_succ]; congr 1; omega,pow_cast]
  congr 1; omega
 ·refine key _ _ ?_
  rw [pow_cast]
  congr 1; omega
theorem log_PQ {m s:Nat} {e:Int} (h0:m ≠ 0) (hE:(nearE m ((bl m:Int) - 1+e)).natAbs≤2048) (hs:s≤3000) :
  P (rv (logN m ((bl m:Int) - 1+e) s).lo) (val m e)∧Q (rv (logN m ((bl m:Int) - 1+e) s).hi) (val m e):=by
 obtain ⟨v1,v2,-,v3,v4⟩:=logN_vb h0 hE hs
 obtain ⟨x1,x2,-⟩:=logX_vb h0 hs
 obtain ⟨y1,y2,-⟩:=logY_vb hE hs
 obtain ⟨p1,q1⟩:=logX_PQ (s:=s) h0 hs
 obtain ⟨p2,q2⟩:=logY_PQ (E:=nearE m ((bl m:Int) - 1+e)) hE hs
 rw [← near_val h0]
 generalize logN m ((bl m:Int) - 1+e) s=L at *
 generalize logX m s=X at *
 generalize logY (nearE m ((bl m:Int) - 1+e)) s=Y at *
 have key:∀ a b c:Dn,Vb s (s+25) a→Vb s (s+13) b→Vb s (s+24) c→zv s a=zv s b+zv s c→rv a=rv b+rv c:=fun a b c ha hb hc h=>by
  have h1:=zv_rv ha.lo
  have h2:=zv_rv hb.lo
  have h3:=zv_rv hc.lo
  rw [h] at h1
  push_cast at h1
  rw [h2,h3] at h1
  have:=two_pos s
  grind
 rw [key _ _ _ v1 x1 y1 v3,key _ _ _ v2 x2 y2 v4]
 exact ⟨p1.add p2,q1.add q2⟩
theorem rv_mulD {K p K' p':Nat} {a c:Dn} (ha:Vb K p a) (hc:Vb K' p' c) (hK:K≤20000) (hp:p≤20000) (hK':K'≤20000) (hp':p'≤20000):rv (MulD a c)=rv a * rv c:=by
 obtain ⟨h1,h2,-⟩:=ha.mul hc hK hp hK' hp'
 have e1:=zv_rv h1.lo
 have e2:=zv_rv ha.lo
 have e3:=zv_rv hc.lo
 rw [h2] at e1
 push_cast at e1
 rw [e2,e3,rpow_add] at e1
 have t1:=two_pos K
 have t2:=two_pos K'
 generalize (2:Rat)^K=k1 at *
 generalize (2:Rat)^K'=k2 at *
 have:0 < k1 * k2:=Rat.mul_pos t1 t2
 have e4:rv (MulD a c) * (k1 * k2)=rv a * rv c * (k1 * k2):=by rw [← e1]; grind
 exact Rat.le_antisymm (Rat.le_of_mul_le_mul_right (le_eq e4) this) (Rat.le_of_mul_le_mul_right (le_eq e4.symm) this)
theorem min4_rv {K:Nat} {a b c d:Dn} (ha:Zk K a) (hb:Zk K b) (hc:Zk K c) (hd:Zk K d):rv (min4 a b c d)≤rv a∧rv (min4 a b c d)≤rv c∧rv a≤rv (max4 a b c d)∧rv c≤rv (max4 a b c d):=by
 have hK:(0:Int)≤K:=by omega
 have l1:=lessD_zk hK hb ha
 have z1:Zk K (lessD b a):=lessD_all hb ha
 have l2:=lessD_zk hK hc z1
 have z2:Zk K (lessD c (lessD b a)):=lessD_all hc z1
 have l3:=lessD_zk hK hd z2
 have m1:=moreD_zk hK hb ha
 have y1:Zk K (moreD b a):=moreD_all hb ha
 have m2:=moreD_zk hK hc y1
 have y2:Zk K (moreD c (moreD b a)):=moreD_all hc y1
 have m3:=moreD_zk hK hd y2
 have e1:min4 a b c d=lessD d (lessD c (lessD b a)):=rfl
 have e2:max4 a b c d=moreD d (moreD c (moreD b a)):=rfl
 have z3:Zk K (min4 a b c d):=lessD_all hd z2
 have y3:Zk K (max4 a b c d):=moreD_all hd y2
 rw [rv_zk z3 ha,rv_zk z3 hc,rv_zk ha y3,rv_zk hc y3,e1,e2]
 omega
theorem topN_bb {x:Dn} (h:bareN (bareN x)=bareN x) (h0:(bareN x).m ≠ 0):topN (bareN x)=(bl (bareN x).m:Int) - 1+(bareN x).e:=by
 unfold topN
 rw [h,if_neg h0]
theorem z_rv {x y:Dn} (h:NumOk x y) (hx:bareN (bareN x)=bareN x) {s:Nat} (hs:s≤3000):∃ L1 L2:Rat,P L1 (val (bareN x).m (bareN x).e)∧Q L2 (val (bareN x).m (bareN x).e) ∧
  rv (zOf x y s).lo≤L1 * rv y∧rv (zOf x y s).lo≤L2 * rv y∧L1 * rv y≤rv (zOf x y s).hi∧L2 * rv y≤rv (zOf x y s).hi:=by
 have hE:=h.hE
 rw [topN_bb hx h.x0] at hE
 obtain ⟨p,q⟩:=log_PQ (s:=s) h.x0 hE hs
 obtain ⟨l1,l2,-⟩:=logN_vb h.x0 hE hs
 unfold zOf
 rw [topN_bb hx h.x0]
 generalize logN (bareN x).m ((bl (bareN x).m:Int) - 1+(bareN x).e) s=L at *
 obtain ⟨L1,L2⟩:=L
 simp only at p q l1 l2 ⊢
 have yv:=h.yv
 refine ⟨_,_,p,q,?_⟩
 rw [← rv_mulD l1 yv (by omega) (by omega) (by omega) (by omega),← rv_mulD l2 yv (by omega) (by omega) (by omega) (by omega)]
 obtain ⟨p1,-,-⟩:=l1.mul yv (by omega) (by omega) (by decide) (by decide)
 obtain ⟨q1,-,-⟩:=l2.mul yv (by omega) (by omega) (by decide) (by decide)
 have z1:=p1.zk (by omega) (by omega)
 have z2:=q1.zk (by omega) (by omega)
 have:=min4_rv z1 z1 z2 z2
 unfold mulI
 simp only
 exact ⟨this.1,this.2.1,this.2.2.1,this.2.2.2⟩
theorem rv_abs {K:Nat} {d:Dn} (h:-(K:Int)≤d.e):(signN d < 0→rv d=-(((mz K d:Nat):Rat) / (2:Rat)^K))∧(¬ signN d < 0→rv d=((mz K d:Nat):Rat) / (2:Rat)^K):=by
 have h1:=mz_val h
 have hp:=two_pos K
 have e:val d.m d.e=((mz K d:Nat):Rat) / (2:Rat)^K:=by grind
 unfold signN rv
 rw [e]
 by_cases h0:d.m=0
 ·rw [if_pos h0,mz_zero.2 h0]
  have z:((0:Nat):Rat) / (2:Rat)^K=0:=by rw [Rat.div_def]; exact Rat.zero_mul _
  rw [z]
  refine ⟨nofun,fun _=>?_⟩
  split
  ·rfl
  ·rfl
 ·rw [if_neg h0]
  cases d.neg <;> simp
theorem cancel_le {a b q p:Rat} (hq:0 < q) (hp:0 < p):(a * p≤b→a / q≤b / (q * p))∧(b≤a * p→b / (q * p)≤a / q):=by
 have hqp:=Rat.mul_pos hq hp
 have e:a / q=a * p / (q * p):=by grind
 rw [e]
 constructor
 ·intro h
  rw [le_div hqp]
  have:a * p / (q * p) * (q * p)=a * p:=by grind
  rw [this]; exact h
 ·intro h
  rw [le_div hqp]
  have:b / (q * p) * (q * p)=b:=by grind
  rw [this]; exact h
theorem units_rv {d:Dn} {s:Nat} (sd:Sd d) (hs:s≤3000) :
  (¬ signN d < 0→(unitsN d s false:Rat) / (2:Rat)^s≤rv d∧rv d≤(unitsN d s true:Rat) / (2:Rat)^s) ∧
  (signN d < 0→-((unitsN d s true:Rat) / (2:Rat)^s)≤rv d∧rv d≤-((unitsN d s false:Rat) / (2:Rat)^s)):=by
 have sb:=sd.bare
 obtain ⟨K,hK⟩:∃ K:Nat,K=8000:=⟨_,rfl⟩
 have f1:=units_floor (d:=d) (s:=s) (K:=K) (by omega) (by omega)
 have g1:=units_ceil (d:=d) (s:=s) (K:=K) (by omega) (by omega)
 rw [mz_bareN (by omega) (by have:=sd.2.1; omega) ⟨by have:=sd.2.1; omega,by have:=sd.2.2; omega⟩] at f1 g1
 have ab:=rv_abs (K:=K) (d:=d) (by have:=sd.2.1; omega)
 have eK:(2:Rat)^K=(2:Rat)^s * (2:Rat)^(K - s):=by rw [← rpow_add]; congr 1; omega
 rw [eK] at ab
 have h1:((unitsN d s false:Nat):Rat) * (2:Rat)^(K - s)≤((mz K d:Nat):Rat):=by rw [← two_cast]; exact_mod_cast f1
 have h2:((mz K d:Nat):Rat)≤((unitsN d s true:Nat):Rat) * (2:Rat)^(K - s):=by rw [← two_cast]; exact_mod_cast g1
 have k1:=(cancel_le (two_pos s) (two_pos (K - s))).1 h1
 have k2:=(cancel_le (two_pos s) (two_pos (K - s))).2 h2
 constructor
 ·intro hn
  rw [ab.2 hn]; exact ⟨k1,k2⟩
 ·intro hn
  rw [ab.1 hn]
  exact ⟨Rat.neg_le_neg k2,Rat.neg_le_neg k1⟩
theorem end_Q {x s:Nat} {k:Int} {z w:Rat} (y:Nat) (hy:y≤2^s) (h:Q w ((2:Rat)^k)) (hz:(x:Rat) / (2:Rat)^s+w≤z) (h0:(expP x y s).lo ≠ 0):Q z (val (expP x y s).lo (k - (s:Int))):=by
 obtain ⟨⟨m,h1⟩,-⟩:=expP_enc (a:=x) (s:=s) hy
 have hp:=two_pos s
 have a0:0≤(x:Rat) / (2:Rat)^s:=div_nn (nn x) (Rat.le_of_lt hp)
 have hv:(0:Rat) < ((expP x y s).lo:Rat) / (2:Rat)^s:=by
  rw [Rat.lt_div_iff hp]
  have:(0:Rat) < ((expP x y s).lo:Rat):=by exact_mod_cast Nat.pos_of_ne_zero h0
  grind
 have q:=Q.ofE a0 hv (fun u hu=>by
  have:=hu m
  rw [← Rat.not_lt,Rat.lt_div_iff hp,Rat.not_lt]
  have h3:=Rat.mul_le_mul_of_nonneg_left this (Rat.le_of_lt hp)
  grind)
 have q2:=(q.add h).le_z hz
 have e:val (expP x y s).lo (k - (s:Int))=((expP x y s).lo:Rat) / (2:Rat)^s * (2:Rat)^k:=by
  unfold val
  rw [Int.sub_eq_add_neg,z_add,z_neg,Rat.div_def,Rat.div_def]; grind
 rw [e]; exact q2
theorem end_P {x s:Nat} {k:Int} {z w:Rat} (y:Nat) (hy:y≤2^s) (h:P w ((2:Rat)^k)) (hz:z≤(y:Rat) / (2:Rat)^s+w):P z (val (expP x y s).hi (k - (s:Int))):=by
 obtain ⟨-,h1⟩:=expP_enc (a:=x) (s:=s) hy
 have hp:=two_pos s
 have a0:0≤(y:Rat) / (2:Rat)^s:=div_nn (nn y) (Rat.le_of_lt hp)
 have p:=P.ofU a0 (u:=((expP x y s).hi:Rat) / (2:Rat)^s) (fun n=>by
  rw [le_div hp]
  have:=h1 n
  grind)
 have p2:=(p.add h).le_z hz
 have e:val (expP x y s).hi (k - (s:Int))=((expP x y s).hi:Rat) / (2:Rat)^s * (2:Rat)^k:=by
  unfold val
  rw [Int.sub_eq_add_neg,z_add,z_neg,Rat.div_def,Rat.div_def]; grind
 rw [e]; exact p2
theorem lin1 {X D L i Z:Rat} (e:L=X+D) (h:L * i≤Z):X * i+D * i≤Z:=by rw [e] at h; grind
theorem lin2 {X D L i Z:Rat} (e:X+L=D) (h:-(L * i)≤Z):X * i+-(D * i)≤Z:=by rw [← e]; grind
theorem lin3 {Y D H i Z:Rat} (h:Z≤H * i) (k:(H - D) * i≤Y * i):Z≤Y * i+D * i:=by grind
theorem lin4 {Y D H i Z:Rat} (e:H+D=Y) (h:Z≤H * i):Z≤Y * i+-(D * i):=by rw [← e]; grind
theorem lin5 {Y D H i Z:Rat} (h:Z≤-(H * i)) (k:(D - H) * i≤Y * i):Z≤Y * i+-(D * i):=by grind
theorem lin6 {H Z:Rat} (h:Z≤-H) (k:0≤H):Z≤H:=by grind
theorem exp_PQ {Z I:In} {s:Nat} {n1 n2:Bool} {l h c d q x y:Nat} (E:ExpOf Z s I n1 n2 l h c d q x y) (s1:Sd Z.lo) (s2:Sd Z.hi) (hs:8≤s∧s≤3000) :
  (0 < rv I.lo→Q (rv Z.lo) (rv I.lo))∧P (rv Z.hi) (rv I.hi):=by
 obtain ⟨hn1,hn2,hl,hh,ec,ed,hq,hx,hy,hy2,hxy,hk,hI⟩:=E
 obtain ⟨u1,u2⟩:=units_rv (s:=s) s1 hs.2
 obtain ⟨v1,v2⟩:=units_rv (s:=s) s2 hs.2
 obtain ⟨cp,dq⟩:=ln2_up s q
 rw [ec] at cp
 rw [ed] at dq
 have cl:=ln2_low hs.1
 rw [ec] at cl
 have c0:0 < c:=by have:=Nat.two_pow_pos s; omega
 have hp:=two_pos s
 obtain ⟨i,hi⟩:∃ i,i=1 / (2:Rat)^s:=⟨_,rfl⟩
 have fr:∀ a:Rat,a / (2:Rat)^s=a * i:=fun a=>by rw [hi,Rat.div_def,Rat.div_def]; grind
 have ip:0 < i:=by rw [hi,Rat.lt_div_iff hp]; grind
 simp only [fr] at u1 u2 v1 v2 cp dq
 have frx:=fr (x:Rat)
 have fry:=fr (y:Rat)
 clear hi fr
 have sub:∀ a b:Nat,(a:Rat) - (b:Rat)≤((a - b:Nat):Rat):=fun a b=>by
  have:(a:Rat)≤((a - b:Nat):Rat)+(b:Rat):=by exact_mod_cast (by omega:a≤a - b+b)
  grind
 have lower:∃ w,Q w ((2:Rat)^(spK n1 q))∧(x:Rat) / (2:Rat)^s+w≤rv Z.lo:=by
  rw [frx]
  cases n1
  ·have a1:=(u1 (of_decide_eq_false hn1)).1
   rw [hl] at a1
   refine ⟨_,by unfold spK; rw [if_neg (by simp),z_nat]; exact dq,?_⟩
   have hl2:l=x+d * q:=by rw [← hx,← hq]; unfold spX spQ; rw [if_neg (by simp),if_neg (by simp)]; have:=Nat.mod_add_div l d; omega
   have e:(l:Rat)=(x:Rat)+((d * q:Nat):Rat):=by exact_mod_cast hl2
   exact lin1 e a1
  ·have a1:=(u2 (of_decide_eq_true hn1)).1
   rw [hl] at a1
   refine ⟨_,by unfold spK; rw [if_pos rfl,z_neg]; exact cp.neg,?_⟩
   have hlq:l≤c * q:=by
    rw [← hq]; unfold spQ; rw [if_pos rfl]
    have hd:=Nat.div_add_mod l c
    have hm:=Nat.mod_lt l c0
    split
    ·omega
    ·rw [Nat.mul_add,Nat.mul_one]; omega
   have hl2:x+l=c * q:=by rw [← hx]; unfold spX; rw [if_pos rfl,Nat.mul_comm q c]; omega
   exact lin2 (by exact_mod_cast hl2) a1
 have upper:∃ w,P w ((2:Rat)^(spK n1 q))∧rv Z.hi≤(y:Rat) / (2:Rat)^s+w:=by
  rw [fry]
  cases n1
  ·refine ⟨_,by unfold spK; rw [if_neg (by simp),z_nat]; exact cp,?_⟩
   have b1:rv Z.hi≤(h:Rat) * i:=by
    cases n2
    ·have:=(v1 (of_decide_eq_false hn2)).2
     rwa [show true=!false from rfl,hh] at this
    ·have:=(v2 (of_decide_eq_true hn2)).2
     rw [show false=!true from rfl,hh] at this
     exact lin6 this (Rat.mul_nonneg (nn h) (Rat.le_of_lt ip))
   have b2:=sub h (q * c)
   have e:h - q * c=y:=by rw [← hy]; unfold spY; rw [if_neg (by simp)]
   rw [e,Nat.mul_comm q c] at b2
   exact lin3 b1 (Rat.mul_le_mul_of_nonneg_right b2 (Rat.le_of_lt ip))
  ·refine ⟨_,by unfold spK; rw [if_pos rfl,z_neg]; exact dq.neg,?_⟩
   have e:plusN n2 h (q * d)=y:=by rw [← hy]; unfold spY; rw [if_pos rfl]
   unfold plusN at e
   rw [Nat.mul_comm q d] at e
   cases n2
   ·have b1:=(v1 (of_decide_eq_false hn2)).2
    rw [show true=!false from rfl,hh] at b1
    rw [if_neg (by simp)] at e
    exact lin4 (by exact_mod_cast e) b1
   ·have b1:=(v2 (of_decide_eq_true hn2)).2
    rw [show false=!true from rfl,hh] at b1
    rw [if_pos rfl] at e
    have b2:=sub (d * q) h
    rw [e] at b2
    exact lin5 b1 (Rat.mul_le_mul_of_nonneg_right b2 (Rat.le_of_lt ip))
 have he:=expP_le (Nat.le_trans hxy hy2) hy2
 have hp12:=pow12' hs.2
 obtain ⟨w1,w2,w3,w4⟩:=within_rv (lo:=(expP x y s).lo) (hi:=(expP x y s).hi) (e:=spK n1 q - (s:Int)) (neg:=false) (by omega) (bl_small (Nat.le_trans he.1 hp12) (by omega)) (bl_small (Nat.le_trans he.2 hp12) (by omega))
 rw [← hI] at w1 w2 w3 w4
 have em:∀ m e,rv ⟨false,m,e⟩=val m e:=fun m e=>by unfold rv; rw [if_neg (by simp)]
 rw [em] at w1 w2 w3 w4
 constructor
 ·intro h0
  obtain ⟨w,l1,l2⟩:=lower
  have h1:(expP x y s).lo ≠ 0:=by
   intro h1
   rw [h1] at w1
   have:val 0 (spK n1 q - (s:Int))=0:=by unfold val; push_cast; grind
   grind
  exact (end_Q y hy2 l1 l2 h1).le_x h0 w1
 ·obtain ⟨w,l1,l2⟩:=upper
  exact (end_P y hy2 l1 l2).le_x w4
def rndN (A p:Nat) (z:Int):Nat:=if awayN z (A / 2^p % 2 == 1) (A / 2^(p - 1) % 2 == 1) (decide (A % 2^(p - 1) ≠ 0)) then A / 2^p+1 else A / 2^p
theorem rnd_is {m:Nat} {u e:Int} {K:Nat} (he:-(K:Int)≤e) (hu:1≤u+K) (z:Int):(wholeN m (u - e) z false).1=rndN (m * 2^(e+K).toNat) (u+K).toNat z:=by
 obtain ⟨p,hp⟩:∃ p:Nat,(u+K).toNat=p+1:=⟨(u+K).toNat - 1,by omega⟩
 have key:partsN m (u - e)=(m * 2^(e+K).toNat / 2^(p+1),m * 2^(e+K).toNat / 2^p % 2 == 1,decide (m * 2^(e+K).toNat % 2^p ≠ 0)):=by
  unfold partsN
  by_cases hn:u - e≤0
  ·rw [if_pos hn]
   have e1:m * 2^(e+K).toNat=m * 2^(-(u - e)).toNat * 2 * 2^p:=by
    rw [Nat.mul_assoc,Nat.mul_assoc,Nat.mul_comm 2,← Nat.pow_succ,← Nat.pow_add]; congr 2; omega
   have e2:m * 2^(e+K).toNat=m * 2^(-(u - e)).toNat * 2^(p+1):=by rw [e1,Nat.mul_assoc,Nat.mul_comm 2,Nat.pow_succ]
   rw [show m * 2^(e+K).toNat / 2^(p+1)=m * 2^(-(u - e)).toNat by rw [e2,Nat.mul_div_cancel _ (Nat.two_pow_pos _)]]
   rw [e1,Nat.mul_div_cancel _ (Nat.two_pow_pos _),Nat.mul_mod_left,Nat.mul_mod_left]
   rfl
  ·rw [if_neg hn]
   have e1:2^(p+1)=2^(u - e).toNat * 2^(e+K).toNat:=by rw [← Nat.pow_add]; congr 1; omega
   have e2:2^p=2^((u - e).toNat - 1) * 2^(e+K).toNat:=by rw [← Nat.pow_add]; congr 1; omega
   have h0:=Nat.two_pow_pos (e+K).toNat
   rw [e1,e2,Nat.mul_div_mul_right _ _ h0,Nat.mul_div_mul_right _ _ h0,Nat.mul_mod_mul_right]
   congr 2
   rw [decide_eq_decide]
   constructor
   ·intro h; exact Nat.mul_ne_zero h (by omega)
   ·intro h h1; rw [h1,Nat.zero_mul] at h; exact h rfl
 unfold wholeN rndN
 rw [key,hp]
 simp only [Bool.or_false,Nat.add_sub_cancel]
theorem rnd_mono {A A' p:Nat} (hp:0 < p) (h:A≤A') (z:Int):rndN A p z≤rndN A' p z:=by
 obtain ⟨k,rfl⟩:∃ k,p=k+1:=⟨p - 1,by omega⟩
 unfold rndN
 rw [Nat.add_sub_cancel]
 have hq:A / 2^k≤A' / 2^k:=Nat.div_le_div_right h
 have e:∀ B,B / 2^(k+1)=B / 2^k / 2:=fun B=>by rw [Nat.pow_succ,Nat.div_div_eq_div_mul]
 rw [e,e]
 have d1:=Nat.div_add_mod A (2^k)
 have d2:=Nat.div_add_mod A' (2^k)
 have l1:=Nat.mod_lt A (Nat.two_pow_pos k)
 have hb:A / 2^k=A' / 2^k→A % 2^k≤A' % 2^k:=by intro he; rw [he] at d1; omega
 generalize A / 2^k=a at *
 generalize A' / 2^k=a' at *
 generalize A % 2^k=b at *
 generalize A' % 2^k=b' at *
 clear d1 d2 l1 e h
 by_cases hlt:a / 2 < a' / 2
 ·split <;> split <;> omega
 have heq:a / 2=a' / 2:=by omega
 rw [← heq]
 have key:awayN z (a / 2 % 2 == 1) (a % 2 == 1) (decide (b ≠ 0))=true→awayN z (a / 2 % 2 == 1) (a' % 2 == 1) (decide (b' ≠ 0))=true:=by
  unfold awayN
  generalize (a / 2 % 2 == 1)=o
  by_cases hz:z=0
  ·rw [if_pos hz,if_pos hz]
   simp only [Bool.and_eq_true,Bool.or_eq_true,beq_iff_eq,decide_eq_true_eq]
   rintro ⟨h1,h2⟩
   have ha:a=a':=by omega
   subst ha
   have:=hb rfl
   refine ⟨h1,h2.imp_left fun h=>by omega⟩
  ·rw [if_neg hz,if_neg hz]
   simp only [Bool.and_eq_true,Bool.or_eq_true,beq_iff_eq,decide_eq_true_eq]
   rintro ⟨h1,h2⟩
   refine ⟨?_,h2⟩
   by_cases ha:a=a'
   ·subst ha
    have:=hb rfl
    exact h1.imp_right fun h=>by omega
   ·left; omega
 split
 ·rename_i h
  rw [if_pos (key h)]
  exact Nat.le_refl _
 ·split <;> omega
theorem rnd_pos {A p:Nat} (hp:0 < p) (h:A ≠ 0):1≤rndN A p 2:=by
 obtain ⟨k,rfl⟩:∃ k,p=k+1:=⟨p - 1,by omega⟩
 unfold rndN
 rw [Nat.add_sub_cancel]
 split
 ·exact Nat.le_add_left 1 _
 ·rename_i hn
  show 1≤A / 2^(k+1)
  have e:A / 2^(k+1)=A / 2^k / 2:=by rw [Nat.pow_succ,Nat.div_div_eq_div_mul]
  have d1:=Nat.div_add_mod A (2^k)
  rw [e]
  unfold awayN at hn
  rw [if_neg (by decide)] at hn
  simp only [Bool.and_eq_true,Bool.or_eq_true,beq_iff_eq,decide_eq_true_eq,and_true,not_or] at hn
  obtain ⟨h1,h2⟩:=hn
  have h2:A % 2^k=0:=Classical.byContradiction h2
  rw [h2] at d1
  have:A / 2^k ≠ 0:=by intro h0; rw [h0,Nat.mul_zero] at d1; omega
  generalize A / 2^k=q at *
  omega
theorem top_mono {m m':Nat} {e e':Int} {K:Nat} (h0:m ≠ 0) (he:-(K:Int)≤e) (he':-(K:Int)≤e') (h:m * 2^(e+K).toNat≤m' * 2^(e'+K).toNat):(bl m:Int) - 1+e≤(bl m':Int) - 1+e':=by
 have h1:=bl_mono h
 have h0':m' ≠ 0:=by rintro rfl; rw [Nat.zero_mul] at h; have:=Nat.mul_pos (Nat.pos_of_ne_zero h0) (Nat.two_pow_pos (e+K).toNat); omega
 rw [bl_mul_pow h0,bl_mul_pow h0'] at h1
 omega
theorem toB_over {m:Nat} {e z:Int}:toB m e false z≤overB z:=by
 unfold toB
 split
 ·exact Nat.le_refl _
 ·split
  ·unfold underB overB; split <;> split <;> omega
  ·have hw:=whole_cases m (unitOf ((bl m:Int) - 1+e) - e) z false
   have hl:=parts_lt (m:=m) (n:=unitOf ((bl m:Int) - 1+e) - e) (by unfold unitOf; omega)
   have hu:(unitOf ((bl m:Int) - 1+e)+1074).toNat≤2045:=by unfold unitOf; omega
   generalize (wholeN m (unitOf ((bl m:Int) - 1+e) - e) z false).1=wv at *
   generalize (unitOf ((bl m:Int) - 1+e)+1074).toNat=uv at *
   unfold overB
   split
   ·omega
   ·rename_i hz
    omega
theorem toB_scaled {m m':Nat} {e e' z:Int} {K:Nat} (hK:1075≤K) (h0:m ≠ 0) (h0':m' ≠ 0) (he:-(K:Int)≤e) (he':-(K:Int)≤e') (h:m * 2^(e+K).toNat≤m' * 2^(e'+K).toNat):toB m e false z≤toB m' e' false z:=by
 have ht:=top_mono h0 he he' h
 by_cases o':1023 < (bl m':Int) - 1+e'
 ·rw [show toB m' e' false z=overB z by unfold toB; rw [if_pos o']]
  exact toB_over
 have o:¬ 1023 < (bl m:Int) - 1+e:=by omega
 by_cases d:(bl m:Int) - 1+e < -1075
 ·rw [show toB m e false z=underB z by unfold toB; rw [if_neg o,if_pos d]]
  unfold underB
  split
  ·rename_i hz
   subst hz
   unfold toB
   rw [if_neg o']
   split
   ·exact Nat.le_refl _
   ·have hu:-1074≤unitOf ((bl m':Int) - 1+e'):=by unfold unitOf; omega
    rw [rnd_is he' (by omega)]
    have:=rnd_pos (A:=m' * 2^(e'+(K:Int)).toNat) (p:=(unitOf ((bl m':Int) - 1+e')+(K:Int)).toNat) (by omega) (Nat.mul_ne_zero h0' (by have:=Nat.two_pow_pos (e'+(K:Int)).toNat; omega))
    omega
  ·omega
 have d':¬ (bl m':Int) - 1+e' < -1075:=by omega
 have hl:=parts_lt (m:=m) (n:=unitOf ((bl m:Int) - 1+e) - e) (by unfold unitOf; omega)
 have hc:=whole_cases m (unitOf ((bl m:Int) - 1+e) - e) z false
 have hc':=whole_cases m' (unitOf ((bl m':Int) - 1+e') - e') z false
 have hg:=parts_ge (m:=m') (n:=unitOf ((bl m':Int) - 1+e') - e') h0'
 unfold toB
 rw [if_neg o,if_neg d,if_neg o',if_neg d']
 obtain ⟨t,et⟩:∃ t,t=(bl m:Int) - 1+e:=⟨_,rfl⟩
 obtain ⟨t',et'⟩:∃ t,t=(bl m':Int) - 1+e':=⟨_,rfl⟩
 rw [← et] at hl hc ht ⊢
 rw [← et'] at hc' hg ht ⊢
 by_cases hu:unitOf t=unitOf t'
 ·rw [rnd_is he (by unfold unitOf; omega),rnd_is he' (by unfold unitOf; omega),hu]
  have:=rnd_mono (p:=(unitOf t'+(K:Int)).toNat) (by unfold unitOf; omega) h z
  omega
 ·have h1:unitOf t < unitOf t'∧-1074≤unitOf t∧unitOf t'=t' - 52:=by unfold unitOf at hu ⊢; omega
  have hg:=hg (by omega)
  generalize unitOf t=un at *
  generalize unitOf t'=un' at *
  generalize (wholeN m (un - e) z false).1=a at *
  generalize (wholeN m' (un' - e') z false).1=b at *
  have:(un+1074).toNat+1≤(un'+1074).toNat:=by omega
  omega
theorem toB_mono {m m':Nat} {e e' z:Int} (h0:m ≠ 0) (h0':m' ≠ 0) (h:val m e≤val m' e'):toB m e false z≤toB m' e' false z:=by
 obtain ⟨K,hK,he,he'⟩:∃ K:Nat,1075≤K∧-(K:Int)≤e∧-(K:Int)≤e':=⟨1075+e.natAbs+e'.natAbs,by omega,by omega,by omega⟩
 refine toB_scaled hK h0 h0' he he' ?_
 have h1:=mz_val (K:=K) (d:=⟨false,m,e⟩) he
 have h2:=mz_val (K:=K) (d:=⟨false,m',e'⟩) he'
 have h3:=Rat.mul_le_mul_of_nonneg_right h (Rat.le_of_lt (two_pos K))
 simp only at h1 h2
 rw [← h1,← h2] at h3
 exact_mod_cast h3
theorem pow_le {a b:Rat} (ha:0≤a) (h:a≤b) (n:Nat):a^n≤b^n:=by
 induction n with
 | zero=>rw [Rat.pow_zero,Rat.pow_zero]; exact Rat.le_refl
 | succ n ih=>rw [Rat.pow_succ,Rat.pow_succ]; exact mul_le ih h (pow_nn (Rat.le_trans ha h) n) ha
theorem pow_lt {a b:Rat} (ha:0≤a) (h:a < b) (n:Nat):a^(n+1) < b^(n+1):=by
 induction n with
 | zero =>
  have e:∀ c:Rat,c^(0+1)=c:=fun c=>by grind
  rw [e,e]; exact h
 | succ n ih =>
  rw [Rat.pow_succ a,Rat.pow_succ b]
  have h1:=Rat.mul_lt_mul_of_pos_right ih (by grind:0 < b)
  have h2:=Rat.mul_le_mul_of_nonneg_left (Rat.le_of_lt h) (pow_nn ha (n+1))
  grind
theorem le_of_pow {a b:Rat} (hb:0≤b) {n:Nat} (hn:0 < n) (h:a^n≤b^n):a≤b:=by
 obtain ⟨k,rfl⟩:∃ k,n=k+1:=⟨n - 1,by omega⟩
 apply Classical.byContradiction
 intro hc
 have:=pow_lt hb (Rat.not_le.1 hc) k
 grind
theorem one_pow (n:Nat):(1:Rat)^n=1:=by
 induction n with
 | zero=>exact Rat.pow_zero _
 | succ n ih=>rw [Rat.pow_succ,ih]; grind
theorem pow_one_le {a:Rat} (h:1≤a) (n:Nat):1≤a^n:=by have:=pow_le (by decide) h n; rwa [one_pow] at this
theorem pow_le_one {a:Rat} (h0:0≤a) (h:a≤1) (n:Nat):a^n≤1:=by have:=pow_le h0 h n; rwa [one_pow] at this
theorem pow_self_le {a:Rat} (h:1≤a) {n:Nat} (hn:0 < n):a≤a^n:=by
 obtain ⟨k,rfl⟩:∃ k,n=k+1:=⟨n - 1,by omega⟩
 have:=pow_one_le h k
 rw [Rat.pow_succ]
 have:=Rat.mul_le_mul_of_nonneg_right this (by grind:0≤a)
 grind
theorem pow_le_self {a:Rat} (h0:0≤a) (h:a≤1) {n:Nat} (hn:0 < n):a^n≤a:=by
 obtain ⟨k,rfl⟩:∃ k,n=k+1:=⟨n - 1,by omega⟩
 have:=pow_le_one h0 h k
 rw [Rat.pow_succ]
 have:=Rat.mul_le_mul_of_nonneg_right this h0
 grind
theorem rpow_mul (a:Rat) (m n:Nat):a^(m * n)=(a^m)^n:=by
 induction n with
 | zero=>rw [Nat.mul_zero,Rat.pow_zero,Rat.pow_zero]
 | succ n ih=>rw [Nat.mul_succ,rpow_add,ih,Rat.pow_succ]
theorem mul_rpow (a b:Rat) (n:Nat):(a * b)^n=a^n * b^n:=by
 induction n with
 | zero=>rw [Rat.pow_zero,Rat.pow_zero,Rat.pow_zero]; grind
 | succ n ih=>rw [Rat.pow_succ,ih,Rat.pow_succ,Rat.pow_succ]; grind
theorem z_pow (e:Int) (n:Nat):((2:Rat)^e)^n=(2:Rat)^(e * (n:Int)):=by
 induction n with
 | zero=>simp
 | succ n ih=>rw [Rat.pow_succ,ih,← z_add]; congr 1; push_cast; grind
theorem val_pow (m:Nat) (e:Int) (n:Nat):val m e^n=val (m^n) (e * (n:Int)):=by
 unfold val
 rw [mul_rpow,z_pow]
 congr 1
 push_cast; rfl
theorem inv_pow {a:Rat} (ha:a ≠ 0) (n:Nat):(1 / a)^n=1 / a^n:=by
 have h:(1 / a * a)^n=1:=by rw [show 1 / a * a=1 by grind,one_pow]
 rw [mul_rpow] at h
 have:a^n ≠ 0:=by intro h0; rw [h0] at h; grind
 grind
def bse (X:Rat) (n:Bool):Rat:=if n then 1 / X else X
def Sure (b:Rat) (M K:Nat) (z:Int) (B:Nat):Prop:=∃ (m:Nat) (e:Int) (m':Nat) (e':Int),m ≠ 0∧m' ≠ 0∧B=toB m e false z∧B=toB m' e' false z∧val m e^K≤b^M∧b^M≤val m' e'^K
theorem low_pow {X L1 L2 Y z v:Rat} {n:Bool} {M K:Nat} (p:P L1 X) (q:Q L2 X) (hY:Y * (K:Rat)=if n then -(M:Rat) else (M:Rat)) (h1:z≤L1 * Y) (h2:z≤L2 * Y) (hv:Q z v):v^K≤bse X n^M:=by
 have k:=hv.pow K
 have h1:=Rat.mul_le_mul_of_nonneg_left h1 (nn K)
 have h2:=Rat.mul_le_mul_of_nonneg_left h2 (nn K)
 have e:∀ L:Rat,(K:Rat) * (L * Y)=Y * (K:Rat) * L:=fun L=>by grind
 have e2:∀ L:Rat,-(M:Rat) * L=(M:Rat) * -L:=fun L=>by grind
 rw [e,hY] at h1 h2
 clear e hY
 unfold bse
 cases n
 ·rw [if_neg (by simp)] at h1 ⊢
  exact PQ (p.pow M) (k.le_z h1)
 ·rw [if_pos rfl,e2] at h2
  rw [if_pos rfl]
  exact PQ (q.neg.pow M) (k.le_z h2)
theorem high_pow {X L1 L2 Y z v:Rat} {n:Bool} {M K:Nat} (p:P L1 X) (q:Q L2 X) (hY:Y * (K:Rat)=if n then -(M:Rat) else (M:Rat)) (h1:L1 * Y≤z) (h2:L2 * Y≤z) (hv:P z v):bse X n^M≤v^K:=by
 have k:=hv.pow K
 have h1:=Rat.mul_le_mul_of_nonneg_left h1 (nn K)
 have h2:=Rat.mul_le_mul_of_nonneg_left h2 (nn K)
 have e:∀ L:Rat,(K:Rat) * (L * Y)=Y * (K:Rat) * L:=fun L=>by grind
 have e2:∀ L:Rat,-(M:Rat) * L=(M:Rat) * -L:=fun L=>by grind
 rw [e,hY] at h1 h2
 clear e hY
 unfold bse
 cases n
 ·rw [if_neg (by simp)] at h2 ⊢
  exact PQ (k.le_z h2) (q.pow M)
 ·rw [if_pos rfl,e2] at h1
  rw [if_pos rfl]
  exact PQ (k.le_z h1) (p.neg.pow M)
theorem exact_pow {x y d:Dn} (hM:ofM y ≠ 0) (h:ExactOf x y d):d.m ≠ 0∧val d.m d.e^ofK y=bse (val (bareN x).m (bareN x).e) (decide (ofM y < 0))^(ofM y).natAbs:=by
 obtain ⟨g,r,hg,hr,hd⟩:=h
 obtain ⟨-,r1,r2,r3,-⟩:=hr
 obtain ⟨-,d1,d2,-,-,-,d3⟩:=hd
 have g0:0 < g:=by rw [hg]; exact Nat.gcd_pos_of_pos_left _ (by omega)
 obtain ⟨j,hj⟩:g ∣ (ofM y).natAbs:=by rw [hg]; exact Nat.gcd_dvd_left _ _
 obtain ⟨k,hk⟩:g ∣ ofK y:=by rw [hg]; exact Nat.gcd_dvd_right _ _
 rw [hk,Nat.mul_div_cancel_left _ g0] at r1 r2
 have hX:val (bareN x).m (bareN x).e=val r.m r.e^k:=by rw [val_pow,r1,r2]
 rw [hX,hk,hj]
 refine ⟨by omega,?_⟩
 have rp:=val_pos r3 r.e
 by_cases hn:ofM y < 0
 ·rw [decide_eq_true hn]
  have e1:ofM y=-((j * g:Nat):Int):=by rw [Nat.mul_comm j g,← hj]; omega
  have e2:(ofM y).tdiv (g:Int)=-(j:Int):=by
   rw [e1,Int.neg_tdiv,Int.natCast_mul,Int.mul_tdiv_cancel _ (by omega)]
  rw [e2] at d1 d2
  have j0:j ≠ 0:=by rintro rfl; rw [Nat.zero_mul] at e1; omega
  have hm:r.m=1∧d.m=1:=by
   rcases d2 with d2 | d2
   ·exact d2
   ·omega
  have hv:val d.m d.e=(1 / val r.m r.e)^j:=by
   rw [inv_pow (by grind),val_pow,hm.1,hm.2,d1,Nat.one_pow]
   unfold val
   rw [Int.mul_neg,Rat.zpow_neg]
   have:=two_z (r.e * (j:Int))
   push_cast
   grind
  unfold bse
  rw [if_pos rfl,hv,← inv_pow (by grind),← rpow_mul,← rpow_mul]
  congr 1
  grind
 ·rw [decide_eq_false hn]
  have e1:ofM y=((j * g:Nat):Int):=by rw [Nat.mul_comm j g,← hj]; omega
  have e2:(ofM y).tdiv (g:Int)=(j:Int):=by
   rw [e1,Int.natCast_mul,Int.mul_tdiv_cancel _ (by omega)]
  rw [e2] at d1 d2
  have hv:val d.m d.e=val r.m r.e^j:=by
   rw [val_pow,d1]
   congr 1
   rcases d2 with d2 | d2
   ·rw [d2.1,d2.2,Nat.one_pow]
   ·rw [d2.2,Int.toNat_natCast]
  unfold bse
  rw [if_neg (by simp),hv,← rpow_mul,← rpow_mul]
  congr 1
  grind
theorem y_frac {y:Dn}:rv y * ((ofK y:Nat):Rat)=if decide (ofM y < 0) then -(((ofM y).natAbs:Nat):Rat) else (((ofM y).natAbs:Nat):Rat):=by
 have e1:(2:Rat)^y.e * ((ofK y:Nat):Rat)=((2^(max y.e 0).toNat:Nat):Rat):=by
  unfold ofK
  rw [pow_cast,pow_cast,← z_add]; congr 1; omega
 have e2:val y.m y.e * ((ofK y:Nat):Rat)=((y.m * 2^(max y.e 0).toNat:Nat):Rat):=by
  unfold val
  rw [Rat.mul_assoc,e1]; push_cast; rfl
 unfold rv
 unfold ofM
 generalize y.m * 2^(max y.e 0).toNat=q at *
 by_cases hn:y.neg=true
 ·rw [if_pos hn,if_pos hn]
  by_cases h0:q=0
  ·subst h0
   have:val y.m y.e * ((ofK y:Nat):Rat)=0:=by rw [e2]; rfl
   simp only [Int.natCast_zero,Int.neg_zero,Int.natAbs_zero]
   rw [if_neg (by decide)]
   have:((0:Nat):Rat)=0:=rfl
   grind
  ·rw [decide_eq_true (by omega),if_pos rfl,show (-(q:Int)).natAbs=q by omega]
   grind
 ·rw [if_neg hn,if_neg hn,decide_eq_false (by omega),if_neg (by simp),Int.natAbs_natCast]
  exact e2
end Go.Proofs.YtobpioceopfkpaaGreatDoor
