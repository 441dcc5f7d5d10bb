/-
  Lemmas for WholeTurned and WholeGrows and WholeRises, part 6 of 36: what the program's functions do, and plain facts; without conditions.
-/
import Derived.Test.YtobpioceopfkpaaGreatDoorM05
import Derived.StillTailTactics
import Derived.Deep.RegionHeld3
set_option maxRecDepth 100000
set_option maxHeartbeats 4000000
namespace Go.Proofs.YtobpioceopfkpaaGreatDoor
open Go.RowKit
structure Dn where
 neg:Bool
 m:Nat
 e:Int
def Ry (w:World) (v:Value) (d:Dn):Prop:=∃ s,v=.agg #[.bool d.neg,s,.int .i64 d.e]∧Rd w s d.m∧bl d.m≤255000∧-4611686018427387904≤d.e∧d.e≤4611686018427387904
def Cy (w:World) (v:Value) (d:Dn):Prop:=∃ s,v=.agg #[.bool d.neg,s,.int .i64 d.e]∧Dg w s d.m∧bl d.m≤255000∧-4611686018427387904≤d.e∧d.e≤4611686018427387904
theorem Ry.below {w w':World} {v:Value} {d:Dn} (h:Ry w v d) (hb:Below w.heap.size w w'):Ry w' v d:=by
 obtain ⟨s,h1,h2,h3⟩:=h; exact ⟨s,h1,h2.below hb,h3⟩
theorem Cy.below {w w':World} {v:Value} {d:Dn} (h:Cy w v d) (hb:Below w.heap.size w w'):Cy w' v d:=by
 obtain ⟨s,h1,h2,h3⟩:=h; exact ⟨s,h1,h2.below hb,h3⟩
theorem Ry.alloc {w:World} {v:Value} {d:Dn} (h:Ry w v d) (o:Obj):Ry (w.alloc o) v d:=by
 obtain ⟨s,h1,h2,h3⟩:=h; exact ⟨s,h1,h2.alloc o,h3⟩
theorem Cy.alloc {w:World} {v:Value} {d:Dn} (h:Cy w v d) (o:Obj):Cy (w.alloc o) v d:=by
 obtain ⟨s,h1,h2,h3⟩:=h; exact ⟨s,h1,h2.alloc o,h3⟩
theorem Ry.drewN {w:World} {v:Value} {d:Dn} (h:Ry w v d) (n:Nat):Ry (w.drewN n) v d:=by
 obtain ⟨s,h1,h2,h3⟩:=h; exact ⟨s,h1,h2.drewN n,h3⟩
theorem Cy.drewN {w:World} {v:Value} {d:Dn} (h:Cy w v d) (n:Nat):Cy (w.drewN n) v d:=by
 obtain ⟨s,h1,h2,h3⟩:=h; exact ⟨s,h1,h2.drewN n,h3⟩
theorem Cy.ry {w:World} {v:Value} {d:Dn} (h:Cy w v d):Ry w v d:=by
 obtain ⟨s,h1,h2,h3,h4⟩:=h
 exact ⟨s,h1,h2.rd (by omega),h3,h4⟩
def cutN (e:Int):Int:=min (max e (-2147483648)) 2147483648
def bareN (d:Dn):Dn:=if d.m=0 then ⟨false,0,0⟩ else ⟨d.neg,d.m / 2^lo d.m,cutN d.e+lo d.m⟩
def BareN (d:Dn):Dn × Int:=if (bareN d).e < -1073741824 ∨ 1073741824 < (bareN d).e then (⟨false,0,0⟩,2) else (bareN d,0)
def RetC (d:Dn) (w:World) (e:Ending) (w':World):Prop:=∃ u,e=.returned u∧Cy w' u d∧Below w.heap.size w w'
def RetCE (d:Dn) (r:Int) (w:World) (e:Ending) (w':World):Prop:=∃ u,e=.returned (.tuple #[u,.int .i64 r])∧Cy w' u d∧Below w.heap.size w w'
theorem cut_any (e:Int) (h:-4611686018427387904≤e∧e≤4611686018427387904) (w:World) :
  Calls Tryz.prog 77 #[.int .i64 e] w fun x w'=>x=.returned (.int .i64 (cutN e))∧w=w':=by
 obtain ⟨h1,h2⟩:=h
 go_enter Tryz.func77,Tryz.ntmps77
 go_wp2
 go_ret
 exact ⟨rfl,rfl⟩
theorem Ry.kp {w w':World} {v:Value} {d:Dn} (h:Ry w v d) (K:Kp w w'):Ry w' v d:=by
 obtain ⟨s,h1,h2,h3⟩:=h; exact ⟨s,h1,h2.kp K,h3⟩
theorem Cy.kp {w w':World} {v:Value} {d:Dn} (h:Cy w v d) (K:Kp w w'):Cy w' v d:=by
 obtain ⟨s,h1,h2,h3⟩:=h; exact ⟨s,h1,h2.kp K,h3⟩
theorem bareN_zero {d:Dn} (h:d.m=0):bareN d=⟨false,0,0⟩:=by unfold bareN; rw [if_pos h]
theorem bareN_pos {d:Dn} (h:d.m ≠ 0):bareN d=⟨d.neg,d.m / 2^lo d.m,cutN d.e+lo d.m⟩:=by unfold bareN; rw [if_neg h]
theorem cutN_le (e:Int):-2147483648≤cutN e∧cutN e≤2147483648:=by unfold cutN; omega
theorem Dg.len0 {w:World} {a:Option Addr} {k c n:Nat} (h:Dg w (.slice a k c) n):n=0 ↔ k=0:=by
 obtain ⟨L,h1,hc⟩:=h
 obtain ⟨a',c',he,_⟩:=h1.sl
 rw [dvl_length] at he
 injection he with _ hk _
 subst hk
 constructor
 ·rintro rfl; rw [hc.zero]; rfl
 ·intro h0; have:=hc.val; rw [List.eq_nil_of_length_eq_zero h0] at this; exact this.symm
theorem bl_mono {m n:Nat} (h:m≤n):bl m≤bl n:=bl_le (Nat.lt_of_le_of_lt h (lt_bl n))
theorem lo_le_bl {n:Nat} (h:n ≠ 0):lo n < bl n:=by
 obtain ⟨m,hm⟩:=lo_spec h
 apply Nat.lt_of_not_le; intro hl
 have h1:=lt_bl n
 have h2:2^bl n≤2^lo n:=Nat.pow_le_pow_right (by omega) hl
 have h3:2^lo n * 1≤2^lo n * (2 * m+1):=Nat.mul_le_mul_left _ (by omega)
 omega
theorem bare_d {w:World} {v:Value} {d:Dn} (h:Ry w v d):Calls Tryz.prog 35 #[v] w (RetC (bareN d) w):=by
 obtain ⟨s,rfl,hr,hbl,he1,he2⟩:=h
 obtain ⟨neg,m,e⟩:=d
 have HR:=h_ hr
 have HBL:=h_ hbl
 clear hr hbl
 go_enter Tryz.func35,Tryz.ntmps35
 go_wp2_with fail
 refine (bare_r ((HR.out.alloc _).alloc _)).mono ?_
 rintro q w1 ⟨u,rfl,hu,hb⟩
 have F:=h_ ((Fr.two w _ _ _ _).call hb)
 clear hb HR
 obtain ⟨a,k,c,rfl⟩:=hu.form
 have hk:=hu.len0
 have HU:=h_ hu
 by_cases h0:m=0
 ·obtain rfl:k=0:=hk.1 h0
  have H0:=h_ h0
  have c0:=F.out.c3 1 rfl
  clear hk hu h0
  go_wp2
  obtain ⟨f1,f2⟩:=F.out.set3 1 rfl ⟨Nl.bool _,Nl.sl _ _ _,Nl.i64 _⟩ (.bool false) (.slice none 0 0) (.int .i64 0)
  generalize (World.setCell (World.setCell (World.setCell _ _ _) _ _) _ _)=W at f1 f2 ⊢
  obtain ⟨⟨g0,g1,g2⟩,-⟩:=f1.c3 1 rfl
  refine bodyPost_ret (v:=.agg #[.bool false,.slice none 0 0,.int .i64 0]) (by simp [results,Tryz.results35,go_sem,g0,g1,g2]) rfl ⟨_,rfl,?_,f1.b⟩
  rw [bareN_zero H0.out]
  exact ⟨_,rfl,Dg.nil (HU.out.kp f2).tab,by decide,by decide,by decide⟩
 ·have hk0:((k:Int) == 0)=false:=by rw [beq_eq_false_iff_ne]; intro h; exact h0 (hk.2 (by omega))
  have H0:=h_ h0
  have hlo:lo m < 255000:=Nat.lt_of_lt_of_le (lo_le_bl h0) HBL.out
  have HL:=fun w=>h_ (fun h:Rd w (.slice a k c) m=>low_r h)
  have HN:=h_ (bareN_pos (d:=⟨neg,m,e⟩) h0)
  have HM:=h_ (show m / 2^lo m≤m from Nat.div_le_self _ _)
  generalize lo m=l at *
  clear hk hu h0
  go_wp2_with fail
  refine ((HL _).out (HU.out.rd (by have:=HBL.out; omega))).mono ?_
  rintro q w2 ⟨rfl,rfl⟩
  go_wp2_with fail
  refine (shr_r (HU.out.rd (by have:=HBL.out; omega)) l (by omega)).mono ?_
  rintro q w2 ⟨u,rfl,hu,hb⟩
  have F:=h_ (F.out.call hb)
  have HU:=h_ hu
  have hnl:=hu.nl
  obtain ⟨a',k',c',rfl⟩:=hu.form
  have q1:IntKind.i64.wrap (cutN e+(l:Int))=cutN e+(l:Int):=by have:=cutN_le e; exact IntWalk.i64_in _ (by omega)
  clear hu hb HL
  go_wp2_with fail
  refine wp_tail 9 (by kernel_rfl) (by kernel_rfl) ?_
  intro w4 h4
  have F4:=h_ (F.out.drewE h4.out)
  have HU4:=h_ (HU.out.kp (Kp.drewE h4.out))
  have c0:=F4.out.c3 1 rfl
  have c1:=F4.out.z3 rfl
  clear HU F h4
  simp only [List.take_succ_cons,List.take_zero,List.drop_succ_cons,List.drop_zero]
  repeat still_step
  still_call (still_of (cut_any e ⟨by omega,by omega⟩ _))
  repeat still_step
  refine wpStill_fin ?_
  go_wp2
  obtain ⟨f1,f2⟩:=F4.out.set3 1 rfl ⟨Nl.bool _,Nl.sl _ _ _,Nl.i64 _⟩ (.bool neg) (.slice a' k' c') (.int .i64 (cutN e+l))
  generalize (World.setCell (World.setCell (World.setCell _ _ _) _ _) _ _)=W at f1 f2 ⊢
  obtain ⟨⟨g0,g1,g2⟩,-⟩:=f1.c3 1 rfl
  refine bodyPost_ret (v:=.agg #[.bool neg,.slice a' k' c',.int .i64 (cutN e+l)]) (by simp [results,Tryz.results35,go_sem,g0,g1,g2]) rfl ⟨_,rfl,?_,f1.b⟩
  rw [HN.out]
  exact ⟨_,rfl,HU4.out.kp f2,Nat.le_trans (bl_mono HM.out) HBL.out,by have:=cutN_le e; simp; omega,by have:=cutN_le e; simp; omega⟩
theorem BareN_bad {d:Dn} (h:(bareN d).e < -1073741824 ∨ 1073741824 < (bareN d).e):BareN d=(⟨false,0,0⟩,2):=by unfold BareN; rw [if_pos h]
theorem BareN_ok {d:Dn} (h:¬ ((bareN d).e < -1073741824 ∨ 1073741824 < (bareN d).e)):BareN d=(bareN d,0):=by unfold BareN; rw [if_neg h]
theorem Cy.nil {w:World} (t:Tab w):Cy w (.agg #[.bool false,.slice none 0 0,.int .i64 0]) ⟨false,0,0⟩:=⟨_,rfl,Dg.nil t,by decide,by decide,by decide⟩
theorem Cy.tab {w:World} {v:Value} {d:Dn} (h:Cy w v d):Tab w:=by obtain ⟨s,_,h1,_⟩:=h; exact h1.tab
theorem Ry.tab {w:World} {v:Value} {d:Dn} (h:Ry w v d):Tab w:=by obtain ⟨s,_,h1,_⟩:=h; exact h1.tab
theorem Ry.form {w:World} {v:Value} {d:Dn} (h:Ry w v d):∃ a k c,v=.agg #[.bool d.neg,.slice a k c,.int .i64 d.e]:=by
 obtain ⟨s,rfl,h1,_⟩:=h
 obtain ⟨a,k,c,rfl⟩:=h1.form
 exact ⟨_,_,_,rfl⟩
theorem Cy.form {w:World} {v:Value} {d:Dn} (h:Cy w v d):∃ a k c,v=.agg #[.bool d.neg,.slice a k c,.int .i64 d.e]:=h.ry.form
theorem Bare_d {w:World} {v:Value} {d:Dn} (h:Ry w v d):Calls Tryz.prog 31 #[v] w (RetCE (BareN d).1 (BareN d).2 w):=by
 have HC:=fun w=>h_ (fun h:Ry w v d=>bare_d h)
 have HR:=h_ h
 obtain ⟨a,k,c,rfl⟩:=h.form
 obtain ⟨neg,m,e⟩:=d
 have HB1:=h_ (fun h=>BareN_bad (d:=⟨neg,m,e⟩) h)
 have HB2:=h_ (fun h=>BareN_ok (d:=⟨neg,m,e⟩) h)
 generalize bareN ⟨neg,m,e⟩=b at *
 generalize BareN ⟨neg,m,e⟩=B at *
 obtain ⟨bn,bm,be⟩:=b
 go_enter Tryz.func31,Tryz.ntmps31
 go_wp2_with fail
 refine ((HC _).out ((HR.out.alloc _).alloc _)).mono ?_
 rintro q w1 ⟨u,rfl,hu,hb⟩
 have F:=h_ ((Fr.two w _ _ _ _).call hb)
 have HU:=h_ hu
 obtain ⟨a',k',c',rfl⟩:=hu.form
 have c0:=F.out.z3 rfl
 have c1:=F.out.c3 1 rfl
 clear hb HC
 by_cases hlo:be < -1073741824
 ·have E:=h_ (HB1.out (Or.inl hlo))
  have t1:decide (be < -1073741824)=true:=decide_eq_true hlo
  clear hlo
  go_wp2
  obtain ⟨f0,p0⟩:=F.out.st 0 rfl (.bool bn) (.slice a' k' c') (.int .i64 be)
  obtain ⟨f1,p1⟩:=f0.st 1 rfl (.bool false) (.slice none 0 0) (.int .i64 0)
  have p:=(p0).trans p1
  have f:=f1
  clear f0 p0 f1 p1
  generalize (World.setCell (World.setCell (World.setCell (World.setCell (World.setCell (World.setCell _ _ _) _ _) _ _) _ _) _ _) _ _)=W at f p ⊢
  obtain ⟨⟨g0a,g0b,g0c⟩,-⟩:=f.c3 1 rfl
  refine bodyPost_ret (v:=.tuple #[.agg #[.bool false,.slice none 0 0,.int .i64 0],.int .i64 2]) (by simp [results,Tryz.results31,go_sem,g0a,g0b,g0c]) rfl ?_
  rw [E.out]
  exact ⟨_,rfl,Cy.nil (HU.out.kp p).tab,f.b⟩
 ·have t1:decide (be < -1073741824)=false:=decide_eq_false hlo
  by_cases hhi:1073741824 < be
  ·have E:=h_ (HB1.out (Or.inr hhi))
   have t2:decide (1073741824 < be)=true:=decide_eq_true hhi
   clear hlo hhi
   go_wp2
   obtain ⟨f0,p0⟩:=F.out.st 0 rfl (.bool bn) (.slice a' k' c') (.int .i64 be)
   obtain ⟨f1,p1⟩:=f0.st 1 rfl (.bool false) (.slice none 0 0) (.int .i64 0)
   have p:=(p0).trans p1
   have f:=f1
   clear f0 p0 f1 p1
   generalize (World.setCell (World.setCell (World.setCell (World.setCell (World.setCell (World.setCell _ _ _) _ _) _ _) _ _) _ _) _ _)=W at f p ⊢
   obtain ⟨⟨g0a,g0b,g0c⟩,-⟩:=f.c3 1 rfl
   refine bodyPost_ret (v:=.tuple #[.agg #[.bool false,.slice none 0 0,.int .i64 0],.int .i64 2]) (by simp [results,Tryz.results31,go_sem,g0a,g0b,g0c]) rfl ?_
   rw [E.out]
   exact ⟨_,rfl,Cy.nil (HU.out.kp p).tab,f.b⟩
  ·have E:=h_ (HB2.out (fun h=>h.elim hlo hhi))
   have t2:decide (1073741824 < be)=false:=decide_eq_false hhi
   clear hlo hhi
   go_wp2
   obtain ⟨f0,p0⟩:=F.out.st 0 rfl (.bool bn) (.slice a' k' c') (.int .i64 be)
   obtain ⟨f1,p1⟩:=f0.st 1 rfl (.bool bn) (.slice a' k' c') (.int .i64 be)
   have p:=(p0).trans p1
   have f:=f1
   clear f0 p0 f1 p1
   generalize (World.setCell (World.setCell (World.setCell (World.setCell (World.setCell (World.setCell _ _ _) _ _) _ _) _ _) _ _) _ _)=W at f p ⊢
   obtain ⟨⟨g0a,g0b,g0c⟩,-⟩:=f.c3 1 rfl
   refine bodyPost_ret (v:=.tuple #[.agg #[.bool bn,.slice a' k' c',.int .i64 be],.int .i64 0]) (by simp [results,Tryz.results31,go_sem,g0a,g0b,g0c]) rfl ?_
   rw [E.out]
   exact ⟨_,rfl,HU.out.kp p,f.b⟩
theorem Make_d {w:World} {s:Value} {neg:Bool} {m:Nat} {e:Int} (h:Rd w s m) (hbl:bl m≤255000) (he:-4611686018427387904≤e∧e≤4611686018427387904) :
  Calls Tryz.prog 30 #[.bool neg,s,.int .i64 e] w (RetCE (BareN ⟨neg,m,e⟩).1 (BareN ⟨neg,m,e⟩).2 w):=by
 have HC:=fun w=>h_ (fun h:Ry w (.agg #[.bool neg,s,.int .i64 e]) ⟨neg,m,e⟩=>Bare_d h)
 have HR:Hid (Ry w (.agg #[.bool neg,s,.int .i64 e]) ⟨neg,m,e⟩):=⟨s,rfl,h,hbl,he⟩
 generalize BareN ⟨neg,m,e⟩=B at *
 obtain ⟨⟨bn,bm,be⟩,r⟩:=B
 obtain ⟨a,k,c,rfl⟩:=h.form
 clear h hbl he
 go_enter Tryz.func30,Tryz.ntmps30
 go_wp2_with fail
 refine ((HC _).out (HR.out.alloc _)).mono ?_
 rintro q w1 ⟨u,rfl,hu,hb⟩
 have F:=h_ ((Fr.one w _ _).call hb)
 have HU:=h_ hu
 obtain ⟨a',k',c',rfl⟩:=hu.form
 have c0:=F.out.z3 rfl
 clear hb HC
 go_wp2
 obtain ⟨f0,p0⟩:=F.out.st 0 rfl (.bool bn) (.slice a' k' c') (.int .i64 be)
 have p:=p0
 have f:=f0
 clear f0 p0
 generalize (World.setCell (World.setCell (World.setCell _ _ _) _ _) _ _)=W at f p ⊢
 obtain ⟨⟨g0a,g0b,g0c⟩,-⟩:=f.z3 rfl
 refine bodyPost_ret (v:=.tuple #[.agg #[.bool bn,.slice a' k' c',.int .i64 be],.int .i64 r]) (by simp [results,Tryz.results30,go_sem,g0a,g0b,g0c]) rfl ?_
 exact ⟨_,rfl,HU.out.kp p,f.b⟩
def ofN (n:Int):Dn:=bareN ⟨decide (n < 0),n.natAbs,0⟩
theorem raw_rd {w:World} {v:Value} {n:Nat} (h:Raw w v [n]):Rd w v n:=⟨[n],h,by simp [ofd],by simp⟩
theorem Of_d {w:World} (t:Tab w) (n:Int) (hn:-9223372036854775808≤n∧n < 9223372036854775808):Calls Tryz.prog 18 #[.int .i64 n] w (RetC (ofN n) w):=by
 obtain ⟨m,hm⟩:∃ m,m=n.natAbs:=⟨_,rfl⟩
 obtain ⟨g,hg⟩:∃ g,g=decide (n < 0):=⟨_,rfl⟩
 have HR:Hid (∀ w B,Tab w→B=w.heap.size→Ry (w.alloc (.cells #[.int .u64 (m:Int)] 22)) (.agg #[.bool g,.slice (some ⟨B,0,none⟩) 1 1,.int .i64 0]) ⟨g,m,0⟩):=by
  rintro w B t rfl
  have hm64:m < 18446744073709551616:=by omega
  exact ⟨_,rfl,raw_rd (raw_one t hm64),Nat.le_trans (bl64 hm64) (by decide),by simp,by simp⟩
 have HT:=h_ t
 have HC:=fun w v=>h_ (fun h:Ry w v ⟨g,m,0⟩=>bare_d h)
 have HO:ofN n=bareN ⟨g,m,0⟩:=by rw [hg,hm]; rfl
 rw [HO]
 generalize bareN ⟨g,m,0⟩=b at *
 obtain ⟨bn,bm,be⟩:=b
 clear t HO
 by_cases h0:n < 0
 ·have t1:decide (n < 0)=true:=decide_eq_true h0
  have hw:IntKind.u64.wrap (-(IntKind.u64.wrap n))=(m:Int):=by
   rw [IntKind.wrap_u64,IntKind.wrap_u64]; omega
  rw [t1] at hg
  subst hg
  clear hm h0
  go_enter Tryz.func18,Tryz.ntmps18
  go_wp2_with fail
  refine ((HC _ _).out (HR.out _ _ (HT.out.alloc _) (by simp))).mono ?_
  rintro q w1 ⟨u,rfl,hu,hb⟩
  have F:=h_ ((Fr.two w _ _ _ _).call hb)
  have HU:=h_ hu
  obtain ⟨a',k',c',rfl⟩:=hu.form
  have c0:=F.out.z3 rfl
  clear hb HC HR
  go_wp2
  obtain ⟨f0,p0⟩:=F.out.st 0 rfl (.bool bn) (.slice a' k' c') (.int .i64 be)
  have p:=p0
  have f:=f0
  clear f0 p0
  generalize (World.setCell (World.setCell (World.setCell _ _ _) _ _) _ _)=W at f p ⊢
  obtain ⟨⟨g0a,g0b,g0c⟩,-⟩:=f.z3 rfl
  refine bodyPost_ret (v:=.agg #[.bool bn,.slice a' k' c',.int .i64 be]) (by simp [results,Tryz.results18,go_sem,g0a,g0b,g0c]) rfl ?_
  exact ⟨_,rfl,HU.out.kp p,f.b⟩
 ·have t1:decide (n < 0)=false:=decide_eq_false h0
  have hw:IntKind.u64.wrap n=(m:Int):=by
   rw [IntKind.wrap_u64]; omega
  rw [t1] at hg
  subst hg
  clear hm h0
  go_enter Tryz.func18,Tryz.ntmps18
  go_wp2_with fail
  refine ((HC _ _).out (HR.out _ _ (HT.out.alloc _) (by simp))).mono ?_
  rintro q w1 ⟨u,rfl,hu,hb⟩
  have F:=h_ ((Fr.two w _ _ _ _).call hb)
  have HU:=h_ hu
  obtain ⟨a',k',c',rfl⟩:=hu.form
  have c0:=F.out.z3 rfl
  clear hb HC HR
  go_wp2
  obtain ⟨f0,p0⟩:=F.out.st 0 rfl (.bool bn) (.slice a' k' c') (.int .i64 be)
  have p:=p0
  have f:=f0
  clear f0 p0
  generalize (World.setCell (World.setCell (World.setCell _ _ _) _ _) _ _)=W at f p ⊢
  obtain ⟨⟨g0a,g0b,g0c⟩,-⟩:=f.z3 rfl
  refine bodyPost_ret (v:=.agg #[.bool bn,.slice a' k' c',.int .i64 be]) (by simp [results,Tryz.results18,go_sem,g0a,g0b,g0c]) rfl ?_
  exact ⟨_,rfl,HU.out.kp p,f.b⟩
def topN (d:Dn):Int:=if d.m=0 then 0 else (bl (bareN d).m:Int) - 1+(bareN d).e
theorem bareN_m0 {d:Dn}:(bareN d).m=0 ↔ d.m=0:=by
 by_cases h:d.m=0
 ·rw [bareN_zero h]; simp [h]
 ·rw [bareN_pos h]
  obtain ⟨m,hm⟩:=lo_spec h
  constructor
  ·intro h0
   have:d.m / 2^lo d.m=2 * m+1:=by
    conv=>lhs; rw [hm]
    rw [lo_eq rfl,Nat.mul_div_cancel_left _ (Nat.two_pow_pos _)]
   simp [this] at h0
  ·intro h0; exact absurd h0 h
theorem Top_d {w:World} {v:Value} {d:Dn} (h:Ry w v d):Calls Tryz.prog 83 #[v] w fun e w'=>e=.returned (.tuple #[.int .i64 (topN d),.bool (decide (d.m ≠ 0))])∧Below w.heap.size w w':=by
 have HC:=fun w=>h_ (fun h:Ry w v d=>bare_d h)
 have HR:=h_ h
 have HM:=h_ (bareN_m0 (d:=d))
 have HT:Hid (topN d=if (bareN d).m=0 then 0 else (bl (bareN d).m:Int) - 1+(bareN d).e):=by unfold topN Hid; simp only [bareN_m0]
 have HD:Hid (decide (d.m ≠ 0)=decide ((bareN d).m ≠ 0)):=by simp only [Hid,ne_eq,bareN_m0]
 have HE:Hid ((bareN d).m ≠ 0→-4000000000≤(bareN d).e∧(bareN d).e≤4000000000):=by
  intro h0
  have h1:=fun h=>h0 (bareN_m0.2 h)
  obtain ⟨_,_,_,h2,_⟩:=h
  have:=lo_le_bl h1
  have:=cutN_le d.e
  rw [bareN_pos h1]
  simp only; omega
 obtain ⟨a,k,c,rfl⟩:=h.form
 rw [HT.out,HD.out]
 generalize bareN d=b at *
 obtain ⟨bn,bm,be⟩:=b
 clear HM HT HD
 go_enter Tryz.func83,Tryz.ntmps83
 go_wp2_with fail
 refine ((HC _).out (HR.out.alloc _)).mono ?_
 rintro q w1 ⟨u,rfl,hu,hb⟩
 have F:=h_ ((Fr.one w _ _).call hb)
 have HU:=h_ hu
 obtain ⟨s,he,hs,hbl,-⟩:=hu
 simp only at hs hbl
 obtain ⟨a',k',c',rfl⟩:=hs.form
 subst he
 have hk:=hs.len0
 have HS:=h_ hs
 have c0:=F.out.z3 rfl
 have F1:=h_ (F.out.st 0 rfl (.bool bn) (.slice a' k' c') (.int .i64 be))
 clear hb HC hs
 by_cases h0:bm=0
 ·obtain rfl:k'=0:=hk.1 h0
  subst h0
  go_wp2
  go_ret2
  exact ⟨rfl,F1.out.1.b⟩
 ·have hk0:((k':Int) == 0)=false:=by rw [beq_eq_false_iff_ne]; intro h; exact h0 (hk.2 (by omega))
  have hbe:=HE.out h0
  have H0:=h_ h0
  clear hk h0
  go_wp2_with fail
  obtain ⟨f,p⟩:=F1.out
  generalize (World.setCell (World.setCell (World.setCell _ _ _) _ _) _ _)=W at f p ⊢
  have F:=h_ f
  have HS:=h_ (HS.out.kp p)
  obtain ⟨⟨-,x1,x2⟩,-⟩:=f.z3 rfl
  have q1:IntKind.i64.wrap ((bl bm:Int) - 1)=(bl bm:Int) - 1:=IntWalk.i64_in _ (by omega)
  have q2:IntKind.i64.wrap ((bl bm:Int) - 1+be)=(bl bm:Int) - 1+be:=IntWalk.i64_in _ (by omega)
  clear f p c0 F1 HU
  go_region_held3 (fun w'=>w'.cell? ⟨w.heap.size,1,none⟩=some (.slice a' k' c')∧w'.cell? ⟨w.heap.size,2,none⟩=some (.int .i64 be)) (first | exact ⟨x1,x2⟩ | exact FC.out) (first | (go_at_call 36; (with_reducible refine (bits_r (HS.out.drew.rd (by omega))).mono ?_); rintro q w3 ⟨rfl,hb⟩; have G:=h_ (F.out.drew.call hb); have FC:=h_ (And.intro (G.out.z3 rfl).1.2.1 (G.out.z3 rfl).1.2.2)))
  go_wp2
  go_ret2
  exact ⟨rfl,G.out.b⟩
def signN (d:Dn):Int:=if d.m=0 then 0 else if d.neg then -1 else 1
theorem Sign_d {w:World} {v:Value} {d:Dn} (h:Ry w v d):Calls Tryz.prog 19 #[v] w fun e w'=>e=.returned (.int .i64 (signN d))∧Below w.heap.size w w':=by
 have HR:=h_ h
 obtain ⟨s,rfl,hs,-⟩:=h
 obtain ⟨a,k,c,rfl⟩:=hs.form
 have HS:=h_ hs
 obtain ⟨neg,m,e⟩:=d
 obtain ⟨S,hS⟩:∃ S,S=signN ⟨neg,m,e⟩:=⟨_,rfl⟩
 rw [← hS]
 have HE:Hid (S=if m=0 then 0 else if neg then -1 else 1):=hS
 clear hS
 have H2:Hid (∀ x:Bool,(((bl m:Nat):Int) == 0)=x→(x=true ↔ m=0)):=by
  rintro x rfl
  rw [beq_iff_eq]
  constructor
  ·intro h; apply Classical.byContradiction; intro h0; have:=bl_pos h0; omega
  ·rintro rfl; rfl
 obtain ⟨x,hx⟩:∃ x,(((bl m:Nat):Int) == 0)=x:=⟨_,rfl⟩
 have H3:=h_ (H2.out x hx)
 clear hs H2
 go_enter Tryz.func19,Tryz.ntmps19
 go_wp2_with fail
 refine (bits_r (HS.out.alloc _)).mono ?_
 rintro q w1 ⟨rfl,hb⟩
 have F:=h_ ((Fr.one w _ _).call hb)
 have c0:=F.out.z3 rfl
 clear hb
 cases x
 ·have hm:m ≠ 0:=fun h=>by have:=H3.out.2 h; cases this
  have HM:Hid (S=if neg then -1 else 1):=HE.out.trans (if_neg hm)
  clear hm H3
  cases neg
  ·have HM:Hid (S=1):=HM.out
   go_wp2
   go_ret
   exact ⟨by rw [HM.out]; rfl,F.out.b⟩
  ·have HM:Hid (S=-1):=HM.out
   go_wp2
   go_ret
   exact ⟨by rw [HM.out]; rfl,F.out.b⟩
 ·have hm:m=0:=H3.out.1 rfl
  have HM:Hid (S=0):=HE.out.trans (if_pos hm)
  clear hm H3
  go_wp2
  go_ret
  exact ⟨by rw [HM.out]; rfl,F.out.b⟩
theorem or_low {x p c:Nat} (hp:p≤64) (hc:c < 2^p):bits .or .u64 (IntKind.u64.wrap ((x:Int) * 2^p)) (c:Int)=((x * 2^p % 18446744073709551616+c:Nat):Int)∧x * 2^p % 18446744073709551616+c < 18446744073709551616:=by
 have hR:(18446744073709551616:Nat)=2^p * 2^(64 - p):=by rw [← Nat.pow_add,show p+(64 - p)=64 by omega]
 have h2:x * 2^p % 18446744073709551616=2^p * (x % 2^(64 - p)):=by rw [hR,Nat.mul_comm x,Nat.mul_mod_mul_left]
 have h3:x * 2^p % 18446744073709551616 < 18446744073709551616:=Nat.mod_lt _ (Nat.zero_lt_succ _)
 have h5:x % 2^(64 - p) < 2^(64 - p):=Nat.mod_lt _ (Nat.two_pow_pos _)
 have h6:2^p * (x % 2^(64 - p))+2^p≤2^p * 2^(64 - p):=by
  rw [← Nat.mul_succ]; exact Nat.mul_le_mul_left _ h5
 have e2:IntKind.u64.wrap ((x:Int) * 2^p)=((x * 2^p % 18446744073709551616:Nat):Int):=by
  rw [IntKind.wrap_u64,Int.natCast_emod,Int.natCast_mul]; simp
 have h7:x * 2^p % 18446744073709551616+c < 18446744073709551616:=by omega
 refine ⟨?_,h7⟩
 rw [e2,u64_or _ _ (Int.natCast_nonneg _) (by omega) (Int.natCast_nonneg _) (by omega),Int.toNat_natCast,Int.toNat_natCast,h2,or_add hc]
theorem wid_col {O C P x c z pw:Nat} (h:O+P * c=z) (h2:x * pw=18446744073709551616 * C+(x * pw % 18446744073709551616)) :
  O+P * (x * pw % 18446744073709551616+c)+P * 18446744073709551616 * C=z+P * (x * pw):=by
 rw [Nat.mul_add,Nat.mul_assoc]
 have:P * (x * pw)=P * (18446744073709551616 * C)+P * (x * pw % 18446744073709551616):=by rw [← Nat.mul_add,← h2]
 omega
structure Wid (w wr:World) (out:Value) (z p:Nat) (L O:List Nat) (k c:Nat):Prop where
 own:wr.ownsRow w.heap.size 22 1 out (z+k) (dvl O)
 digs:Digs O
 b:Below w.heap.size w wr
 sz:w.heap.size≤wr.heap.size
 carry:c < 2^p
 val:ofd O+18446744073709551616^(z+k) * c=18446744073709551616^z * 2^p * ofd (L.take k)
theorem Wid.step {w wr w':World} {out out':Value} {z p:Nat} {L O:List Nat} {k c y:Nat} (h:Wid w wr out z p L O k c) (hp:p≤64) (hL:Digs L) (hy:y=dg L k * 2^p % 18446744073709551616+c)
  (ho:Hid (w'.ownsRow w.heap.size 22 1 out' (z+k+1) (dvl O ++ [.int .u64 (y:Int)]))) (hb:Below w.heap.size w w') (hs:w.heap.size≤w'.heap.size):Wid w w' out' z p L (O ++ [y]) (k+1) (dg L k / 2^(64 - p)):=by
 have hlen:O.length=z+k:=own_len h.own
 have hx:=dg_lt hL k
 have hR:(18446744073709551616:Nat)=2^p * 2^(64 - p):=by rw [← Nat.pow_add,show p+(64 - p)=64 by omega]
 refine ⟨?_,h.digs.snoc (by rw [hy]; exact (or_low (x:=dg L k) hp h.carry).2),hb,hs,?_,?_⟩
 ·have:=ho.out
  rw [dvl_app]; exact this
 ·exact Nat.div_lt_of_lt_mul (by rw [Nat.mul_comm,← hR]; exact hx)
 ·rw [ofd_snoc,hlen,take_dg,hy,← Nat.add_assoc z k 1,Nat.pow_succ]
  have h2:dg L k * 2^p=18446744073709551616 * (dg L k / 2^(64 - p))+dg L k * 2^p % 18446744073709551616:=by
   have h3:dg L k / 2^(64 - p)=dg L k * 2^p / 18446744073709551616:=by
    rw [hR,Nat.mul_comm (dg L k),Nat.mul_div_mul_left _ _ (Nat.two_pow_pos p)]
   rw [h3]; exact (Nat.div_add_mod _ _).symm
  rw [wid_col h.val h2,Nat.mul_add,Nat.pow_add]
  congr 1
  rw [Nat.mul_assoc,Nat.mul_assoc,Nat.mul_comm (dg L k),Nat.mul_left_comm (18446744073709551616^k)]
def widN (m:Nat) (n:Int):Nat:=if n≤0 then m else m * 2^n.toNat
theorem wid_r {w:World} {v:Value} {m:Nat} (h:Dg w v m) (hm:bl m≤255000) (n:Int) (hn:-1000000000≤n∧n≤1000000) :
  Calls Tryz.prog 74 #[v,.int .i64 n] w fun e w'=>∃ u,e=.returned u∧Rd w' u (widN m n)∧Below w.heap.size w w':=by
 obtain ⟨hn1,hn2⟩:=hn
 have HR:=h_ (h.rd (by omega))
 obtain ⟨L,hr,hc⟩:=h
 have hl:L.length≤4000:=by have:=hc.len_bl (B:=3999) (by omega); omega
 have hv:=hc.val
 by_cases h0:n≤0
 ·have t1:decide (n≤0)=true:=decide_eq_true h0
  have HW:Hid (widN m n=m):=if_pos h0
  rw [HW.out]
  clear hr hc hl hv h0
  go_enter Tryz.func74,Tryz.ntmps74
  go_wp2
  go_ret
  exact ⟨_,rfl,HR.out,Below.refl _ _⟩
 ·have t1:decide (n≤0)=false:=decide_eq_false h0
  obtain ⟨k,rfl⟩:∃ k:Nat,n=(k:Int):=⟨n.toNat,by omega⟩
  have t2:decide (k=0)=false:=decide_eq_false (by omega)
  have HW:Hid (widN m k=m * 2^k):=by unfold Hid widN; rw [if_neg h0]; rfl
  rw [HW.out]
  obtain ⟨z,hz⟩:∃ z,z=k / 64:=⟨_,rfl⟩
  obtain ⟨p,hp⟩:∃ p,p=k % 64:=⟨_,rfl⟩
  have d1:(k:Int) / 64=(z:Int):=by omega
  have d2:(k:Int) % 64=(p:Int):=by omega
  have d3:(k:Int).tdiv 64=(z:Int):=by rw [Int.tdiv_eq_ediv_of_nonneg (by omega)]; exact d1
  have d4:(k:Int).tmod 64=(p:Int):=by rw [Int.tmod_eq_emod_of_nonneg (by omega)]; exact d2
  have hz1:z≤15625:=by omega
  have hp1:p≤63:=by omega
  have hkk:k=64 * z+p:=by omega
  obtain ⟨r,hr64⟩:∃ r,r=64 - p:=⟨_,rfl⟩
  have hwr:IntKind.i64.wrap (64 - (p:Int))=(r:Int):=by rw [IntWalk.i64_in _ (by omega)]; omega
  have hr64':r≤64:=by omega
  have HEND:Hid (∀ O c,ofd O+18446744073709551616^(z+L.length) * c=18446744073709551616^z * 2^p * ofd (L.take L.length)→ofd (O ++ [c])=m * 2^k ∨ O.length ≠ z+L.length):=by
   intro O c hs
   by_cases hol:O.length=z+L.length
   ·left
    rw [ofd_snoc,hol,hs,take_all (Nat.le_refl _),hv,hkk,Nat.pow_add,pow64,Nat.mul_comm]
   ·exact Or.inr hol
  have HP:=h_ (And.intro hr64 hkk)
  obtain ⟨a,c,rfl,hcell⟩:=hr.sl.form
  have HRW:=h_ hr
  have HC:=h_ hcell
  clear hr hc hv h0 hz hp HW hr64 hkk hcell HR
  go_enter Tryz.func74,Tryz.ntmps74
  go_wp2_with (refine wpList_mk (w0:=w) rfl (.tmp 14) 40 rfl w.heap.size 22 (.int .u64 0) 8 Tryz.underlying40 Tryz.info22 rfl (by decide) _ _ z rfl (by first | rfl | assumption) (by omega) (Below.refl _ _) (Nat.le_refl _) ?_)
  intro w1 ho1 hb1 hB1
  have hS:Hid (Wid w w1 (.slice (some ⟨w.heap.size,0,none⟩) z z) z p L (List.replicate z 0) 0 0):=by
   refine ⟨by have:=ho1.out; rwa [dvl_zeros] at this,digs_zeros z,hb1,hB1,Nat.two_pow_pos _,?_⟩
   rw [ofd_zeros]; simp [ofd]
  clear ho1 hb1 hB1
  go_wp2
  go_loopw [5,7,20] (fun out cc i wr=>∃ (j c:Nat) (O:List Nat),i=.int .i64 j∧cc=.int .u64 (c:Int)∧j≤L.length∧Hid (Wid w wr out z p L O j c)) (fun _ _ i _=>L.length - (intOf i).toNat)
  case atStart=>exact ⟨0,0,_,rfl,rfl,by omega,hS⟩
  case round =>
   obtain ⟨j,cc,O,rfl,rfl,hj,hh⟩:=hrel
   by_cases hlt:j < L.length
   ·obtain ⟨b,off,rfl,hc2⟩:=HC.out (by omega)
    have hx:wr.cell? ⟨b,off+j,none⟩=some (.int .u64 (dg L j:Nat)):=cell_below hh.out.b (Nat.le_refl _) (hc2 j _ (dg_get hlt))
    obtain ⟨x,hxx⟩:∃ x,x=dg L j:=⟨_,rfl⟩
    obtain ⟨e1,e2⟩:=or_low (x:=x) (Nat.le_of_lt (show p < 64 by omega)) hh.out.carry
    obtain ⟨y,hy⟩:∃ y,y=x * 2^p % 18446744073709551616+cc:=⟨_,rfl⟩
    rw [← hy] at e1 e2
    obtain ⟨c',hc'⟩:∃ c',c'=x / 2^r:=⟨_,rfl⟩
    have e3:(x:Int) / 2^r=(c':Int):=by rw [hc',Int.natCast_ediv,Int.natCast_pow]; rfl
    rw [← hxx] at hx
    have HQ:=h_ (And.intro hxx (And.intro hy hc'))
    clear hxx hy hc' hc2 e2
    have ho:=hh.out.own
    have hob:=hh.out.b
    have hos:=hh.out.sz
    go_wp2_with (at_builtin; refine wpList_app1 rfl (.tmp 24) (.tmp 30) 40 rfl w.heap.size 22 (.int .u64 0) 8 Tryz.underlying40 Tryz.info22 rfl (by decide) _ _ _ rfl _ 1 rfl rfl ho hob hos (by omega) ?_)
    intro v1 w2 ho2 hb2 hs2
    have HH:=h_ (hh.out.step (Nat.le_of_lt (show p < 64 by omega)) HRW.out.digs (by rw [HQ.out.2.1,HQ.out.1]) ho2 hb2 hs2)
    rw [← HP.out.1,← HQ.out.1,← HQ.out.2.2] at HH
    clear ho2 hb2 hs2 ho hob hos
    go_wp2
    go_roundw
    case rel=>exact ⟨j+1,c',_,by go_num,rfl,by omega,HH⟩
    case measure=>simp [intOf]; omega
   ·obtain rfl:j=L.length:=by omega
    have ho:=hh.out.own
    have hob:=hh.out.b
    have hos:=hh.out.sz
    go_wp2_with (at_builtin; refine wpList_app1 rfl (.tmp 37) (.tmp 39) 40 rfl w.heap.size 22 (.int .u64 0) 8 Tryz.underlying40 Tryz.info22 rfl (by decide) _ _ _ rfl _ 1 rfl rfl ho hob hos (by omega) ?_)
    intro v1 w2 ho2 hb2 hs2
    have HF:Hid (Rd w2 v1 (m * 2^k)∧Below w.heap.size w w2):=by
     have hlen:O.length=z+L.length:=own_len hh.out.own
     have hcc:cc < 18446744073709551616:=Nat.lt_of_lt_of_le hh.out.carry (by have:=Nat.pow_le_pow_right (n:=2) (by omega) (show p≤64 by omega); omega)
     refine ⟨⟨O ++ [cc],?_,?_,?_⟩,hb2⟩
     ·refine Raw.of_own (B:=w.heap.size) (e:=22) (n:=z+L.length+1) ?_ (HRW.out.tab.below hb2) (hh.out.digs.snoc hcc)
      rw [dvl_app]; exact ho2.out
     ·rcases HEND.out O cc hh.out.val with h | h
      ·exact h
      ·exact absurd hlen h
     ·simp [hlen]; omega
    clear ho2 hb2 hs2 ho hob hos
    go_wp2
    go_ret
    exact ⟨_,rfl,HF.out.1,HF.out.2⟩
theorem Ry.drew {w:World} {v:Value} {d:Dn} (h:Ry w v d):Ry w.drew v d:=h.drewN 1
theorem Cy.drew {w:World} {v:Value} {d:Dn} (h:Cy w v d):Cy w.drew v d:=h.drewN 1
theorem Fr.st2 {w0 w:World} {t t':TypeId} {x x':Bool} {ya ya':Option Addr} {yn yc yn' yc':Nat} {z z':Int} (h:Fr w0 w [(t,#[.bool x,.slice ya yn yc,.int .i64 z]),(t',#[.bool x',.slice ya' yn' yc',.int .i64 z'])]) (a b c a' b' c':Value) :
  Fr w0 ((((((w.setCell ⟨w0.heap.size,0,none⟩ a).setCell ⟨w0.heap.size,1,none⟩ b).setCell ⟨w0.heap.size,2,none⟩ c).setCell ⟨w0.heap.size+1,0,none⟩ a').setCell ⟨w0.heap.size+1,1,none⟩ b').setCell ⟨w0.heap.size+1,2,none⟩ c') [(t,#[a,b,c]),(t',#[a',b',c'])] ∧
  Kp w ((((((w.setCell ⟨w0.heap.size,0,none⟩ a).setCell ⟨w0.heap.size,1,none⟩ b).setCell ⟨w0.heap.size,2,none⟩ c).setCell ⟨w0.heap.size+1,0,none⟩ a').setCell ⟨w0.heap.size+1,1,none⟩ b').setCell ⟨w0.heap.size+1,2,none⟩ c'):=by
 obtain ⟨f1,k1⟩:=h.st 0 rfl a b c
 obtain ⟨f2,k2⟩:=f1.st 1 rfl a' b' c'
 exact ⟨f2,k1.trans k2⟩
def SzI (w wx:World) (A B:Dn):Prop:=∃ a k c a' k' c',Fr w wx [(42,#[.bool A.neg,.slice a k c,.int .i64 A.e]),(42,#[.bool B.neg,.slice a' k' c',.int .i64 B.e])]∧Dg wx (.slice a k c) A.m∧Dg wx (.slice a' k' c') B.m
theorem Cy.dg {w:World} {n:Bool} {a:Option Addr} {k c:Nat} {e:Int} {d:Dn} (h:Cy w (.agg #[.bool n,.slice a k c,.int .i64 e]) d):Dg w (.slice a k c) d.m:=by
 obtain ⟨s,he,hs,_⟩:=h
 simp at he
 obtain ⟨_,rfl,_⟩:=he
 exact hs
theorem SzI.mk {w v:World} {A B:Dn} {x x':Bool} {ya ya':Option Addr} {yn yc yn' yc':Nat} {z z':Int} (h:Fr w v [(42,#[.bool x,.slice ya yn yc,.int .i64 z]),(42,#[.bool x',.slice ya' yn' yc',.int .i64 z'])])
  {a a':Option Addr} {k c k' c':Nat} (g1:Cy v (.agg #[.bool A.neg,.slice a k c,.int .i64 A.e]) A) (g2:Cy v (.agg #[.bool B.neg,.slice a' k' c',.int .i64 B.e]) B) :
  Hid (SzI w ((((((v.setCell ⟨w.heap.size,0,none⟩ (.bool A.neg)).setCell ⟨w.heap.size,1,none⟩ (.slice a k c)).setCell ⟨w.heap.size,2,none⟩ (.int .i64 A.e)).setCell ⟨w.heap.size+1,0,none⟩ (.bool B.neg)).setCell ⟨w.heap.size+1,1,none⟩ (.slice a' k' c')).setCell ⟨w.heap.size+1,2,none⟩ (.int .i64 B.e)) A B):=by
 obtain ⟨f,p⟩:=h.st2 (.bool A.neg) (.slice a k c) (.int .i64 A.e) (.bool B.neg) (.slice a' k' c') (.int .i64 B.e)
 exact ⟨_,_,_,_,_,_,f,g1.dg.kp p,g2.dg.kp p⟩
def sizeB (A B:Dn):Int :=
 if (bl A.m:Int)+A.e=(bl B.m:Int)+B.e then cmpN (widN A.m (-((bl A.m:Int) - bl B.m))) (widN B.m ((bl A.m:Int) - bl B.m)) else cmpI ((bl A.m:Int)+A.e) ((bl B.m:Int)+B.e)
def sizeN (a b:Dn):Int:=sizeB (bareN a) (bareN b)
theorem bareN_ok {d:Dn} (h:bl d.m≤255000):bl (bareN d).m≤255000∧-4000000000≤(bareN d).e∧(bareN d).e≤4000000000:=by
 by_cases h0:d.m=0
 ·rw [bareN_zero h0]; simp [bl]
 ·have:=lo_le_bl h0
  have:=cutN_le d.e
  have:d.m / 2^lo d.m≤d.m:=Nat.div_le_self _ _
  have:=bl_mono this
  rw [bareN_pos h0]
  simp only; omega
theorem Ry.bl {w:World} {v:Value} {d:Dn} (h:Ry w v d):bl d.m≤255000:=by obtain ⟨_,_,_,h,_⟩:=h; exact h
theorem size_d {w:World} {u v:Value} {a b:Dn} (ha:Ry w u a) (hb:Ry w v b):Calls Tryz.prog 34 #[u,v] w fun e w'=>e=.returned (.int .i64 (sizeN a b))∧Below w.heap.size w w':=by
 have CA:=h_ (fun w (h:Ry w u a)=>bare_d h)
 have CB:=h_ (fun w (h:Ry w v b)=>bare_d h)
 have HA:=h_ ha
 have HB:=h_ hb
 obtain ⟨a1,k1,c1,rfl⟩:=ha.form
 obtain ⟨a2,k2,c2,rfl⟩:=hb.form
 have BA:=h_ (bareN_ok ha.bl)
 have BB:=h_ (bareN_ok hb.bl)
 have HN:sizeN a b=sizeB (bareN a) (bareN b):=rfl
 rw [HN]
 generalize bareN a=A at *
 generalize bareN b=B at *
 clear ha hb HN
 have HSZ:Hid (sizeB A B=if (bl A.m:Int)+A.e=(bl B.m:Int)+B.e then cmpN (widN A.m (-((bl A.m:Int) - bl B.m))) (widN B.m ((bl A.m:Int) - bl B.m)) else cmpI ((bl A.m:Int)+A.e) ((bl B.m:Int)+B.e)):=rfl
 obtain ⟨S,hS⟩:∃ S,S=sizeB A B:=⟨_,rfl⟩
 rw [← hS] at HSZ ⊢
 clear hS
 obtain ⟨an,am,ae⟩:=A
 obtain ⟨bn,bm,be⟩:=B
 go_enter Tryz.func34,Tryz.ntmps34
 have F0:=h_ (Fr.two w 42 #[.bool a.neg,.slice a1 k1 c1,.int .i64 a.e] 42 #[.bool b.neg,.slice a2 k2 c2,.int .i64 b.e])
 have HA:=h_ ((HA.out.alloc (.cells #[.bool a.neg,.slice a1 k1 c1,.int .i64 a.e] 42)).alloc (.cells #[.bool b.neg,.slice a2 k2 c2,.int .i64 b.e] 42))
 have HB:=h_ ((HB.out.alloc (.cells #[.bool a.neg,.slice a1 k1 c1,.int .i64 a.e] 42)).alloc (.cells #[.bool b.neg,.slice a2 k2 c2,.int .i64 b.e] 42))
 go_upto_region 1 with (fail)
 generalize (World.alloc (World.alloc _ _) _)=w1 at F0 HA HB ⊢
 go_cut [] from 8 to 11 (fun wx=>Hid (SzI w wx ⟨an,am,ae⟩ ⟨bn,bm,be⟩))
 case first =>
  have D0:=h_ F0.out.drew
  have x0:=F0.out.z3 rfl
  have x1:=F0.out.c3 1 rfl
  have y0:=D0.out.z3 rfl
  have y1:=D0.out.c3 1 rfl
  go_region_with (first | (have RR:=D1.out; go_at_call 35; (with_reducible refine (CB.out _ (Ry.below (Ry.drew HB.out) S1.out)).mono ?_); rintro qq v2 ⟨u2,rfl,hu2,hb⟩; obtain ⟨p2,l2,m2,rfl⟩:=hu2.form; have D2:=h_ (RR.call hb); have G1:=h_ (Cy.below U1.out hb); have G2:=h_ hu2; have z0:=D2.out.z3 rfl; have z1:=D2.out.c3 1 rfl; clear hb RR hu2) | (have RR:=D0.out; go_at_call 35; (with_reducible refine (CA.out _ (Ry.drew HA.out)).mono ?_); rintro qq v1 ⟨u1,rfl,hu1,hb⟩; obtain ⟨p1,l1,m1,rfl⟩:=hu1.form; have D1:=h_ (RR.call hb); have U1:=h_ hu1; have S1:=h_ hb; have y2:=D1.out.z3 rfl; have y3:=D1.out.c3 1 rfl; clear hb RR hu1))
  all_goals go_wp2_with fail
  all_goals go_meet
  all_goals exact SzI.mk (A:=⟨an,am,ae⟩) (B:=⟨bn,bm,be⟩) D2.out G1.out G2.out
 case rest =>
  obtain ⟨p1,l1,m1,p2,l2,m2,hF,hA,hB⟩:=hcut.out
  have bA:=BA.out
  have bB:=BB.out
  have F0:=h_ hF
  have RA0:=h_ (hA.rd (by omega))
  have RB0:=h_ (hB.rd (by omega))
  have DA0:=h_ hA
  have DB0:=h_ hB
  simp only at bA bB F0 RA0 RB0 DA0 DB0 HSZ
  have WA:=h_ (fun w (h:Dg w (.slice p1 l1 m1) am) n hn=>wid_r h bA.1 n hn)
  have WB:=h_ (fun w (h:Dg w (.slice p2 l2 m2) bm) n hn=>wid_r h bB.1 n hn)
  have BTA:=h_ (fun w (h:Rd w (.slice p1 l1 m1) am)=>bits_r h)
  have BTB:=h_ (fun w (h:Rd w (.slice p2 l2 m2) bm)=>bits_r h)
  have CC:=h_ (fun w u v m n (h:Rd w u m) (k:Rd w v n)=>cmp_r h k)
  generalize hxa:bl am=xa at *
  generalize hxb:bl bm=xb at *
  have x0:=hF.z3 rfl
  have x1:=hF.c3 1 rfl
  have q1:IntKind.i64.wrap ((xa:Int)+ae)=(xa:Int)+ae:=IntWalk.i64_in _ (by omega)
  have q2:IntKind.i64.wrap ((xb:Int)+be)=(xb:Int)+be:=IntWalk.i64_in _ (by omega)
  obtain ⟨n,hn⟩:∃ n,n=(xa:Int) - xb:=⟨_,rfl⟩
  obtain ⟨nn,hnn⟩:∃ nn,nn=-n:=⟨_,rfl⟩
  have q3:IntKind.i64.wrap ((xa:Int) - xb)=n:=by rw [IntWalk.i64_in _ (by omega)]; exact hn.symm
  have q4:IntKind.i64.wrap (-n)=nn:=by rw [IntWalk.i64_in _ (by omega)]; omega
  have WA:=h_ (fun w h=>WA.out w h nn (by omega))
  have WB:=h_ (fun w h=>WB.out w h n (by omega))
  rw [← hn,← hnn] at HSZ
  clear hF hA hB hcut hxa hxb BA BB CA CB HA HB hn hnn
  go_upto_region 2 with (fail)
  go_region_held3 (fun w'=>(w'.cell? ⟨w.heap.size,1,none⟩=some (.slice p1 l1 m1)∧w'.cell? ⟨w.heap.size,2,none⟩=some (.int .i64 ae))∧w'.cell? ⟨w.heap.size+1,1,none⟩=some (.slice p2 l2 m2)∧w'.cell? ⟨w.heap.size+1,2,none⟩=some (.int .i64 be)) (first | exact ⟨x0.1.2,x1.1.2⟩ | exact FC.out) (first | (go_at_call 36; (with_reducible refine (BTB.out _ RB1.out).mono ?_); rintro q ww2 ⟨rfl,hb⟩; have F2:=h_ (F1.out.call hb); have RA2:=h_ (RA1.out.below hb); have RB2:=h_ (RB1.out.below hb); have DA2:=h_ (DA1.out.below hb); have DB2:=h_ (DB1.out.below hb); have FC:=h_ (And.intro (F2.out.z3 rfl).1.2 (F2.out.c3 1 rfl).1.2); clear hb) | (go_at_call 36; (with_reducible refine (BTA.out _ (RA0.out.drew)).mono ?_); rintro q ww1 ⟨rfl,hb⟩; have F1:=h_ ((F0.out.drew).call hb); have RA1:=h_ ((RA0.out.drew).below hb); have RB1:=h_ ((RB0.out.drew).below hb); have DA1:=h_ ((DA0.out.drew).below hb); have DB1:=h_ ((DB0.out.drew).below hb); have FC:=h_ (And.intro (F1.out.z3 rfl).1.2 (F1.out.c3 1 rfl).1.2); clear hb))
  clear F0 RA0 RB0 DA0 DB0 F1 RA1 RB1 DA1 DB1
  have x0:=F2.out.z3 rfl
  have x1:=F2.out.c3 1 rfl
  by_cases hx:(xa:Int)+ae=(xb:Int)+be
  ·have HE:Hid (S=cmpN (widN am nn) (widN bm n)):=HSZ.out.trans (if_pos hx)
   have t1:((xa:Int)+ae == (xb:Int)+be)=true:=beq_iff_eq.2 hx
   clear hx HSZ
   go_upto_region 5 with (fail)
   go_region_held3 (fun w'=>(w'.cell? ⟨w.heap.size,1,none⟩=some (.slice p1 l1 m1)∧w'.cell? ⟨w.heap.size,2,none⟩=some (.int .i64 ae))∧w'.cell? ⟨w.heap.size+1,1,none⟩=some (.slice p2 l2 m2)∧w'.cell? ⟨w.heap.size+1,2,none⟩=some (.int .i64 be)) (first | exact ⟨x0.1.2,x1.1.2⟩ | exact FC.out) (first | (go_at_call 36; (with_reducible refine (BTB.out _ RB3.out).mono ?_); rintro q ww4 ⟨rfl,hb⟩; have F4:=h_ (F3.out.call hb); have RA4:=h_ (RA3.out.below hb); have RB4:=h_ (RB3.out.below hb); have DA4:=h_ (DA3.out.below hb); have DB4:=h_ (DB3.out.below hb); have FC:=h_ (And.intro (F4.out.z3 rfl).1.2 (F4.out.c3 1 rfl).1.2); clear hb) | (go_at_call 36; (with_reducible refine (BTA.out _ (RA2.out.drew)).mono ?_); rintro q ww3 ⟨rfl,hb⟩; have F3:=h_ ((F2.out.drew).call hb); have RA3:=h_ ((RA2.out.drew).below hb); have RB3:=h_ ((RB2.out.drew).below hb); have DA3:=h_ ((DA2.out.drew).below hb); have DB3:=h_ ((DB2.out.drew).below hb); have FC:=h_ (And.intro (F3.out.z3 rfl).1.2 (F3.out.c3 1 rfl).1.2); clear hb))
   clear F2 RA2 RB2 DA2 DB2 F3 RA3 RB3 DA3 DB3
   have x0:=F4.out.z3 rfl
   have x1:=F4.out.c3 1 rfl
   go_wp2_with fail
   go_region_held3 (fun w'=>(w'.cell? ⟨w.heap.size,1,none⟩=some (.slice p1 l1 m1)∧w'.cell? ⟨w.heap.size,2,none⟩=some (.int .i64 ae))∧w'.cell? ⟨w.heap.size+1,1,none⟩=some (.slice p2 l2 m2)∧w'.cell? ⟨w.heap.size+1,2,none⟩=some (.int .i64 be)) (first | exact ⟨x0.1.2,x1.1.2⟩ | exact FC.out) (first | (go_at_call 73; (with_reducible refine (CC.out _ _ _ _ _ UA6.out UB6.out).mono ?_); rintro q ww7 ⟨rfl,hb⟩; have F7:=h_ (F6.out.call hb); have RA7:=h_ (RA6.out.below hb); have RB7:=h_ (RB6.out.below hb); have DA7:=h_ (DA6.out.below hb); have DB7:=h_ (DB6.out.below hb); have UA7:=h_ (UA6.out.below hb); have UB7:=h_ (UB6.out.below hb); have FC:=h_ (And.intro (F7.out.z3 rfl).1.2 (F7.out.c3 1 rfl).1.2); clear hb) | (go_at_call 74; (with_reducible refine (WB.out _ DB5.out).mono ?_); rintro q ww6 ⟨u2,rfl,hu,hb⟩; have F6:=h_ (F5.out.call hb); have RA6:=h_ (RA5.out.below hb); have RB6:=h_ (RB5.out.below hb); have DA6:=h_ (DA5.out.below hb); have DB6:=h_ (DB5.out.below hb); have UA6:=h_ (UA5.out.below hb); have UB6:=h_ (hu); have FC:=h_ (And.intro (F6.out.z3 rfl).1.2 (F6.out.c3 1 rfl).1.2); clear hb) | (go_at_call 74; (with_reducible refine (WA.out _ (DA4.out.drew)).mono ?_); rintro q ww5 ⟨u,rfl,hu,hb⟩; have F5:=h_ ((F4.out.drew).call hb); have RA5:=h_ ((RA4.out.drew).below hb); have RB5:=h_ ((RB4.out.drew).below hb); have DA5:=h_ ((DA4.out.drew).below hb); have DB5:=h_ ((DB4.out.drew).below hb); have UA5:=h_ (hu); have FC:=h_ (And.intro (F5.out.z3 rfl).1.2 (F5.out.c3 1 rfl).1.2); clear hb))
   go_wp2
   go_ret
   exact ⟨by rw [HE.out]; rfl,F7.out.b⟩
  ·have HE:Hid (S=cmpI ((xa:Int)+ae) ((xb:Int)+be)):=HSZ.out.trans (if_neg hx)
   have t1:((xa:Int)+ae == (xb:Int)+be)=false:=beq_eq_false_iff_ne.2 hx
   clear hx HSZ
   go_wp2_with fail
   refine (cmp_int _ _ _).mono ?_
   rintro q w3 ⟨rfl,rfl⟩
   go_wp2
   go_ret
   exact ⟨by rw [HE.out]; rfl,F2.out.b⟩
theorem cmpI_le (x y:Int):-1≤cmpI x y∧cmpI x y≤1:=by unfold cmpI; split <;> (try split) <;> omega
theorem cmpN_le (x y:Nat):-1≤cmpN x y∧cmpN x y≤1:=by unfold cmpN; split <;> (try split) <;> omega
theorem sizeN_le (a b:Dn):-1≤sizeN a b∧sizeN a b≤1:=by
 unfold sizeN sizeB; split
 ·exact cmpN_le _ _
 ·exact cmpI_le _ _
theorem signN_le (a:Dn):-1≤signN a∧signN a≤1:=by unfold signN; split <;> (try split) <;> omega
def CmpD (a b:Dn):Int:=if signN a ≠ signN b ∨ signN a=0 then cmpI (signN a) (signN b) else signN a * sizeN a b
theorem Cmp_d {w:World} {u v:Value} {a b:Dn} (ha:Ry w u a) (hb:Ry w v b):Calls Tryz.prog 17 #[u,v] w fun e w'=>e=.returned (.int .i64 (CmpD a b))∧Below w.heap.size w w':=by
 have CA:=h_ (fun w (h:Ry w u a)=>Sign_d h)
 have CB:=h_ (fun w (h:Ry w v b)=>Sign_d h)
 have CS:=h_ (fun w (h:Ry w u a) (k:Ry w v b)=>size_d h k)
 have HA:=h_ ha
 have HB:=h_ hb
 obtain ⟨a1,k1,c1,rfl⟩:=ha.form
 obtain ⟨a2,k2,c2,rfl⟩:=hb.form
 have HSZ:Hid (CmpD a b=if signN a ≠ signN b ∨ signN a=0 then cmpI (signN a) (signN b) else signN a * sizeN a b):=rfl
 have s1:=signN_le a
 have s2:=signN_le b
 have s3:=sizeN_le a b
 generalize CmpD a b=C at *
 generalize signN a=x at *
 generalize signN b=y at *
 generalize sizeN a b=z at *
 obtain ⟨an,am,ae⟩:=a
 obtain ⟨bn,bm,be⟩:=b
 clear ha hb
 go_enter Tryz.func17,Tryz.ntmps17
 have F0:=h_ (Fr.two w 42 #[.bool an,.slice a1 k1 c1,.int .i64 ae] 42 #[.bool bn,.slice a2 k2 c2,.int .i64 be])
 have HA0:=h_ ((HA.out.alloc (.cells #[.bool an,.slice a1 k1 c1,.int .i64 ae] 42)).alloc (.cells #[.bool bn,.slice a2 k2 c2,.int .i64 be] 42))
 have HB0:=h_ ((HB.out.alloc (.cells #[.bool an,.slice a1 k1 c1,.int .i64 ae] 42)).alloc (.cells #[.bool bn,.slice a2 k2 c2,.int .i64 be] 42))
 go_upto_region 1 with (fail)
 generalize (World.alloc (World.alloc _ _) _)=w1 at F0 HA0 HB0 ⊢
 have x0:=F0.out.z3 rfl
 have x1:=F0.out.c3 1 rfl
 go_region_held3 (fun w'=>(w'.cell? ⟨w.heap.size,0,none⟩=some (.bool an)∧w'.cell? ⟨w.heap.size,1,none⟩=some (.slice a1 k1 c1)∧w'.cell? ⟨w.heap.size,2,none⟩=some (.int .i64 ae))∧w'.cell? ⟨w.heap.size+1,0,none⟩=some (.bool bn)∧w'.cell? ⟨w.heap.size+1,1,none⟩=some (.slice a2 k2 c2)∧w'.cell? ⟨w.heap.size+1,2,none⟩=some (.int .i64 be)) (first | exact ⟨x0.1,x1.1⟩ | exact FC.out) (first | (go_at_call 19; (with_reducible refine (CB.out _ HB1.out).mono ?_); rintro q ww2 ⟨rfl,hb⟩; have F2:=h_ (F1.out.call hb); have HA2:=h_ (HA1.out.below hb); have HB2:=h_ (HB1.out.below hb); have FC:=h_ (And.intro (F2.out.z3 rfl).1 (F2.out.c3 1 rfl).1); clear hb) | (go_at_call 19; (with_reducible refine (CA.out _ (HA0.out.drew)).mono ?_); rintro q ww1 ⟨rfl,hb⟩; have F1:=h_ ((F0.out.drew).call hb); have HA1:=h_ ((HA0.out.drew).below hb); have HB1:=h_ ((HB0.out.drew).below hb); have FC:=h_ (And.intro (F1.out.z3 rfl).1 (F1.out.c3 1 rfl).1); clear hb))
 clear F0 HA0 HB0 F1 HA1 HB1
 clear x0 x1 HA HB
 have x0:=F2.out.z3 rfl
 have x1:=F2.out.c3 1 rfl
 by_cases hxy:x=y
 ·subst hxy
  by_cases h0:x=0
  ·have HE:Hid (C=cmpI x x):=HSZ.out.trans (if_pos (Or.inr h0))
   subst h0
   go_wp2_with fail
   refine (cmp_int _ _ _).mono ?_
   rintro q w3 ⟨rfl,rfl⟩
   go_wp2
   go_ret
   exact ⟨by rw [HE.out]; rfl,F2.out.b⟩
  ·have HE:Hid (C=x * z):=HSZ.out.trans (if_neg (fun h=>h.elim (fun h=>h rfl) h0))
   have t2:(x == 0)=false:=beq_eq_false_iff_ne.2 h0
   have q1:IntKind.i64.wrap (x * z)=x * z:=IntWalk.i64_in _ (by
    rcases (by omega:x=-1 ∨ x=1) with h | h <;> subst h <;> omega)
   clear h0
   go_wp2_with fail
   refine (CS.out _ HA2.out HB2.out).mono ?_
   rintro q w3 ⟨rfl,hb⟩
   have F3:=h_ (F2.out.call hb)
   clear hb
   go_wp2
   go_ret
   exact ⟨by rw [HE.out]; rfl,F3.out.b⟩
 ·have HE:Hid (C=cmpI x y):=HSZ.out.trans (if_pos (Or.inl hxy))
  have t2:(x == y)=false:=beq_eq_false_iff_ne.2 hxy
  clear hxy
  go_wp2_with fail
  refine (cmp_int _ _ _).mono ?_
  rintro q w3 ⟨rfl,rfl⟩
  go_wp2
  go_ret
  exact ⟨by rw [HE.out]; rfl,F2.out.b⟩
end Go.Proofs.YtobpioceopfkpaaGreatDoor
