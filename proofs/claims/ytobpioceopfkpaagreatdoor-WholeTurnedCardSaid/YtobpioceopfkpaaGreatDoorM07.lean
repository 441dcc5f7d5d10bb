/-
  Lemmas for WholeTurned and WholeGrows and WholeRises, part 7 of 36: what the program's functions do, and plain facts; without conditions.
-/
import Derived.Test.YtobpioceopfkpaaGreatDoorM03
import Derived.Test.YtobpioceopfkpaaGreatDoorM06
set_option maxRecDepth 100000
set_option maxHeartbeats 4000000
namespace Go.Proofs.YtobpioceopfkpaaGreatDoor
open Go.RowKit
def nlB:Value→Bool
 | .int .u8 _=>false
 | .int .u64 _=>false
 | _=>true
theorem nl_of {u:Value} (h:nlB u=true):Nl u:=by
 intro z
 constructor
 ·rintro rfl; cases h
 ·rintro rfl; cases h
def nlA (cs:Array Value):Bool:=cs.toList.all nlB
theorem nlA_at {cs:Array Value} (h:nlA cs=true) {k:Nat} {x:Value} (hx:cs[k]?=some x):nlB x=true:=by
 unfold nlA at h
 rw [List.all_eq_true] at h
 apply h
 rw [← Array.getElem?_toList] at hx
 exact List.mem_of_getElem? hx
theorem nlA_set {cs:Array Value} (h:nlA cs=true) (k:Nat) {u:Value} (hu:nlB u=true):nlA (cs.setIfInBounds k u)=true:=by
 unfold nlA at *
 rw [List.all_eq_true] at *
 intro x hx
 rw [Array.toList_setIfInBounds] at hx
 rcases List.mem_or_eq_of_mem_set hx with h1 | h1
 ·exact h x h1
 ·exact h1 ▸ hu
structure Fx (w0 w:World) (bs:List (Nat × TypeId × Array Value)):Prop where
 b:Below w0.heap.size w0 w
 box:∀ (i g:Nat) t cs,bs[i]?=some (g,t,cs)→Blk w g t cs
 low:∀ (i g:Nat) t cs,bs[i]?=some (g,t,cs)→w0.heap.size≤g
 asc:∀ (i j g:Nat) t cs (g':Nat) t' cs',i < j→bs[i]?=some (g,t,cs)→bs[j]?=some (g',t',cs')→g < g'
 nl:∀ (i g:Nat) t cs,bs[i]?=some (g,t,cs)→nlA cs=true
theorem Fx.nil (w:World):Fx w w []:=⟨Below.refl _ _,fun i g t cs h=>by simp at h,fun i g t cs h=>by simp at h,fun i j g t cs g' t' cs' _ h=>by simp at h,fun i g t cs h=>by simp at h⟩
theorem get_snoc {α:Type} {l:List α} {a x:α} {i:Nat} (h:(l ++ [a])[i]?=some x):l[i]?=some x ∨ i=l.length∧x=a:=by
 by_cases hl:i < l.length
 ·rw [List.getElem?_append_left hl] at h; exact .inl h
 ·rw [List.getElem?_append_right (by omega)] at h
  have h1:=(List.getElem?_eq_some_iff.1 h).1
  simp at h1
  have h2:i=l.length:=by omega
  subst h2
  simp at h
  exact .inr ⟨rfl,h.symm⟩
theorem Fx.new {w0 w:World} {bs:List (Nat × TypeId × Array Value)} (h:Fx w0 w bs) (t:TypeId) (cs:Array Value) (hn:nlA cs=true) :
  Fx w0 (w.alloc (.cells cs t)) (bs ++ [(w.heap.size,t,cs)]):=by
 refine ⟨h.b.alloc h.b.size _,?_,?_,?_,?_⟩
 ·intro i g t' cs' hi
  rcases get_snoc hi with hi | ⟨rfl,hi⟩
  ·exact (h.box i g t' cs' hi).alloc _
  ·simp at hi; obtain ⟨rfl,rfl,rfl⟩:=hi; exact Blk.new w _ _
 ·intro i g t' cs' hi
  rcases get_snoc hi with hi | ⟨rfl,hi⟩
  ·exact h.low i g t' cs' hi
  ·simp at hi; obtain ⟨rfl,rfl,rfl⟩:=hi; exact h.b.size
 ·intro i j g t1 cs1 g' t' cs' hij hi hj
  rcases get_snoc hj with hj | ⟨rfl,hj⟩
  ·rcases get_snoc hi with hi | ⟨rfl,hi⟩
   ·exact h.asc i j g t1 cs1 g' t' cs' hij hi hj
   ·have:=(List.getElem?_eq_some_iff.1 hj).1; omega
  ·simp at hj; obtain ⟨rfl,rfl,rfl⟩:=hj
   rcases get_snoc hi with hi | ⟨rfl,hi⟩
   ·exact (h.box i g t1 cs1 hi).lt
   ·omega
 ·intro i g t' cs' hi
  rcases get_snoc hi with hi | ⟨rfl,hi⟩
  ·exact h.nl i g t' cs' hi
  ·simp at hi; obtain ⟨rfl,rfl,rfl⟩:=hi; exact hn
theorem Fx.lt2 {w0 w:World} {bs:List (Nat × TypeId × Array Value)} (h:Fx w0 w bs) (i j:Nat) (hij:i < j) {g g':Nat} {t t':TypeId} {cs cs':Array Value} (hi:bs[i]?=some (g,t,cs)) (hj:bs[j]?=some (g',t',cs')):¬ g=g'∧¬ g'=g:=by
 have:=h.asc i j _ _ _ _ _ _ hij hi hj
 omega
theorem Fx.call {w0 w w':World} {bs:List (Nat × TypeId × Array Value)} (h:Fx w0 w bs) (hb:Below w.heap.size w w'):Fx w0 w' bs :=
 ⟨h.b.trans (hb.mono h.b.size),fun i g t cs hi=>(h.box i g t cs hi).below hb,h.low,h.asc,h.nl⟩
theorem Fx.alloc {w0 w:World} {bs:List (Nat × TypeId × Array Value)} (h:Fx w0 w bs) (o:Obj):Fx w0 (w.alloc o) bs :=
 ⟨h.b.alloc h.b.size _,fun i g t cs hi=>(h.box i g t cs hi).alloc _,h.low,h.asc,h.nl⟩
theorem Fx.drewN {w0 w:World} {bs:List (Nat × TypeId × Array Value)} (h:Fx w0 w bs) (n:Nat):Fx w0 (w.drewN n) bs:=⟨below_drewN' h.b n,h.box,h.low,h.asc,h.nl⟩
theorem Fx.drew {w0 w:World} {bs:List (Nat × TypeId × Array Value)} (h:Fx w0 w bs):Fx w0 w.drew bs:=h.drewN 1
theorem Fx.drewE {w0 w w':World} {bs:List (Nat × TypeId × Array Value)} (h:Fx w0 w bs) (e:w'=w.drew):Fx w0 w' bs:=e ▸ h.drew
theorem Fx.one (w:World) (t:TypeId) (cs:Array Value) (hn:nlA cs=true):Fx w (w.alloc (.cells cs t)) [(w.heap.size,t,cs)]:=(Fx.nil w).new t cs hn
theorem Fx.two (w:World) (t:TypeId) (cs:Array Value) (t':TypeId) (cs':Array Value) (hn:nlA cs=true) (hn':nlA cs'=true):Fx w ((w.alloc (.cells cs t)).alloc (.cells cs' t')) [(w.heap.size,t,cs),(w.heap.size+1,t',cs')]:=by
 have:=((Fx.nil w).new t cs hn).new t' cs' hn'
 simpa using this
theorem Fx.three (w:World) (t:TypeId) (cs:Array Value) (t':TypeId) (cs':Array Value) (t'':TypeId) (cs'':Array Value) (hn:nlA cs=true) (hn':nlA cs'=true) (hn'':nlA cs''=true) :
  Fx w (((w.alloc (.cells cs t)).alloc (.cells cs' t')).alloc (.cells cs'' t'')) [(w.heap.size,t,cs),(w.heap.size+1,t',cs'),(w.heap.size+1+1,t'',cs'')]:=by
 have:=(((Fx.nil w).new t cs hn).new t' cs' hn').new t'' cs'' hn''
 simpa using this
theorem Fx.set {w0 w:World} {bs:List (Nat × TypeId × Array Value)} (h:Fx w0 w bs) (i j:Nat) {g:Nat} {t:TypeId} {cs:Array Value} (hi:bs[i]?=some (g,t,cs)) {x:Value} (hx:cs[j]?=some x) {u:Value} (hu:nlB u=true) :
  Fx w0 (w.setCell ⟨g,j,none⟩ u) (bs.set i (g,t,cs.setIfInBounds j u))∧Kp w (w.setCell ⟨g,j,none⟩ u):=by
 have hl:=(List.getElem?_eq_some_iff.1 hi).1
 have key:∀ (k g':Nat) t' cs',(bs.set i (g,t,cs.setIfInBounds j u))[k]?=some (g',t',cs')→k=i∧g'=g∧t'=t∧cs'=cs.setIfInBounds j u ∨ k ≠ i∧bs[k]?=some (g',t',cs'):=by
  intro k g' t' cs' hk
  by_cases hki:k=i
  ·subst hki; rw [List.getElem?_set_self hl] at hk; simp at hk
   obtain ⟨rfl,rfl,rfl⟩:=hk; exact .inl ⟨rfl,rfl,rfl,rfl⟩
  ·rw [List.getElem?_set_ne (Ne.symm hki)] at hk; exact .inr ⟨hki,hk⟩
 refine ⟨⟨h.b.setCell (h.low i g t cs hi) _,?_,?_,?_,?_⟩,Kp.set (h.box i g t cs hi) hx (nl_of (nlA_at (h.nl i g t cs hi) hx)) u⟩
 ·intro k g' t' cs' hk
  rcases key k g' t' cs' hk with ⟨rfl,rfl,rfl,rfl⟩ | ⟨hki,hk⟩
  ·exact (h.box k _ _ cs hi).set j u
  ·refine (h.box k g' t' cs' hk).far ?_ u
   rcases Nat.lt_or_gt_of_ne hki with hlt | hgt
   ·have:=h.asc k i g' t' cs' g t cs hlt hk hi; simp; omega
   ·have:=h.asc i k g t cs g' t' cs' hgt hi hk; simp; omega
 ·intro k g' t' cs' hk
  rcases key k g' t' cs' hk with ⟨rfl,rfl,rfl,rfl⟩ | ⟨hki,hk⟩
  ·exact h.low k _ _ cs hi
  ·exact h.low k g' t' cs' hk
 ·intro a c g1 t1 cs1 g2 t2 cs2 hac ha hc
  have e1:∃ t3 cs3,bs[a]?=some (g1,t3,cs3):=by
   rcases key a g1 t1 cs1 ha with ⟨rfl,rfl,rfl,rfl⟩ | ⟨_,hk⟩
   ·exact ⟨_,_,hi⟩
   ·exact ⟨_,_,hk⟩
  have e2:∃ t3 cs3,bs[c]?=some (g2,t3,cs3):=by
   rcases key c g2 t2 cs2 hc with ⟨rfl,rfl,rfl,rfl⟩ | ⟨_,hk⟩
   ·exact ⟨_,_,hi⟩
   ·exact ⟨_,_,hk⟩
  obtain ⟨_,_,e1⟩:=e1
  obtain ⟨_,_,e2⟩:=e2
  exact h.asc a c _ _ _ _ _ _ hac e1 e2
 ·intro k g' t' cs' hk
  rcases key k g' t' cs' hk with ⟨rfl,rfl,rfl,rfl⟩ | ⟨hki,hk⟩
  ·exact nlA_set (h.nl k _ _ cs hi) j hu
  ·exact h.nl k g' t' cs' hk
theorem Fx.s2 {w0 w:World} {bs:List (Nat × TypeId × Array Value)} (h:Fx w0 w bs) (i:Nat) {g:Nat} {t:TypeId} {x0 x1:Value} (hi:bs[i]?=some (g,t,#[x0,x1])) (a b:Value) (ha:nlB a=true) (hb:nlB b=true) :
  Fx w0 ((w.setCell ⟨g,0,none⟩ a).setCell ⟨g,1,none⟩ b) (bs.set i (g,t,#[a,b]))∧Kp w ((w.setCell ⟨g,0,none⟩ a).setCell ⟨g,1,none⟩ b):=by
 have hl:=(List.getElem?_eq_some_iff.1 hi).1
 have q0:=h.set i 0 hi (x:=x0) rfl ha
 have hi0:(bs.set i (g,t,#[a,x1]))[i]?=some (g,t,#[a,x1]):=List.getElem?_set_self hl
 have r0:Fx w0 _ (bs.set i (g,t,#[a,x1])):=q0.1
 have q1:=r0.set i 1 hi0 (x:=x1) rfl hb
 rw [List.set_set] at q1
 have hi1:(bs.set i (g,t,#[a,b]))[i]?=some (g,t,#[a,b]):=List.getElem?_set_self hl
 have r1:Fx w0 _ (bs.set i (g,t,#[a,b])):=q1.1
 exact ⟨r1,(q0.2).trans q1.2⟩
theorem Fx.s2_0 {w0 w:World} {bs:List (Nat × TypeId × Array Value)} (h:Fx w0 w bs) (i:Nat) {g:Nat} {t:TypeId} {x0 x1:Value} (hi:bs[i]?=some (g,t,#[x0,x1])) (a:Value) (ha:nlB a=true) :
  Fx w0 (w.setCell ⟨g,0,none⟩ a) (bs.set i (g,t,#[a,x1]))∧Kp w (w.setCell ⟨g,0,none⟩ a):=by
 have hl:=(List.getElem?_eq_some_iff.1 hi).1
 have q0:=h.set i 0 hi (x:=x0) rfl ha
 have hi0:(bs.set i (g,t,#[a,x1]))[i]?=some (g,t,#[a,x1]):=List.getElem?_set_self hl
 have r0:Fx w0 _ (bs.set i (g,t,#[a,x1])):=q0.1
 exact ⟨r0,q0.2⟩
theorem Fx.s3 {w0 w:World} {bs:List (Nat × TypeId × Array Value)} (h:Fx w0 w bs) (i:Nat) {g:Nat} {t:TypeId} {x0 x1 x2:Value} (hi:bs[i]?=some (g,t,#[x0,x1,x2])) (a b c:Value) (ha:nlB a=true) (hb:nlB b=true) (hc:nlB c=true) :
  Fx w0 (((w.setCell ⟨g,0,none⟩ a).setCell ⟨g,1,none⟩ b).setCell ⟨g,2,none⟩ c) (bs.set i (g,t,#[a,b,c]))∧Kp w (((w.setCell ⟨g,0,none⟩ a).setCell ⟨g,1,none⟩ b).setCell ⟨g,2,none⟩ c):=by
 have hl:=(List.getElem?_eq_some_iff.1 hi).1
 have q0:=h.set i 0 hi (x:=x0) rfl ha
 have hi0:(bs.set i (g,t,#[a,x1,x2]))[i]?=some (g,t,#[a,x1,x2]):=List.getElem?_set_self hl
 have r0:Fx w0 _ (bs.set i (g,t,#[a,x1,x2])):=q0.1
 have q1:=r0.set i 1 hi0 (x:=x1) rfl hb
 rw [List.set_set] at q1
 have hi1:(bs.set i (g,t,#[a,b,x2]))[i]?=some (g,t,#[a,b,x2]):=List.getElem?_set_self hl
 have r1:Fx w0 _ (bs.set i (g,t,#[a,b,x2])):=q1.1
 have q2:=r1.set i 2 hi1 (x:=x2) rfl hc
 rw [List.set_set] at q2
 have hi2:(bs.set i (g,t,#[a,b,c]))[i]?=some (g,t,#[a,b,c]):=List.getElem?_set_self hl
 have r2:Fx w0 _ (bs.set i (g,t,#[a,b,c])):=q2.1
 exact ⟨r2,((q0.2).trans q1.2).trans q2.2⟩
theorem Fx.s3_0 {w0 w:World} {bs:List (Nat × TypeId × Array Value)} (h:Fx w0 w bs) (i:Nat) {g:Nat} {t:TypeId} {x0 x1 x2:Value} (hi:bs[i]?=some (g,t,#[x0,x1,x2])) (a:Value) (ha:nlB a=true) :
  Fx w0 (w.setCell ⟨g,0,none⟩ a) (bs.set i (g,t,#[a,x1,x2]))∧Kp w (w.setCell ⟨g,0,none⟩ a):=by
 have hl:=(List.getElem?_eq_some_iff.1 hi).1
 have q0:=h.set i 0 hi (x:=x0) rfl ha
 have hi0:(bs.set i (g,t,#[a,x1,x2]))[i]?=some (g,t,#[a,x1,x2]):=List.getElem?_set_self hl
 have r0:Fx w0 _ (bs.set i (g,t,#[a,x1,x2])):=q0.1
 exact ⟨r0,q0.2⟩
theorem Fx.s3_1 {w0 w:World} {bs:List (Nat × TypeId × Array Value)} (h:Fx w0 w bs) (i:Nat) {g:Nat} {t:TypeId} {x0 x1 x2:Value} (hi:bs[i]?=some (g,t,#[x0,x1,x2])) (a:Value) (ha:nlB a=true) :
  Fx w0 (w.setCell ⟨g,1,none⟩ a) (bs.set i (g,t,#[x0,a,x2]))∧Kp w (w.setCell ⟨g,1,none⟩ a):=by
 have hl:=(List.getElem?_eq_some_iff.1 hi).1
 have q0:=h.set i 1 hi (x:=x1) rfl ha
 have hi0:(bs.set i (g,t,#[x0,a,x2]))[i]?=some (g,t,#[x0,a,x2]):=List.getElem?_set_self hl
 have r0:Fx w0 _ (bs.set i (g,t,#[x0,a,x2])):=q0.1
 exact ⟨r0,q0.2⟩
theorem Fx.s6 {w0 w:World} {bs:List (Nat × TypeId × Array Value)} (h:Fx w0 w bs) (i:Nat) {g:Nat} {t:TypeId} {x0 x1 x2 x3 x4 x5:Value} (hi:bs[i]?=some (g,t,#[x0,x1,x2,x3,x4,x5])) (a b c d e f:Value) (ha:nlB a=true) (hb:nlB b=true) (hc:nlB c=true) (hd:nlB d=true) (he:nlB e=true) (hf:nlB f=true) :
  Fx w0 ((((((w.setCell ⟨g,0,none⟩ a).setCell ⟨g,1,none⟩ b).setCell ⟨g,2,none⟩ c).setCell ⟨g,3,none⟩ d).setCell ⟨g,4,none⟩ e).setCell ⟨g,5,none⟩ f) (bs.set i (g,t,#[a,b,c,d,e,f]))∧Kp w ((((((w.setCell ⟨g,0,none⟩ a).setCell ⟨g,1,none⟩ b).setCell ⟨g,2,none⟩ c).setCell ⟨g,3,none⟩ d).setCell ⟨g,4,none⟩ e).setCell ⟨g,5,none⟩ f):=by
 have hl:=(List.getElem?_eq_some_iff.1 hi).1
 have q0:=h.set i 0 hi (x:=x0) rfl ha
 have hi0:(bs.set i (g,t,#[a,x1,x2,x3,x4,x5]))[i]?=some (g,t,#[a,x1,x2,x3,x4,x5]):=List.getElem?_set_self hl
 have r0:Fx w0 _ (bs.set i (g,t,#[a,x1,x2,x3,x4,x5])):=q0.1
 have q1:=r0.set i 1 hi0 (x:=x1) rfl hb
 rw [List.set_set] at q1
 have hi1:(bs.set i (g,t,#[a,b,x2,x3,x4,x5]))[i]?=some (g,t,#[a,b,x2,x3,x4,x5]):=List.getElem?_set_self hl
 have r1:Fx w0 _ (bs.set i (g,t,#[a,b,x2,x3,x4,x5])):=q1.1
 have q2:=r1.set i 2 hi1 (x:=x2) rfl hc
 rw [List.set_set] at q2
 have hi2:(bs.set i (g,t,#[a,b,c,x3,x4,x5]))[i]?=some (g,t,#[a,b,c,x3,x4,x5]):=List.getElem?_set_self hl
 have r2:Fx w0 _ (bs.set i (g,t,#[a,b,c,x3,x4,x5])):=q2.1
 have q3:=r2.set i 3 hi2 (x:=x3) rfl hd
 rw [List.set_set] at q3
 have hi3:(bs.set i (g,t,#[a,b,c,d,x4,x5]))[i]?=some (g,t,#[a,b,c,d,x4,x5]):=List.getElem?_set_self hl
 have r3:Fx w0 _ (bs.set i (g,t,#[a,b,c,d,x4,x5])):=q3.1
 have q4:=r3.set i 4 hi3 (x:=x4) rfl he
 rw [List.set_set] at q4
 have hi4:(bs.set i (g,t,#[a,b,c,d,e,x5]))[i]?=some (g,t,#[a,b,c,d,e,x5]):=List.getElem?_set_self hl
 have r4:Fx w0 _ (bs.set i (g,t,#[a,b,c,d,e,x5])):=q4.1
 have q5:=r4.set i 5 hi4 (x:=x5) rfl hf
 rw [List.set_set] at q5
 have hi5:(bs.set i (g,t,#[a,b,c,d,e,f]))[i]?=some (g,t,#[a,b,c,d,e,f]):=List.getElem?_set_self hl
 have r5:Fx w0 _ (bs.set i (g,t,#[a,b,c,d,e,f])):=q5.1
 exact ⟨r5,(((((q0.2).trans q1.2).trans q2.2).trans q3.2).trans q4.2).trans q5.2⟩
theorem Fx.s6_0 {w0 w:World} {bs:List (Nat × TypeId × Array Value)} (h:Fx w0 w bs) (i:Nat) {g:Nat} {t:TypeId} {x0 x1 x2 x3 x4 x5:Value} (hi:bs[i]?=some (g,t,#[x0,x1,x2,x3,x4,x5])) (a b c:Value) (ha:nlB a=true) (hb:nlB b=true) (hc:nlB c=true) :
  Fx w0 (((w.setCell ⟨g,0,none⟩ a).setCell ⟨g,1,none⟩ b).setCell ⟨g,2,none⟩ c) (bs.set i (g,t,#[a,b,c,x3,x4,x5]))∧Kp w (((w.setCell ⟨g,0,none⟩ a).setCell ⟨g,1,none⟩ b).setCell ⟨g,2,none⟩ c):=by
 have hl:=(List.getElem?_eq_some_iff.1 hi).1
 have q0:=h.set i 0 hi (x:=x0) rfl ha
 have hi0:(bs.set i (g,t,#[a,x1,x2,x3,x4,x5]))[i]?=some (g,t,#[a,x1,x2,x3,x4,x5]):=List.getElem?_set_self hl
 have r0:Fx w0 _ (bs.set i (g,t,#[a,x1,x2,x3,x4,x5])):=q0.1
 have q1:=r0.set i 1 hi0 (x:=x1) rfl hb
 rw [List.set_set] at q1
 have hi1:(bs.set i (g,t,#[a,b,x2,x3,x4,x5]))[i]?=some (g,t,#[a,b,x2,x3,x4,x5]):=List.getElem?_set_self hl
 have r1:Fx w0 _ (bs.set i (g,t,#[a,b,x2,x3,x4,x5])):=q1.1
 have q2:=r1.set i 2 hi1 (x:=x2) rfl hc
 rw [List.set_set] at q2
 have hi2:(bs.set i (g,t,#[a,b,c,x3,x4,x5]))[i]?=some (g,t,#[a,b,c,x3,x4,x5]):=List.getElem?_set_self hl
 have r2:Fx w0 _ (bs.set i (g,t,#[a,b,c,x3,x4,x5])):=q2.1
 exact ⟨r2,((q0.2).trans q1.2).trans q2.2⟩
theorem Fx.s6_3 {w0 w:World} {bs:List (Nat × TypeId × Array Value)} (h:Fx w0 w bs) (i:Nat) {g:Nat} {t:TypeId} {x0 x1 x2 x3 x4 x5:Value} (hi:bs[i]?=some (g,t,#[x0,x1,x2,x3,x4,x5])) (a b c:Value) (ha:nlB a=true) (hb:nlB b=true) (hc:nlB c=true) :
  Fx w0 (((w.setCell ⟨g,3,none⟩ a).setCell ⟨g,4,none⟩ b).setCell ⟨g,5,none⟩ c) (bs.set i (g,t,#[x0,x1,x2,a,b,c]))∧Kp w (((w.setCell ⟨g,3,none⟩ a).setCell ⟨g,4,none⟩ b).setCell ⟨g,5,none⟩ c):=by
 have hl:=(List.getElem?_eq_some_iff.1 hi).1
 have q0:=h.set i 3 hi (x:=x3) rfl ha
 have hi0:(bs.set i (g,t,#[x0,x1,x2,a,x4,x5]))[i]?=some (g,t,#[x0,x1,x2,a,x4,x5]):=List.getElem?_set_self hl
 have r0:Fx w0 _ (bs.set i (g,t,#[x0,x1,x2,a,x4,x5])):=q0.1
 have q1:=r0.set i 4 hi0 (x:=x4) rfl hb
 rw [List.set_set] at q1
 have hi1:(bs.set i (g,t,#[x0,x1,x2,a,b,x5]))[i]?=some (g,t,#[x0,x1,x2,a,b,x5]):=List.getElem?_set_self hl
 have r1:Fx w0 _ (bs.set i (g,t,#[x0,x1,x2,a,b,x5])):=q1.1
 have q2:=r1.set i 5 hi1 (x:=x5) rfl hc
 rw [List.set_set] at q2
 have hi2:(bs.set i (g,t,#[x0,x1,x2,a,b,c]))[i]?=some (g,t,#[x0,x1,x2,a,b,c]):=List.getElem?_set_self hl
 have r2:Fx w0 _ (bs.set i (g,t,#[x0,x1,x2,a,b,c])):=q2.1
 exact ⟨r2,((q0.2).trans q1.2).trans q2.2⟩
theorem Fx.c1 {w0 w:World} {bs:List (Nat × TypeId × Array Value)} (h:Fx w0 w bs) (i:Nat) {g:Nat} {t:TypeId} {x0:Value} (hi:bs[i]?=some (g,t,#[x0])) :
  (w.cell? ⟨g,0,none⟩=some x0)∧w.frozen? ⟨g,0,none⟩=false:=by
 have k:=h.box i _ _ _ hi
 exact ⟨k.at 0 x0 rfl,k.frozen 0⟩
theorem Fx.c2 {w0 w:World} {bs:List (Nat × TypeId × Array Value)} (h:Fx w0 w bs) (i:Nat) {g:Nat} {t:TypeId} {x0 x1:Value} (hi:bs[i]?=some (g,t,#[x0,x1])) :
  (w.cell? ⟨g,0,none⟩=some x0∧w.cell? ⟨g,1,none⟩=some x1)∧w.frozen? ⟨g,0,none⟩=false∧w.frozen? ⟨g,1,none⟩=false:=by
 have k:=h.box i _ _ _ hi
 exact ⟨⟨k.at 0 x0 rfl,k.at 1 x1 rfl⟩,k.frozen 0,k.frozen 1⟩
theorem Fx.c3 {w0 w:World} {bs:List (Nat × TypeId × Array Value)} (h:Fx w0 w bs) (i:Nat) {g:Nat} {t:TypeId} {x0 x1 x2:Value} (hi:bs[i]?=some (g,t,#[x0,x1,x2])) :
  (w.cell? ⟨g,0,none⟩=some x0∧w.cell? ⟨g,1,none⟩=some x1∧w.cell? ⟨g,2,none⟩=some x2)∧w.frozen? ⟨g,0,none⟩=false∧w.frozen? ⟨g,1,none⟩=false∧w.frozen? ⟨g,2,none⟩=false:=by
 have k:=h.box i _ _ _ hi
 exact ⟨⟨k.at 0 x0 rfl,k.at 1 x1 rfl,k.at 2 x2 rfl⟩,k.frozen 0,k.frozen 1,k.frozen 2⟩
theorem Fx.c6 {w0 w:World} {bs:List (Nat × TypeId × Array Value)} (h:Fx w0 w bs) (i:Nat) {g:Nat} {t:TypeId} {x0 x1 x2 x3 x4 x5:Value} (hi:bs[i]?=some (g,t,#[x0,x1,x2,x3,x4,x5])) :
  (w.cell? ⟨g,0,none⟩=some x0∧w.cell? ⟨g,1,none⟩=some x1∧w.cell? ⟨g,2,none⟩=some x2∧w.cell? ⟨g,3,none⟩=some x3∧w.cell? ⟨g,4,none⟩=some x4∧w.cell? ⟨g,5,none⟩=some x5)∧w.frozen? ⟨g,0,none⟩=false∧w.frozen? ⟨g,1,none⟩=false∧w.frozen? ⟨g,2,none⟩=false∧w.frozen? ⟨g,3,none⟩=false∧w.frozen? ⟨g,4,none⟩=false∧w.frozen? ⟨g,5,none⟩=false:=by
 have k:=h.box i _ _ _ hi
 exact ⟨⟨k.at 0 x0 rfl,k.at 1 x1 rfl,k.at 2 x2 rfl,k.at 3 x3 rfl,k.at 4 x4 rfl,k.at 5 x5 rfl⟩,k.frozen 0,k.frozen 1,k.frozen 2,k.frozen 3,k.frozen 4,k.frozen 5⟩
def Sd (d:Dn):Prop:=bl d.m≤4000∧-4000≤d.e∧d.e≤4000
theorem Sd.bare {d:Dn} (h:Sd d):bl (bareN d).m≤4000∧-4000≤(bareN d).e∧(bareN d).e≤8000:=by
 obtain ⟨h1,h2,h3⟩:=h
 by_cases h0:d.m=0
 ·rw [bareN_zero h0]; exact ⟨Nat.zero_le _,by decide,by decide⟩
 ·have k1:=lo_le_bl h0
  have:d.m / 2^lo d.m≤d.m:=Nat.div_le_self _ _
  have k2:=bl_mono this
  have k3:cutN d.e=d.e:=by unfold cutN; omega
  rw [bareN_pos h0,k3]
  simp only; omega
theorem BareN_sm {d:Dn} (h:-1000000≤(bareN d).e∧(bareN d).e≤1000000):BareN d=(bareN d,0):=BareN_ok (by omega)
theorem bareN_span {d:Dn} (h:bl d.m≤255000∧-500000≤d.e∧d.e≤500000):-1000000≤(bareN d).e∧(bareN d).e≤1000000:=by
 by_cases h0:d.m=0
 ·rw [bareN_zero h0]; exact ⟨by decide,by decide⟩
 ·have k1:=lo_le_bl h0
  have k3:cutN d.e=d.e:=by unfold cutN; omega
  rw [bareN_pos h0,k3]; simp only; omega
theorem Bare_s {w:World} {v:Value} {d:Dn} (h:Ry w v d) (hs:Sd d):Calls Tryz.prog 31 #[v] w (RetCE (bareN d) 0 w):=by
 have h1:=Bare_d h
 have h2:=hs.bare
 rw [BareN_sm (d:=d) (by omega)] at h1
 exact h1
theorem Make_s {w:World} {s:Value} {neg:Bool} {m:Nat} {e:Int} (h:Rd w s m) (hbl:bl m≤255000) (he:-500000≤e∧e≤500000) :
  Calls Tryz.prog 30 #[.bool neg,s,.int .i64 e] w (RetCE (bareN ⟨neg,m,e⟩) 0 w):=by
 have h1:=Make_d (neg:=neg) h hbl (e:=e) (by omega)
 rw [BareN_sm (bareN_span ⟨hbl,he⟩)] at h1
 exact h1
theorem bl_mul (m n:Nat):bl (m * n)≤bl m+bl n:=by
 apply bl_le
 rw [Nat.pow_add]
 have h1:=lt_bl m
 have h2:=lt_bl n
 exact Nat.lt_of_le_of_lt (Nat.mul_le_mul_right _ (Nat.le_of_lt h1)) (Nat.mul_lt_mul_of_pos_left h2 (Nat.two_pow_pos _))
theorem mul_s {w:World} {u v:Value} {m n:Nat} (h:Rd w u m) (k:Rd w v n) (hb:bl m+bl n≤65536):Calls Tryz.prog 32 #[u,v] w (RetDgE (m * n) 0 w):=by
 have h1:=mul_r h k
 have e1:mulN m n=m * n:=by unfold mulN; rw [if_neg (by omega)]
 have e2:mulE m n=0:=by unfold mulE; split; rfl; rw [if_neg (by omega)]
 rw [e1,e2] at h1
 exact h1
theorem Cy.fm {w:World} {v:Value} {n:Bool} {m:Nat} {e:Int} (h:Cy w v ⟨n,m,e⟩):∃ a k c,v=.agg #[.bool n,.slice a k c,.int .i64 e]:=h.form
theorem Cy.dm {w:World} {n:Bool} {a:Option Addr} {k c:Nat} {e:Int} {m:Nat} (h:Cy w (.agg #[.bool n,.slice a k c,.int .i64 e]) ⟨n,m,e⟩):Dg w (.slice a k c) m:=h.dg
def mulD (A B:Dn):Dn:=bareN ⟨A.neg != B.neg,A.m * B.m,A.e+B.e⟩
def MulD (a b:Dn):Dn:=mulD (bareN a) (bareN b)
theorem Mul_s {w:World} {u v:Value} {a b:Dn} (ha:Ry w u a) (hb:Ry w v b) (sa:Sd a) (sb:Sd b):Calls Tryz.prog 16 #[u,v] w (RetCE (MulD a b) 0 w):=by
 have CA:=h_ (fun w (h:Ry w u a)=>Bare_s h sa)
 have CB:=h_ (fun w (h:Ry w v b)=>Bare_s h sb)
 obtain ⟨a1,k1,c1,rfl⟩:=ha.form
 obtain ⟨a2,k2,c2,rfl⟩:=hb.form
 have ba:=sa.bare
 have bb:=sb.bare
 have HM:MulD a b=mulD (bareN a) (bareN b):=rfl
 rw [HM]
 clear HM
 generalize bareN a=A at *
 generalize bareN b=B at *
 obtain ⟨an,am,ae⟩:=A
 obtain ⟨bn,bm,be⟩:=B
 simp only at ba bb
 have HD:mulD ⟨an,am,ae⟩ ⟨bn,bm,be⟩=bareN ⟨an != bn,am * bm,ae+be⟩:=rfl
 have CM:=h_ (fun w (u v:Value) (h:Rd w u am) (k:Rd w v bm)=>mul_s h k (by omega))
 have hm:=bl_mul am bm
 have CK:=h_ (fun w (s:Value) (h:Rd w s (am * bm))=>Make_s (neg:=an != bn) (e:=ae+be) h (by omega) (by omega))
 rw [HD]
 have q1:IntKind.i64.wrap (ae+be)=ae+be:=IntWalk.i64_in _ (by omega)
 have bm2:bl (am * bm)≤8000:=by omega
 generalize am * bm=m at *
 obtain ⟨g,hg⟩:∃ g,g=(an != bn):=⟨_,rfl⟩
 have hg2:(!an == bn)=g:=by rw [hg]; cases an <;> cases bn <;> rfl
 rw [← hg] at CK ⊢
 generalize bareN ⟨g,m,ae+be⟩=R at *
 obtain ⟨rn,rm,re⟩:=R
 have HG:=h_ hg2
 clear hg hg2 HD hm
 go_enter Tryz.func16,Tryz.ntmps16
 have F0:=h_ (Fx.three w 42 #[.bool a.neg,.slice a1 k1 c1,.int .i64 a.e] 42 #[.bool b.neg,.slice a2 k2 c2,.int .i64 b.e] 42 #[.bool false,.slice none 0 0,.int .i64 0] rfl rfl rfl)
 have X0:=h_ (((ha.alloc (.cells #[.bool a.neg,.slice a1 k1 c1,.int .i64 a.e] 42)).alloc (.cells #[.bool b.neg,.slice a2 k2 c2,.int .i64 b.e] 42)).alloc (.cells #[.bool false,.slice none 0 0,.int .i64 0] 42))
 have Y0:=h_ (((hb.alloc (.cells #[.bool a.neg,.slice a1 k1 c1,.int .i64 a.e] 42)).alloc (.cells #[.bool b.neg,.slice a2 k2 c2,.int .i64 b.e] 42)).alloc (.cells #[.bool false,.slice none 0 0,.int .i64 0] 42))
 clear ha hb
 go_wp2_with fail
 generalize World.alloc (World.alloc (World.alloc _ _) _) _=w0 at F0 X0 Y0 ⊢
 have c0_0:=F0.out.c3 0 rfl
 have c1_0:=F0.out.c3 1 rfl
 have c2_0:=F0.out.c3 2 rfl
 clear c0_0 c1_0 c2_0
 refine (CA.out _ X0.out).mono ?_
 rintro q w1 ⟨u,rfl,hu,hb⟩
 have F1:=h_ (F0.out.call hb)
 have X1:=h_ (X0.out.below hb)
 have Y1:=h_ (Y0.out.below hb)
 clear F0 X0 Y0
 have U1:=h_ (hu)
 clear hb
 have c0_1:=F1.out.c3 0 rfl
 have c1_1:=F1.out.c3 1 rfl
 have c2_1:=F1.out.c3 2 rfl
 obtain ⟨a3,k3,c3,rfl⟩:=U1.out.fm
 go_wp2_with fail
 clear c0_1 c1_1 c2_1
 obtain ⟨f,p⟩:=F1.out.s3 0 rfl (.bool an) (.slice a3 k3 c3) (.int .i64 ae) rfl rfl rfl
 generalize (World.setCell (World.setCell (World.setCell _ _ _) _ _) _ _)=W at f p ⊢
 have F2:=h_ (f)
 have X2:=h_ (X1.out.kp p)
 have Y2:=h_ (Y1.out.kp p)
 have U2:=h_ (U1.out.kp p)
 clear F1 X1 Y1 U1
 clear f p
 have c0_2:=F2.out.c3 0 rfl
 have c1_2:=F2.out.c3 1 rfl
 have c2_2:=F2.out.c3 2 rfl
 clear c0_2 c1_2 c2_2
 refine (CB.out _ Y2.out).mono ?_
 rintro q w3 ⟨u,rfl,hu,hb⟩
 have F3:=h_ (F2.out.call hb)
 have X3:=h_ (X2.out.below hb)
 have Y3:=h_ (Y2.out.below hb)
 have U3:=h_ (U2.out.below hb)
 clear F2 X2 Y2 U2
 have V3:=h_ (hu)
 clear hb
 have c0_3:=F3.out.c3 0 rfl
 have c1_3:=F3.out.c3 1 rfl
 have c2_3:=F3.out.c3 2 rfl
 obtain ⟨a4,k4,c4,rfl⟩:=V3.out.fm
 go_wp2_with fail
 clear c0_3 c1_3 c2_3
 obtain ⟨f,p⟩:=F3.out.s3 1 rfl (.bool bn) (.slice a4 k4 c4) (.int .i64 be) rfl rfl rfl
 generalize (World.setCell (World.setCell (World.setCell _ _ _) _ _) _ _)=W at f p ⊢
 have F4:=h_ (f)
 have X4:=h_ (X3.out.kp p)
 have Y4:=h_ (Y3.out.kp p)
 have U4:=h_ (U3.out.kp p)
 have V4:=h_ (V3.out.kp p)
 clear F3 X3 Y3 U3 V3
 clear f p
 have c0_4:=F4.out.c3 0 rfl
 have c1_4:=F4.out.c3 1 rfl
 have c2_4:=F4.out.c3 2 rfl
 have D1:Hid (Dg _ (.slice a3 k3 c3) am):=U4.out.dm
 have D2:Hid (Dg _ (.slice a4 k4 c4) bm):=V4.out.dm
 clear X4 Y4 U4 V4
 clear c0_4 c1_4 c2_4
 refine (CM.out _ _ _ (D1.out.rd (by omega)) (D2.out.rd (by omega))).mono ?_
 rintro q w5 ⟨u,rfl,hu,hb⟩
 have F5:=h_ (F4.out.call hb)
 clear F4
 have M5:=h_ (hu)
 clear hb
 have c0_5:=F5.out.c3 0 rfl
 have c1_5:=F5.out.c3 1 rfl
 have c2_5:=F5.out.c3 2 rfl
 obtain ⟨a5,k5,c5,rfl⟩:=M5.out.form
 clear D1 D2
 go_wp2_with fail
 rw [HG.out]
 clear c0_5 c1_5 c2_5
 refine (CK.out _ _ (M5.out.rd (by omega))).mono ?_
 rintro q w6 ⟨u,rfl,hu,hb⟩
 have F6:=h_ (F5.out.call hb)
 have M6:=h_ (M5.out.below hb)
 clear F5 M5
 have R6:=h_ (hu)
 clear hb
 have c0_6:=F6.out.c3 0 rfl
 have c1_6:=F6.out.c3 1 rfl
 have c2_6:=F6.out.c3 2 rfl
 obtain ⟨a6,k6,c6,rfl⟩:=R6.out.fm
 go_wp2
 obtain ⟨f0,p0⟩:=F6.out.s3 2 rfl (.bool rn) (.slice a6 k6 c6) (.int .i64 re) rfl rfl rfl
 have p:=p0
 have f:=f0
 clear f0 p0
 generalize (World.setCell (World.setCell (World.setCell _ _ _) _ _) _ _)=W at f p ⊢
 have g2:=f.c3 2 rfl
 refine bodyPost_ret (v:=.tuple #[.agg #[.bool rn,.slice a6 k6 c6,.int .i64 re],.int .i64 0]) (by simp [results,Tryz.results16,go_sem,g2]) rfl ?_
 exact ⟨_,rfl,R6.out.kp p,f.b⟩
def mz (K:Int) (d:Dn):Nat:=d.m * 2^(d.e+K).toNat
def zv (K:Int) (d:Dn):Int:=if d.neg then -(mz K d:Int) else (mz K d:Int)
theorem cutN_in {e:Int} (h:-2147483648≤e∧e≤2147483648):cutN e=e:=by unfold cutN; omega
theorem mz_bareN {K:Int} {d:Dn} (_:0≤K) (h:-K≤d.e) (he:-2147483648≤d.e∧d.e≤2147483648):mz K (bareN d)=mz K d:=by
 by_cases h0:d.m=0
 ·rw [bareN_zero h0]; simp [mz,h0]
 ·rw [bareN_pos h0]
  obtain ⟨m,hm⟩:=lo_spec h0
  unfold mz
  simp only
  rw [cutN_in he]
  generalize hl:lo d.m=l at *
  have e1:(d.e+(l:Int)+K).toNat=l+(d.e+K).toNat:=by omega
  rw [e1,Nat.pow_add,← Nat.mul_assoc,hm,Nat.mul_div_cancel_left _ (Nat.two_pow_pos _),Nat.mul_comm (2 * m+1)]
theorem zv_bareN {K:Int} {d:Dn} (hK:0≤K) (h:-K≤d.e) (he:-2147483648≤d.e∧d.e≤2147483648):zv K (bareN d)=zv K d:=by
 unfold zv
 rw [mz_bareN hK h he]
 by_cases h0:d.m=0
 ·have:mz K d=0:=by simp [mz,h0]
  rw [this]; simp
 ·rw [bareN_pos h0]
theorem bareN_low {K:Int} {d:Dn} (hK:0≤K) (h:-K≤d.e) (he:-2147483648≤d.e∧d.e≤2147483648):-K≤(bareN d).e:=by
 by_cases h0:d.m=0
 ·rw [bareN_zero h0]; simp; omega
 ·rw [bareN_pos h0]; simp only; rw [cutN_in he]; omega
theorem bl_mul_pow {m:Nat} (h:m ≠ 0) (k:Nat):bl (m * 2^k)=bl m+k:=by
 have h1:2^k≤m * 2^k:=Nat.le_mul_of_pos_left _ (by omega)
 rw [bl_shift k _ h1,Nat.mul_div_cancel _ (Nat.two_pow_pos _)]; omega
theorem bl_lt_lt {m n:Nat} (h:bl m < bl n):m < n:=by
 apply Nat.lt_of_not_le; intro hl; have:=bl_mono hl; omega
theorem cmpN_ltz {m n:Nat} (h:m < n):cmpN m n=-1:=by unfold cmpN; rw [if_pos h]
theorem cmpN_gtz {m n:Nat} (h:n < m):cmpN m n=1:=by unfold cmpN; rw [if_neg (by omega),if_pos h]
theorem cmpN_eqz {m:Nat}:cmpN m m=0:=by unfold cmpN; rw [if_neg (by omega),if_neg (by omega)]
theorem cmpN_mul {m n:Nat} (k:Nat):cmpN (m * 2^k) (n * 2^k)=cmpN m n:=by
 rcases Nat.lt_trichotomy m n with h | h | h
 ·rw [cmpN_ltz h,cmpN_ltz (Nat.mul_lt_mul_of_pos_right h (Nat.two_pow_pos _))]
 ·subst h; rw [cmpN_eqz,cmpN_eqz]
 ·rw [cmpN_gtz h,cmpN_gtz (Nat.mul_lt_mul_of_pos_right h (Nat.two_pow_pos _))]
theorem sizeB_is {K:Int} {A B:Dn} (hA:A.m ≠ 0) (hB:B.m ≠ 0) (ha:-K≤A.e) (hb:-K≤B.e):sizeB A B=cmpN (mz K A) (mz K B):=by
 unfold sizeB mz
 by_cases h:(bl A.m:Int)+A.e=(bl B.m:Int)+B.e
 ·rw [if_pos h]
  unfold widN
  rcases Int.lt_trichotomy ((bl A.m:Int) - bl B.m) 0 with hn | hn | hn
  ·rw [if_neg (by omega),if_pos (by omega)]
   have e1:(A.e+K).toNat=(-((bl A.m:Int) - bl B.m)).toNat+(B.e+K).toNat:=by omega
   rw [e1,Nat.pow_add,← Nat.mul_assoc,cmpN_mul]
  ·rw [if_pos (by omega),if_pos (by omega)]
   have e1:A.e=B.e:=by omega
   rw [e1,cmpN_mul]
  ·rw [if_pos (by omega),if_neg (by omega)]
   have e1:(B.e+K).toNat=((bl A.m:Int) - bl B.m).toNat+(A.e+K).toNat:=by omega
   rw [e1,Nat.pow_add,← Nat.mul_assoc,cmpN_mul]
 ·rw [if_neg h]
  unfold cmpI
  have b1:=bl_mul_pow hA (A.e+K).toNat
  have b2:=bl_mul_pow hB (B.e+K).toNat
  by_cases h1:(bl A.m:Int)+A.e < (bl B.m:Int)+B.e
  ·rw [if_pos h1,cmpN_ltz (bl_lt_lt (by omega))]
  ·rw [if_neg h1,if_pos (by omega),cmpN_gtz (bl_lt_lt (by omega))]
theorem mz_zero {K:Int} {d:Dn}:mz K d=0 ↔ d.m=0:=by
 unfold mz
 rw [Nat.mul_eq_zero]
 have:=Nat.two_pow_pos (d.e+K).toNat
 omega
theorem cmpI_ltz {x y:Int} (h:x < y):cmpI x y=-1:=by unfold cmpI; rw [if_pos h]
theorem cmpI_gtz {x y:Int} (h:y < x):cmpI x y=1:=by unfold cmpI; rw [if_neg (by omega),if_pos h]
theorem signN_is {K:Int} (d:Dn):signN d=cmpI (zv K d) 0:=by
 unfold signN zv
 by_cases h:d.m=0
 ·rw [if_pos h,mz_zero.2 h]; simp [cmpI]
 ·have:0 < mz K d:=Nat.pos_of_ne_zero (fun h'=>h (mz_zero.1 h'))
  rw [if_neg h]
  cases d.neg
  ·simp only [Bool.false_eq_true,if_false]; rw [cmpI_gtz (by omega)]
  ·simp only [if_true]; rw [cmpI_ltz (by omega)]
theorem CmpD_is {K:Int} {a b:Dn} (hK:0≤K) (ha:-K≤a.e) (hb:-K≤b.e) (ha2:-2147483648≤a.e∧a.e≤2147483648) (hb2:-2147483648≤b.e∧b.e≤2147483648):CmpD a b=cmpI (zv K a) (zv K b):=by
 unfold CmpD
 by_cases h:signN a ≠ signN b ∨ signN a=0
 ·rw [if_pos h,signN_is (K:=K) a,signN_is (K:=K) b]
  rw [signN_is (K:=K) a,signN_is (K:=K) b] at h
  generalize zv K a=x at *
  generalize zv K b=y at *
  unfold cmpI at *
  repeat' split
  all_goals first | rfl | omega | (exfalso; repeat' split at h) <;> omega
 ·rw [if_neg h]
  have h1:signN a=signN b:=by apply Classical.byContradiction; intro h2; exact h (Or.inl h2)
  have h2:signN a ≠ 0:=fun h2=>h (Or.inr h2)
  have ma:a.m ≠ 0:=fun h3=>h2 (by unfold signN; rw [if_pos h3])
  have mb:b.m ≠ 0:=fun h3=>h2 (by rw [h1]; unfold signN; rw [if_pos h3])
  unfold sizeN
  rw [sizeB_is (K:=K) (fun h=>ma (bareN_m0.1 h)) (fun h=>mb (bareN_m0.1 h)) (bareN_low hK ha ha2) (bareN_low hK hb hb2),mz_bareN hK ha ha2,mz_bareN hK hb hb2]
  unfold signN at *
  rw [if_neg ma] at h1 ⊢
  rw [if_neg mb] at h1
  unfold zv
  generalize mz K a=x at *
  generalize mz K b=y at *
  unfold cmpN cmpI
  cases hna:a.neg <;> cases hnb:b.neg <;> simp [hna,hnb] at h1 ⊢ <;> (repeat' split) <;> omega
end Go.Proofs.YtobpioceopfkpaaGreatDoor
