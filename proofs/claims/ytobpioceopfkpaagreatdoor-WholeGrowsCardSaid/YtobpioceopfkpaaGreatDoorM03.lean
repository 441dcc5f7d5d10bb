/-
  Lemmas for WholeTurned and WholeGrows and WholeRises, part 3 of 36: what the program's functions do, and plain facts; without conditions.
-/
import Derived.Test.YtobpioceopfkpaaGreatDoorM02
import Derived.Test.YtobpioceopfkpaaGreatDoorM01
import Derived.RangeFuncNested
import Derived.RangeFuncBound
import Derived.RangeFuncCalls
import Derived.RangeFuncLeaves
import Derived.RangeFuncBox
import Derived.Shelf.Abstract
import Derived.Shelf.RegionOpen
import Derived.OwnWalkIn
import Derived.TacticsInMore
import Derived.LoopNIn
import Derived.LoopIn
import Derived.Deep.DeepCutAuto
import Derived.Deep.CutRange
import Derived.Deep.RegionWith
import Derived.Deep.RegionHeld3
set_option maxRecDepth 100000
set_option maxHeartbeats 4000000
namespace Go.Proofs.YtobpioceopfkpaaGreatDoor
open Go.RowKit
def Kp (w w':World):Prop:=∀ b o k z,(k=.u8 ∨ k=.u64)→w.cell? ⟨b,o,none⟩=some (.int k z)→w'.cell? ⟨b,o,none⟩=some (.int k z)
theorem Kp.refl (w:World):Kp w w:=fun _ _ _ _ _ h=>h
theorem Kp.trans {a b c:World} (h:Kp a b) (k:Kp b c):Kp a c:=fun p o q z hq hc=>k p o q z hq (h p o q z hq hc)
theorem Kp.below {w w':World} (hb:Below w.heap.size w w'):Kp w w':=fun _ _ _ _ _ hc=>cell_below hb (Nat.le_refl _) hc
theorem Kp.alloc (w:World) (o:Obj):Kp w (w.alloc o):=fun _ _ _ _ _ hc=>(World.cell?_alloc_lt w o _ (cell_lt hc)).trans hc
theorem Kp.drewN (w:World) (n:Nat):Kp w (w.drewN n):=fun _ _ _ _ _ hc=>hc
theorem Kp.drew (w:World):Kp w w.drew:=fun _ _ _ _ _ hc=>hc
theorem Tab.kp {w w':World} (h:Tab w) (K:Kp w w'):Tab w':=fun j hj=>K _ _ _ _ (.inl rfl) (h j hj)
theorem Raw.kp {w w':World} {v:Value} {L:List Nat} (h:Raw w v L) (K:Kp w w'):Raw w' v L:=by
 refine ⟨h.tab.kp K,?_,h.digs,h.cap⟩
 obtain ⟨a,c,rfl,hc⟩:=h.sl
 refine ⟨a,c,rfl,fun hl=>?_⟩
 obtain ⟨b,off,rfl,hc2⟩:=hc hl
 refine ⟨b,off,rfl,fun i y hy=>?_⟩
 have h1:=hc2 i y hy
 rw [dvl,List.getElem?_map] at hy
 obtain ⟨d,_,rfl⟩:=Option.map_eq_some_iff.1 hy
 exact K _ _ _ _ (.inr rfl) h1
theorem Dg.kp {w w':World} {v:Value} {n:Nat} (h:Dg w v n) (K:Kp w w'):Dg w' v n:=by
 obtain ⟨L,h1,h2⟩:=h; exact ⟨L,h1.kp K,h2⟩
def Nl (u:Value):Prop:=∀ z,u ≠ .int .u8 z∧u ≠ .int .u64 z
theorem Nl.bool (b:Bool):Nl (.bool b):=fun _=>⟨nofun,nofun⟩
theorem Nl.i64 (z:Int):Nl (.int .i64 z):=fun _=>⟨nofun,nofun⟩
theorem Nl.sl (a:Option Addr) (n c:Nat):Nl (.slice a n c):=fun _=>⟨nofun,nofun⟩
theorem Raw.nl {w:World} {v:Value} {L:List Nat} (h:Raw w v L):Nl v:=by
 obtain ⟨a,c,rfl,_⟩:=h.sl
 exact Nl.sl _ _ _
theorem Dg.nl {w:World} {v:Value} {n:Nat} (h:Dg w v n):Nl v:=by
 obtain ⟨L,h1,_⟩:=h; exact h1.nl
theorem Kp.set {w:World} {g i:Nat} {t:TypeId} {cs:Array Value} {x:Value} (h:Blk w g t cs) (hx:cs[i]?=some x) (hn:Nl x) (u:Value):Kp w (w.setCell ⟨g,i,none⟩ u):=by
 intro b o k z hk hc
 rw [World.cell?_setCell_other]
 ·exact hc
 ·intro he
  injection he with e1 e2
  subst e1 e2
  have:=h.at i x hx
  rw [hc] at this
  have hz:=Option.some.inj this
  rcases hk with rfl | rfl
  ·exact (hn z).1 hz.symm
  ·exact (hn z).2 hz.symm
structure Fr (w0 w:World) (bs:List (TypeId × Array Value)):Prop where
 b:Below w0.heap.size w0 w
 box:∀ i t cs,bs[i]?=some (t,cs)→Blk w (w0.heap.size+i) t cs
 sz:w0.heap.size+bs.length≤w.heap.size
theorem Fr.nil (w:World):Fr w w []:=⟨Below.refl _ _,fun i t cs h=>by simp at h,Nat.le_refl _⟩
theorem Fr.fresh {w0 w:World} {bs:List (TypeId × Array Value)} (h:Fr w0 w bs) (hs:w.heap.size=w0.heap.size+bs.length) (t:TypeId) (cs:Array Value) :
  Fr w0 (w.alloc (.cells cs t)) (bs ++ [(t,cs)])∧(w.alloc (.cells cs t)).heap.size=w0.heap.size+(bs ++ [(t,cs)]).length:=by
 have h2:(w.alloc (.cells cs t)).heap.size=w0.heap.size+(bs ++ [(t,cs)]).length:=by simp [hs]; omega
 refine ⟨⟨h.b.alloc h.b.size _,?_,by rw [h2]; exact Nat.le_refl _⟩,h2⟩
 intro i t' cs' hi
 by_cases hl:i < bs.length
 ·rw [List.getElem?_append_left hl] at hi
  exact (h.box i t' cs' hi).alloc _
 ·rw [List.getElem?_append_right (by omega)] at hi
  obtain rfl:i=bs.length:=by
   have:=(List.getElem?_eq_some_iff.1 hi).1
   simp at this; omega
  simp at hi
  obtain ⟨rfl,rfl⟩:=hi
  rw [← hs]
  exact Blk.new w _ _
theorem Fr.one (w:World) (t:TypeId) (cs:Array Value):Fr w (w.alloc (.cells cs t)) [(t,cs)]:=((Fr.nil w).fresh rfl t cs).1
theorem Fr.two (w:World) (t:TypeId) (cs:Array Value) (t':TypeId) (cs':Array Value):Fr w ((w.alloc (.cells cs t)).alloc (.cells cs' t')) [(t,cs),(t',cs')]:=by
 obtain ⟨a,b⟩:=(Fr.nil w).fresh rfl t cs
 exact (a.fresh b t' cs').1
theorem Fr.three (w:World) (t:TypeId) (cs:Array Value) (t':TypeId) (cs':Array Value) (t'':TypeId) (cs'':Array Value):Fr w (((w.alloc (.cells cs t)).alloc (.cells cs' t')).alloc (.cells cs'' t'')) [(t,cs),(t',cs'),(t'',cs'')]:=by
 obtain ⟨a,b⟩:=(Fr.nil w).fresh rfl t cs
 obtain ⟨c,d⟩:=a.fresh b t' cs'
 exact (c.fresh d t'' cs'').1
theorem Fr.call {w0 w w':World} {bs:List (TypeId × Array Value)} (h:Fr w0 w bs) (hb:Below w.heap.size w w'):Fr w0 w' bs :=
 ⟨h.b.trans (hb.mono h.b.size),fun i t cs hi=>(h.box i t cs hi).below hb,Nat.le_trans h.sz hb.size⟩
theorem Fr.alloc {w0 w:World} {bs:List (TypeId × Array Value)} (h:Fr w0 w bs) (o:Obj):Fr w0 (w.alloc o) bs :=
 ⟨h.b.alloc h.b.size _,fun i t cs hi=>(h.box i t cs hi).alloc _,by have:=h.sz; simp; omega⟩
theorem Fr.drewN {w0 w:World} {bs:List (TypeId × Array Value)} (h:Fr w0 w bs) (n:Nat):Fr w0 (w.drewN n) bs:=⟨below_drewN' h.b n,h.box,h.sz⟩
theorem Fr.drew {w0 w:World} {bs:List (TypeId × Array Value)} (h:Fr w0 w bs):Fr w0 w.drew bs:=h.drewN 1
theorem Fr.drewE {w0 w w':World} {bs:List (TypeId × Array Value)} (h:Fr w0 w bs) (e:w'=w.drew):Fr w0 w' bs:=e ▸ h.drew
theorem Kp.drewE {w w':World} (e:w'=w.drew):Kp w w':=e ▸ Kp.drew w
theorem Fr.set {w0 w:World} {bs:List (TypeId × Array Value)} (h:Fr w0 w bs) (i j:Nat) {t:TypeId} {cs:Array Value} (hi:bs[i]?=some (t,cs)) (u:Value) :
  Fr w0 (w.setCell ⟨w0.heap.size+i,j,none⟩ u) (bs.set i (t,cs.setIfInBounds j u)):=by
 refine ⟨h.b.setCell (Nat.le_add_right _ _) _,?_,by simpa using h.sz⟩
 intro k t' cs' hk
 by_cases hik:k=i
 ·subst hik
  rw [List.getElem?_set_self (List.getElem?_eq_some_iff.1 hi).1] at hk
  simp at hk
  obtain ⟨rfl,rfl⟩:=hk
  exact (h.box k t cs hi).set j u
 ·rw [List.getElem?_set_ne (Ne.symm hik)] at hk
  exact (h.box k t' cs' hk).far (by simp; omega) u
theorem Fr.set3 {w0 w:World} {bs:List (TypeId × Array Value)} (h:Fr w0 w bs) (i:Nat) {t:TypeId} {x y z:Value} (hi:bs[i]?=some (t,#[x,y,z])) (hn:Nl x∧Nl y∧Nl z) (a b c:Value) :
  Fr w0 (((w.setCell ⟨w0.heap.size+i,0,none⟩ a).setCell ⟨w0.heap.size+i,1,none⟩ b).setCell ⟨w0.heap.size+i,2,none⟩ c) (bs.set i (t,#[a,b,c])) ∧
  Kp w (((w.setCell ⟨w0.heap.size+i,0,none⟩ a).setCell ⟨w0.heap.size+i,1,none⟩ b).setCell ⟨w0.heap.size+i,2,none⟩ c):=by
 have hl:=(List.getElem?_eq_some_iff.1 hi).1
 have h1:=h.set i 0 hi a
 have h2:=h1.set i 1 (by rw [List.getElem?_set_self hl]) b
 have h3:=h2.set i 2 (by rw [List.getElem?_set_self (by simpa using hl)]) c
 rw [List.set_set,List.set_set] at h3
 refine ⟨h3,((Kp.set (i:=0) (x:=x) (h.box i _ _ hi) rfl hn.1 a).trans ?_)⟩
 have k1:=h1.box i _ _ (by rw [List.getElem?_set_self hl])
 have k2:=h2.box i _ _ (by rw [List.getElem?_set_self (by simpa using hl)])
 exact (Kp.set (i:=1) (x:=y) k1 rfl hn.2.1 b).trans (Kp.set (i:=2) (x:=z) k2 rfl hn.2.2 c)
theorem Fr.st {w0 w:World} {bs:List (TypeId × Array Value)} (h:Fr w0 w bs) (i:Nat) {t:TypeId} {x:Bool} {ya:Option Addr} {yn yc:Nat} {z:Int} (hi:bs[i]?=some (t,#[.bool x,.slice ya yn yc,.int .i64 z])) (a b c:Value) :
  Fr w0 (((w.setCell ⟨w0.heap.size+i,0,none⟩ a).setCell ⟨w0.heap.size+i,1,none⟩ b).setCell ⟨w0.heap.size+i,2,none⟩ c) (bs.set i (t,#[a,b,c])) ∧
  Kp w (((w.setCell ⟨w0.heap.size+i,0,none⟩ a).setCell ⟨w0.heap.size+i,1,none⟩ b).setCell ⟨w0.heap.size+i,2,none⟩ c):=h.set3 i hi ⟨Nl.bool _,Nl.sl _ _ _,Nl.i64 _⟩ a b c
theorem Fr.c3 {w0 w:World} {bs:List (TypeId × Array Value)} (h:Fr w0 w bs) (i:Nat) {t:TypeId} {x y z:Value} (hi:bs[i]?=some (t,#[x,y,z])) :
  (w.cell? ⟨w0.heap.size+i,0,none⟩=some x∧w.cell? ⟨w0.heap.size+i,1,none⟩=some y∧w.cell? ⟨w0.heap.size+i,2,none⟩=some z) ∧
  w.frozen? ⟨w0.heap.size+i,0,none⟩=false∧w.frozen? ⟨w0.heap.size+i,1,none⟩=false∧w.frozen? ⟨w0.heap.size+i,2,none⟩=false:=by
 have k:=h.box i _ _ hi
 exact ⟨⟨k.at 0 x rfl,k.at 1 y rfl,k.at 2 z rfl⟩,k.frozen 0,k.frozen 1,k.frozen 2⟩
theorem Fr.z3 {w0 w:World} {bs:List (TypeId × Array Value)} (h:Fr w0 w bs) {t:TypeId} {x y z:Value} (hi:bs[0]?=some (t,#[x,y,z])) :
  (w.cell? ⟨w0.heap.size,0,none⟩=some x∧w.cell? ⟨w0.heap.size,1,none⟩=some y∧w.cell? ⟨w0.heap.size,2,none⟩=some z) ∧
  w.frozen? ⟨w0.heap.size,0,none⟩=false∧w.frozen? ⟨w0.heap.size,1,none⟩=false∧w.frozen? ⟨w0.heap.size,2,none⟩=false:=h.c3 0 hi
end Go.Proofs.YtobpioceopfkpaaGreatDoor
namespace Go.Proofs.YtobpioceopfkpaaGreatDoor
open Go.RowKit Go.Shelf
attribute [local go_sem] Oper.semAt_some
def dn (N k:Nat):List { i:Nat // i < N }:=if h:0 < N then (List.range k).map fun j=>⟨N - 1 - j,by omega⟩ else []
theorem dn_succ {N k:Nat} (h:0 < N):dn N (k+1)=dn N k ++ [⟨N - 1 - k,by omega⟩]:=by unfold dn; rw [dif_pos h,dif_pos h,List.range_succ,List.map_append]; rfl
theorem dn_length {N k:Nat} (h:0 < N):(dn N k).length=k:=by unfold dn; rw [dif_pos h]; simp
theorem dn_zero (N:Nat):dn N 0=[]:=by unfold dn; split <;> rfl
theorem dn_mem {N k:Nat} (h:0 < N) {i:Nat} (hi:i < N) (hk:N≤i+k):(⟨i,hi⟩:{ i:Nat // i < N }) ∈ dn N k:=by
 unfold dn; rw [dif_pos h]
 exact List.mem_map.2 ⟨N - 1 - i,List.mem_range.2 (by omega),by congr 1; omega⟩
abbrev encI (L:List Nat) (x:{ i:Nat // i < L.length }):Array Value:=#[.int .i64 ((x.1:Nat):Int),.int .u64 ((dg L x.1:Nat):Int)]
theorem back1_in (F:Fence) (n:Nat) (hf:F.fn 146) (hro:F.round=none) (hn:1≤n) (l Bs n₀ b off cap:Nat) (L:List Nat) (hL0:0 < L.length) (hreach:L.length≤1000000) (hb:b < n₀) (J Jx:List { i:Nat // i < L.length }→World→Prop)
  (hY:∀ pre x W,J pre W→pre.length < L.length→YieldAt F (n - 1) Tryz.prog l (encI L x) W fun e W' =>
   (e=.returned (.bool true)∧J (pre ++ [x]) W'∧Below n₀ W W') ∨ (e=.returned (.bool false)∧Jx (pre ++ [x]) W'))
  (W:World) (hBn:Bs < n₀) (hBs:W.cell? ⟨Bs,0,none⟩=some (.slice (some ⟨b,off,none⟩) L.length cap)) (hc:∀ (j x:Nat),L[j]?=some x→W.cell? ⟨b,off+j,none⟩=some (.int .u64 (x:Int))) (h0:J [] W) :
  CallsIn F n Tryz.prog 146 #[.func (.yield l) #[] #[],.pointer (some ⟨Bs,0,none⟩)] W fun e W'=>(∃ v,e=.returned v) ∧
   ((∃ ys,ys=dn L.length L.length∧J ys W') ∨ (∃ pre,(∃ k,k≤L.length∧pre=dn L.length k)∧Jx pre W')):=by
 refine callsIn_of_wp Tryz.func146 rfl hf ?_ hro
 simp only [Tryz.ntmps146,List.size_toArray,List.length_cons,List.length_nil,Nat.reduceAdd,Nat.reduceSub,Array.replicate_succ,Array.replicate_zero,List.push_toArray,List.append_toArray,List.nil_append,List.cons_append]
 gi_wp2
 gi_loopw [3] (fun i wr=>∃ k:Nat,k≤L.length∧i=.int .i64 ((L.length:Int) - 1 - k)∧J (dn L.length k) wr∧Below n₀ W wr)
  (fun i _=>(intOf i+1).toNat)
 case atStart=>exact ⟨0,Nat.zero_le _,by simp,by rw [dn_zero]; exact h0,Below.refl _ _⟩
 case round =>
  obtain ⟨k,hk,rfl,hJs,hnx⟩:=hrel
  by_cases hlt:k < L.length
  ·obtain ⟨j,hj⟩:∃ j,j=L.length - 1 - k:=⟨_,rfl⟩
   have hji:(L.length:Int) - 1 - k=j:=by omega
   rw [hji]
   have hjl:j < L.length:=by omega
   have hcx:wr.cell? ⟨b,off+j,none⟩=some (.int .u64 (dg L j:Nat)):=(hnx.cell (p:=⟨b,off+j,none⟩) hb).trans (hc j _ (dg_get (by omega)))
   have hbx:wr.cell? ⟨Bs,0,none⟩=some (.slice (some ⟨b,off,none⟩) L.length cap):=(hnx.cell (p:=⟨Bs,0,none⟩) hBn).trans hBs
   obtain ⟨fn,tmps,assign,body,hy,hR⟩:=hY _ ⟨j,hjl⟩ wr hJs (by rw [dn_length hL0]; exact hlt)
   (try dsimp only [encI] at hy)
   have HS:Hid (dn L.length (k+1)=dn L.length k ++ [⟨j,hjl⟩]):=by
    have:=dn_succ (k:=k) hL0
    rw [Hid,this]
    congr 3
    exact hj.symm
   clear hj
   gi_wp2
   refine hR.mono ?_
   rintro e W3 (⟨rfl,hJ3,hk3⟩ | ⟨rfl,hJx3⟩)
   ·gi_wp2
    go_roundw
    case rel=>exact ⟨k+1,by omega,by first | rfl | (congr 1 <;> omega) | skip,HS.out ▸ hJ3,hnx.trans hk3⟩
    case measure=>simp [intOf] <;> omega
   ·gi_wp2
    refine bodyPost_ret (results_none rfl _ _ _) rfl ?_
    exact ⟨⟨_,rfl⟩,.inr ⟨_,⟨k+1,by omega,HS.out.symm⟩,hJx3⟩⟩
  ·obtain rfl:k=L.length:=by omega
   rw [show (L.length:Int) - 1 - L.length=-1 by omega]
   gi_wp2
   go_end0
   exact ⟨⟨_,rfl⟩,.inl ⟨_,rfl,hJs⟩⟩
theorem back0_in (F:Fence) (n:Nat) (hf:F.fn 146) (hro:F.round=none) (l Bs cap:Nat) (a:Option Addr) (J:List { i:Nat // i < ([]:List Nat).length }→World→Prop)
  (W:World) (hBs:W.cell? ⟨Bs,0,none⟩=some (.slice a 0 cap)) (h0:J [] W) :
  CallsIn F n Tryz.prog 146 #[.func (.yield l) #[] #[],.pointer (some ⟨Bs,0,none⟩)] W fun e W'=>(∃ v,e=.returned v)∧J [] W':=by
 refine callsIn_of_wp Tryz.func146 rfl hf ?_ hro
 simp only [Tryz.ntmps146,List.size_toArray,List.length_cons,List.length_nil,Nat.reduceAdd,Nat.reduceSub,Array.replicate_succ,Array.replicate_zero,List.push_toArray,List.append_toArray,List.nil_append,List.cons_append]
 gi_wp2
 gi_loopw [3] (fun i wr=>i=.int .i64 (-1)∧J [] wr) (fun _ _=>0)
 case atStart=>exact ⟨rfl,h0⟩
 case round =>
  obtain ⟨rfl,hJs⟩:=hrel
  gi_wp2
  go_end0
  exact ⟨⟨_,rfl⟩,hJs⟩
theorem back_stops (F:Fence) (n:Nat) (hf:F.fn 146) (hro:F.round=none) (hn:1≤n) (Bs n₀ cap:Nat) (a:Option Addr) (L:List Nat) (hreach:L.length≤1000000) (w:World) (hBs:Bs < n₀) (hn₀:n₀≤w.heap.size)
  (hc:w.cell? ⟨Bs,0,none⟩=some (.slice a L.length cap)) (hd:0 < L.length→∃ b off,a=some ⟨b,off,none⟩∧∀ (j x:Nat),L[j]?=some x→w.cell? ⟨b,off+j,none⟩=some (.int .u64 (x:Int))) :
  SeqStopsK F n Tryz.prog 146 #[.pointer (some ⟨Bs,0,none⟩)] (encI L) (Below w.heap.size) (fun ys=>ys=dn L.length L.length) (fun pre=>∃ k,k≤L.length∧pre=dn L.length k) L.length w:=fun l J Jx W hW _ _ hY h0=>by
 rcases Nat.eq_zero_or_pos L.length with hz | hp
 ·obtain rfl:L=[]:=List.eq_nil_of_length_eq_zero hz
  refine (back0_in F n hf hro l Bs cap a J W ((hW.cell (p:=⟨Bs,0,none⟩) (Nat.lt_of_lt_of_le hBs hn₀)).trans hc) h0).mono ?_
  rintro e W' ⟨h1,h2⟩
  exact ⟨h1,.inl ⟨_,rfl,h2⟩⟩
 ·obtain ⟨b,off,rfl,hd2⟩:=hd hp
  have hbl:b < w.heap.size:=cell_lt (hd2 0 _ (dg_get hp))
  exact back1_in F n hf hro hn l Bs w.heap.size b off cap L hp hreach hbl J Jx hY W (Nat.lt_of_lt_of_le hBs hn₀) ((hW.cell (p:=⟨Bs,0,none⟩) (Nat.lt_of_lt_of_le hBs hn₀)).trans hc) (fun j x hx=>(hW.cell (p:=⟨b,off+j,none⟩) (cell_lt (hd2 j x hx))).trans (hd2 j x hx)) h0
theorem backward_any (a:Option Addr) (len cap:Nat) (w:World) :
  Calls Tryz.prog 111 #[.slice a len cap] w fun e w'=>e=.returned (.func (.func 146) #[] #[.pointer (some ⟨w.heap.size,0,none⟩)])∧w'=w.alloc (.cells #[.slice a len cap] 40):=by
 go_enter Tryz.func111,Tryz.ntmps111
 go_wp2
 go_ret
 exact ⟨rfl,rfl⟩
theorem Dg.form {w:World} {v:Value} {n:Nat} (h:Dg w v n):∃ a k c,v=.slice a k c:=by
 obtain ⟨L,h1,_⟩:=h
 obtain ⟨a,c,rfl,_⟩:=h1.sl
 exact ⟨_,_,_,rfl⟩
theorem Raw.drew {w:World} {v:Value} {L:List Nat} (h:Raw w v L):Raw w.drew v L:=⟨h.tab,h.sl,h.digs,h.cap⟩
theorem Dg.drew {w:World} {v:Value} {n:Nat} (h:Dg w v n):Dg w.drew v n:=by obtain ⟨L,h1,h2⟩:=h; exact ⟨L,h1.drew,h2⟩
theorem Can.len_le {A L:List Nat} (h:Can A (ofd L)) (d:Digs L):A.length≤L.length:=by
 apply Nat.le_of_not_lt; intro hlt
 have h1:=h.top (by intro he; subst he; simp at hlt)
 have h2:=ofd_lt d
 have h3:=pow_mono (show L.length≤A.length - 1 by omega)
 exact Nat.lt_irrefl _ (Nat.lt_of_lt_of_le h2 (Nat.le_trans h3 h1))
structure CmpM (x y:Value) (w wr:World):Prop where
 x:Blk wr w.heap.size 40 #[x]
 y:Blk wr (w.heap.size+1) 40 #[y]
 r:Blk wr (w.heap.size+2) 3 #[.int .i64 0]
 b:Below w.heap.size w wr
theorem CmpM.below {x y:Value} {w wr w':World} (h:CmpM x y w wr) (hb:Below wr.heap.size wr w'):CmpM x y w w':=⟨h.x.below hb,h.y.below hb,h.r.below hb,h.b.trans (hb.mono h.b.size)⟩
theorem CmpM.alloc {x y:Value} {w wr:World} (h:CmpM x y w wr) (o:Obj):CmpM x y w (wr.alloc o):=⟨h.x.alloc o,h.y.alloc o,h.r.alloc o,h.b.alloc h.b.size o⟩
theorem CmpM.drew {x y:Value} {w wr:World} (h:CmpM x y w wr):CmpM x y w wr.drew:=⟨h.x,h.y,h.r,below_drewN' h.b 1⟩
theorem CmpM.start (x y:Value) (w:World):CmpM x y w (((w.alloc (.cells #[x] 40)).alloc (.cells #[y] 40)).alloc (.cells #[.int .i64 0] 3)):=by
 refine ⟨((Blk.new w 40 _).alloc _).alloc _,?_,?_,(((Below.refl _ _).alloc (Nat.le_refl _) _).alloc (by simp) _).alloc (by simp; omega) _⟩
 ·have:=Blk.new (w.alloc (.cells #[x] 40)) 40 #[y]
  rw [show (w.alloc (.cells #[x] 40)).heap.size=w.heap.size+1 by simp] at this
  exact this.alloc _
 ·have:=Blk.new ((w.alloc (.cells #[x] 40)).alloc (.cells #[y] 40)) 3 #[.int .i64 0]
  rwa [show ((w.alloc (.cells #[x] 40)).alloc (.cells #[y] 40)).heap.size=w.heap.size+2 by simp] at this
theorem CmpM.cells {x y:Value} {w wr:World} (h:CmpM x y w wr):wr.cell? ⟨w.heap.size,0,none⟩=some x∧wr.cell? ⟨w.heap.size+1,0,none⟩=some y∧wr.cell? ⟨w.heap.size+2,0,none⟩=some (.int .i64 0) ∧
  wr.frozen? ⟨w.heap.size,0,none⟩=false∧wr.frozen? ⟨w.heap.size+1,0,none⟩=false∧wr.frozen? ⟨w.heap.size+2,0,none⟩=false :=
 ⟨h.x.at 0 x rfl,h.y.at 0 y rfl,h.r.at 0 (.int .i64 0) rfl,h.x.frozen 0,h.y.frozen 0,h.r.frozen 0⟩
theorem CmpM.set {x y x' y':Value} {w wr:World} (h:CmpM x y w wr):CmpM x' y' w ((wr.setCell ⟨w.heap.size,0,none⟩ x').setCell ⟨w.heap.size+1,0,none⟩ y') :=
 ⟨(h.x.set 0 x').far (by simp) _,(h.y.far (by simp) _).set 0 y',(h.r.far (by simp) _).far (by simp) _,(h.b.setCell (Nat.le_refl _) _).setCell (Nat.le_succ _) _⟩
theorem Tab.keep {w w':World} (h:Tab w) (hk:∀ p u,w.cell? p=some u→w'.cell? p=some u):Tab w':=fun j hj=>hk _ _ (h j hj)
theorem Raw.keep {w w':World} {v:Value} {L:List Nat} (h:Raw w v L) (hk:∀ p u,w.cell? p=some u→w'.cell? p=some u):Raw w' v L:=⟨h.tab.keep hk,h.sl.keep hk,h.digs,h.cap⟩
theorem Raw.set {w:World} {v:Value} {L:List Nat} {g:Nat} {u x:Value} {t:TypeId} (h:Raw w v L) (hg:Blk w g t #[x]) (hx:∀ k z,x=.int k z→k=.i64):Raw (w.setCell ⟨g,0,none⟩ u) v L:=by
 have key:∀ b o k z,(k=.u8 ∨ k=.u64)→w.cell? ⟨b,o,none⟩=some (.int k z)→(w.setCell ⟨g,0,none⟩ u).cell? ⟨b,o,none⟩=some (.int k z):=by
  intro b o k z hk hc
  rw [World.cell?_setCell_other]
  ·exact hc
  ·intro he
   injection he with e1 e2
   subst e1 e2
   have:=hg.at 0 x rfl
   rw [hc] at this
   have:=hx _ _ (Option.some.inj this).symm
   rcases hk with rfl | rfl <;> cases this
 refine ⟨fun j hj=>key _ _ _ _ (.inl rfl) (h.tab j hj),?_,h.digs,h.cap⟩
 obtain ⟨a,c,rfl,hc⟩:=h.sl
 refine ⟨a,c,rfl,fun hl=>?_⟩
 obtain ⟨b,off,rfl,hc2⟩:=hc hl
 refine ⟨b,off,rfl,fun i y hy=>?_⟩
 have h1:=hc2 i y hy
 rw [dvl,List.getElem?_map] at hy
 obtain ⟨d,_,rfl⟩:=Option.map_eq_some_iff.1 hy
 exact key _ _ _ _ (.inr rfl) h1
theorem Dg.set {w:World} {v:Value} {n:Nat} {g:Nat} {u x:Value} {t:TypeId} (h:Dg w v n) (hg:Blk w g t #[x]) (hx:∀ k z,x=.int k z→k=.i64):Dg (w.setCell ⟨g,0,none⟩ u) v n:=by
 obtain ⟨L,h1,h2⟩:=h; exact ⟨L,h1.set hg hx,h2⟩
theorem Dg.notint {w:World} {v:Value} {n:Nat} (h:Dg w v n):∀ k z,v=.int k z→k=.i64:=by
 obtain ⟨L,h1,_⟩:=h
 obtain ⟨a,c,rfl,_⟩:=h1.sl
 intro k z he; cases he
theorem Raw.notint {w:World} {v:Value} {L:List Nat} (h:Raw w v L):∀ k z,v=.int k z→k=.i64:=by
 obtain ⟨a,c,rfl,_⟩:=h.sl
 intro k z he; cases he
def CmpE (m n:Nat) (w wx:World):Prop:=∃ x y,CmpM x y w wx∧Dg wx x m∧Dg wx y n
theorem cmpE {m n:Nat} {u v x y:Value} {w V:World} (h:CmpM u v w V) (hu:∀ k z,u=.int k z→k=.i64) (hv:∀ k z,v=.int k z→k=.i64) (hx:Dg V x m) (hy:Dg V y n):Hid (CmpE m n w ((V.setCell ⟨w.heap.size,0,none⟩ x).setCell ⟨w.heap.size+1,0,none⟩ y)) :=
 ⟨x,y,h.set,(hx.set h.x hu).set (h.y.far (by simp) _) hv,(hy.set h.x hu).set (h.y.far (by simp) _) hv⟩
theorem drop_same {A B:List Nat} (hl:A.length=B.length) {i:Nat} (h:∀ j,i≤j→j < A.length→dg A j=dg B j):A.drop i=B.drop i:=by
 apply List.ext_getElem?
 intro j
 rw [List.getElem?_drop,List.getElem?_drop]
 by_cases hj:i+j < A.length
 ·rw [dg_get hj,dg_get (by omega),h _ (by omega) hj]
 ·rw [List.getElem?_eq_none (by omega),List.getElem?_eq_none (by omega)]
theorem cmp_done {A B:List Nat} {m n:Nat} (cA:Can A m) (cB:Can B n) (hl:A.length=B.length) (h:∀ p ∈ dn A.length A.length,dg A p.1=dg B p.1):cmpN m n=0:=by
 have:A.drop 0=B.drop 0:=drop_same hl fun j _ hj=>h ⟨j,hj⟩ (dn_mem (by omega) hj (by omega))
 rw [List.drop_zero,List.drop_zero] at this
 exact cmpN_eq (by rw [← cA.val,← cB.val,this])
theorem cmp_stop {A B:List Nat} {m n k:Nat} (cA:Can A m) (cB:Can B n) (hl:A.length=B.length) {ini:List { i:Nat // i < A.length }} {last:{ i:Nat // i < A.length }} (he:dn A.length k=ini ++ [last])
  (h:∀ p ∈ ini,dg A p.1=dg B p.1) (hne:dg A last.1 ≠ dg B last.1):cmpI (dg A last.1) (dg B last.1)=cmpN m n:=by
 have hp:0 < A.length:=Nat.lt_of_le_of_lt (Nat.zero_le _) last.2
 have hk:k=ini.length+1:=by
  have:=congrArg List.length he
  rw [dn_length hp,List.length_append] at this
  exact this
 rw [hk,dn_succ hp] at he
 obtain ⟨e1,e2⟩:=List.append_inj' he rfl
 have e3:last.1=A.length - 1 - ini.length:=by
  have:=List.head_eq_of_cons_eq e2
  rw [← this]
 have hd:A.drop (last.1+1)=B.drop (last.1+1):=drop_same hl fun j h1 h2=>h ⟨j,h2⟩ (by rw [← e1]; exact dn_mem hp h2 (by omega))
 have hd':ofd (A.drop (last.1+1))=ofd (B.drop (last.1+1)):=by rw [hd]
 rcases Nat.lt_or_gt_of_ne hne with hlt | hgt
 ·have:=cmp_step cA.digs hd' hlt
  rw [cA.val,cB.val] at this
  rw [cmpN_lt this,cmpI_lt (by omega)]
 ·have:=cmp_step cB.digs hd'.symm hgt
  rw [cA.val,cB.val] at this
  rw [cmpN_gt this,cmpI_gt (by omega)]
theorem cmpI_ne {x y:Nat} {c:Int} (h:c=cmpI (x:Int) (y:Int)) (hc:¬ c=0):x ≠ y:=by
 rintro rfl; exact hc (h.trans (cmpI_eq rfl))
theorem cmpI_same {x y:Nat} (h:0=cmpI (x:Int) (y:Int)):x=y:=by
 rcases Nat.lt_trichotomy x y with h1 | h1 | h1
 ·rw [cmpI_lt (by omega)] at h; omega
 ·exact h1
 ·rw [cmpI_gt (by omega)] at h; omega
end Go.Proofs.YtobpioceopfkpaaGreatDoor
