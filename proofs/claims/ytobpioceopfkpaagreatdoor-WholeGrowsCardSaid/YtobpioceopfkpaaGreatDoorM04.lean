/-
  Lemmas for WholeTurned and WholeGrows and WholeRises, part 4 of 36: what the program's functions do, and plain facts; without conditions.
-/
import Derived.RangeFuncNested
import Derived.RangeFuncBound
import Derived.RangeFuncCalls
import Derived.RangeFuncLeaves
import Derived.RangeFuncBox
import Derived.Shelf.Abstract
import Derived.Shelf.RegionOpen
import Derived.OwnWalkIn
import Derived.TacticsInMore
import Derived.LoopNIn
import Derived.LoopIn
import Derived.Deep.DeepCutAuto
import Derived.Deep.CutRange
import Derived.Deep.RegionWith
import Derived.Deep.RegionHeld3
import Derived.Test.YtobpioceopfkpaaGreatDoorM03
set_option maxRecDepth 100000
set_option maxHeartbeats 4000000
namespace Go.Proofs.YtobpioceopfkpaaGreatDoor
open Go.RowKit Go.Shelf
attribute [local go_sem] Oper.semAt_some
theorem cmp_any {L K:List Nat} {u v:Value} {w:World} (h:Raw w u L) (k:Raw w v K) (hl:L.length≤100000) (kl:K.length≤100000) :
  Calls Tryz.prog 73 #[u,v] w fun e w'=>e=.returned (.int .i64 (cmpN (ofd L) (ofd K)))∧Below w.heap.size w w':=by
 have HM:=h_ (CmpM.start u v w)
 have HU:=h_ h
 have HV:=h_ k
 have C1:Hid (∀ w',Raw w' u L→Calls Tryz.prog 70 #[u] w' (RetDg (ofd L) w')):=fun w' h=>bare_any h (by omega)
 have C2:Hid (∀ w',Raw w' v K→Calls Tryz.prog 70 #[v] w' (RetDg (ofd K) w')):=fun w' h=>bare_any h (by omega)
 have LA:Hid (∀ A,Can A (ofd L)→A.length≤100000):=fun A hA=>Nat.le_trans (hA.len_le h.digs) hl
 have N1:=h_ h.notint
 have N2:=h_ k.notint
 obtain ⟨la,lc,rfl,-⟩:=h.sl.form
 obtain ⟨ka,kc,rfl,-⟩:=k.sl.form
 clear h k
 generalize ofd L=m at *
 generalize ofd K=n at *
 refine callsIn_wide.1 (callsIn_of_wp_marks (F:=Fence.wide) (n:=9) Tryz.func73 rfl trivial ?_ rfl)
 refine wpIn_wide.2 ?_
 simp only [Tryz.ntmps73,List.size_toArray,List.length_cons,List.length_nil,Nat.reduceAdd,Nat.reduceSub,Array.replicate_succ,Array.replicate_zero,List.push_toArray,List.append_toArray,List.nil_append,List.cons_append]
 go_upto_region 1 with (fail)
 generalize (World.alloc (World.alloc (World.alloc _ _) _) _)=w1 at HM ⊢
 have HR1:=h_ (HU.out.below HM.out.b)
 have HR2:=h_ (HV.out.below HM.out.b)
 go_cut [] from 8 to 11 (fun wx=>Hid (CmpE m n w wx))
 case first =>
  obtain ⟨x0,x1,x2,x3,x4,x5⟩:=HM.out.cells
  obtain ⟨y0,y1,y2,y3,y4,y5⟩:=HM.out.drew.cells
  have D0:=h_ HM.out.drew
  go_region_with (first | (have RR:=D1.out; go_at_call 70; (with_reducible refine (C2.out _ (Raw.below (Raw.drew HR2.out) S1.out)).mono ?_); rintro qq v2 ⟨u2,rfl,hu2,hb⟩; obtain ⟨a2,l2,c2,rfl⟩:=hu2.form; have D2:=h_ (RR.below hb); have G1:=h_ (Dg.below U1.out hb); have G2:=h_ hu2; obtain ⟨b0,b1,b2,b3,b4,b5⟩:=D2.out.cells; clear hb RR hu2) | (have RR:=D0.out; go_at_call 70; (with_reducible refine (C1.out _ (Raw.drew HR1.out)).mono ?_); rintro qq v1 ⟨u1,rfl,hu1,hb⟩; obtain ⟨p1,l1,c1,rfl⟩:=hu1.form; have D1:=h_ (RR.below hb); have U1:=h_ hu1; have S1:=h_ hb; obtain ⟨a0,a1,a2,a3,a4,a5⟩:=D1.out.cells; clear hb RR hu1))
  all_goals go_wp2_with fail
  all_goals go_meet
  all_goals exact cmpE D2.out N1.out N2.out G1.out G2.out
 case rest =>
  obtain ⟨x,y,hM,⟨A,hA,cA⟩,⟨B,hB,cB⟩⟩:=hcut.out
  rename_i wc
  obtain ⟨a1,c1,rfl,hcA⟩:=hA.sl.form
  obtain ⟨a2,c2,rfl,hcB⟩:=hB.sl.form
  have HM2:=h_ hM
  obtain ⟨x0,x1,x2,x3,x4,x5⟩:=hM.cells
  have HA:=h_ hA
  have HB:=h_ hB
  have CA:=h_ cA
  have CB:=h_ cB
  clear hcut hM hA hB cA cB HM HU HV C1 C2 N1 N2 HR1 HR2
  rcases Nat.lt_trichotomy A.length B.length with hlt | heq | hgt
  ·have hr:Hid (cmpN m n=-1):=cmpN_lt (CA.out.len_lt CB.out hlt)
   have hc:cmpI (A.length:Int) (B.length:Int)=-1:=cmpI_lt (by omega)
   go_wp2_with fail
   refine (cmp_int _ _ _).mono ?_
   rintro e w2 ⟨rfl,rfl⟩
   rw [hc]
   go_wp2
   have g0:(wc.setCell ⟨w.heap.size+1+1,0,none⟩ (.int .i64 (-1))).cell? ⟨w.heap.size+1+1,0,none⟩=some (.int .i64 (-1)):=(HM2.out.r.set 0 (.int .i64 (-1))).at 0 _ rfl
   exact ⟨.int .i64 (cmpN m n),by simp [results,Tryz.f73,go_sem,hr.out,g0],rfl,HM2.out.b.setCell (by simp; omega) _⟩
  ·have HEQ:=h_ heq
   have hal:=h_ (LA.out _ CA.out)
   rw [heq] at x0 HM2 HA hcA
   clear heq
   have hc:cmpI (B.length:Int) (B.length:Int)=0:=cmpI_eq rfl
   go_wp2_with fail
   refine (cmp_int _ _ _).mono ?_
   rintro e w2 ⟨rfl,rfl⟩
   rw [hc]
   go_wp2_with fail
   refine (backward_any _ _ _ _).mono ?_
   rintro e w2 ⟨rfl,rfl⟩
   go_wp2_with fail
   have BX:=Blk.new wc 40 #[.slice a1 B.length c1]
   have HM3:=h_ (HM2.out.alloc (.cells #[.slice a1 B.length c1] 40))
   have HA3:=h_ (HA.out.alloc (.cells #[.slice a1 B.length c1] 40))
   have HB3:=h_ (HB.out.alloc (.cells #[.slice a1 B.length c1] 40))
   have hw0:w.heap.size+2 < wc.heap.size:=HM2.out.r.lt
   have hbx:(wc.alloc (.cells #[.slice a1 B.length c1] 40)).cell? ⟨wc.heap.size,0,none⟩=some (.slice a1 A.length c1):=by rw [HEQ.out]; exact BX.at 0 _ rfl
   have hsz:(wc.alloc (.cells #[.slice a1 B.length c1] 40)).heap.size=wc.heap.size+1:=by simp
   have hda:0 < A.length→∃ b off,a1=some ⟨b,off,none⟩∧∀ (j x:Nat),A[j]?=some x→(wc.alloc (.cells #[.slice a1 B.length c1] 40)).cell? ⟨b,off+j,none⟩=some (.int .u64 (x:Int)):=by
    intro hp
    rw [HEQ.out] at hp
    obtain ⟨b,off,e,h⟩:=hcA hp
    exact ⟨b,off,e,fun j x hx=>keep_alloc _ _ _ (h j x hx)⟩
   generalize wc.alloc (.cells #[.slice a1 B.length c1] 40)=wd at *
   refine wpIn_wide.1 (wpIn_rangeFunc_ownF (F:=Fence.wide) (n:=9) rfl (by omega) (gf:=146) (lb:=#[.pointer (some ⟨wc.heap.size,0,none⟩)]) rfl trivial (enters_of Tryz.func146 (by kernel_rfl) rfl)
    (back_stops Fence.wide 8 trivial rfl (by omega) wc.heap.size wd.heap.size c1 a1 A (by have:=hal.out; omega) wd (by omega) (Nat.le_refl _) hbx hda) belowK_t (belowK_b (Nat.le_refl _)) (Below.refl _ _) (fun _=>rfl)
    (fun pre W=>((∀ p ∈ pre,dg A p.1=dg B p.1)∧(W.cell? ⟨w.heap.size,0,none⟩=some (.slice a1 B.length c1)∧W.cell? ⟨w.heap.size+1,0,none⟩=some (.slice a2 B.length c2)∧W.cell? ⟨w.heap.size+1+1,0,none⟩=some (.int .i64 0)∧W.frozen? ⟨w.heap.size+1+1,0,none⟩=false)∧Raw W (.slice a1 B.length c1) A∧Raw W (.slice a2 B.length c2) B)∧Below w.heap.size w W)
    (fun c pre W=>(c=.ret∧∃ ini last,pre=ini ++ [last]∧(∀ p ∈ ini,dg A p.1=dg B p.1)∧dg A last.1 ≠ dg B last.1∧W.cell? ⟨w.heap.size+1+1,0,none⟩=some (.int .i64 (cmpI (dg A last.1) (dg B last.1))))∧Below w.heap.size w W)
    ?hI ?hIx ?h0 (fun x=>{ tmps:=#[.slice la L.length lc,.slice ka K.length kc,.pointer (some ⟨w.heap.size,0,none⟩),.pointer (some ⟨w.heap.size+1,0,none⟩),.pointer (some ⟨w.heap.size+1+1,0,none⟩),.int .i64 0,.int .i64 ((x.1:Nat):Int),undef,u8,u9,u10,u11,.slice a1 B.length c1,.int .i64 (B.length:Int),.slice a2 B.length c2,.int .i64 (B.length:Int),.int .i64 0,.int .i64 0,.bool false,undef,.slice a1 B.length c1,
     .func (.func 146) #[] #[.pointer (some ⟨wc.heap.size,0,none⟩)],.int .i64 ((x.1:Nat):Int),.int .u64 ((dg A x.1:Nat):Int),undef,undef,undef,undef,undef,undef,undef,undef,undef,undef,undef,undef],defers:=[] }) ?assign ?body ?done ?stop)
   case hI =>
    refine OwnFrom.and (Own.from (fun s W W' row hs hg hr=>?_) _) (ownFrom_below (Nat.le_refl _) (by have:=HM3.out.b.size; omega))
    have hk:∀ p u,W.cell? p=some u→W'.cell? p=some u:=fun p u h=>cell_kept h hg hr
    obtain ⟨h1,⟨h2,h3,h4,h5⟩,h6,h7⟩:=hs
    exact ⟨h1,⟨hk _ _ h2,hk _ _ h3,hk _ _ h4,(frozen_kept h4 hg hr).trans h5⟩,h6.keep hk,h7.keep hk⟩
   case hIx =>
    intro c
    refine OwnFrom.and (Own.from (fun s W W' row hs hg hr=>?_) _) (ownFrom_below (Nat.le_refl _) (by have:=HM3.out.b.size; omega))
    obtain ⟨h1,ini,last,h2,h3,h4,h5⟩:=hs
    exact ⟨h1,ini,last,h2,h3,h4,cell_kept h5 hg hr⟩
   case h0 =>
    obtain ⟨g0,g1,g2,-,-,g5⟩:=HM3.out.cells
    exact ⟨⟨by simp,⟨g0,g1,g2,g5⟩,HA3.out,HB3.out⟩,HM3.out.b⟩
   case assign =>
    intro l x W K hK
    gi_wp2
    exact hK
   case body =>
    rintro l pre ⟨i,hi⟩ W ⟨⟨h1,⟨g0,g1,g2,g5⟩,rA,rB⟩,hb⟩ -
    have hiB:i < B.length:=by rw [← HEQ.out]; exact hi
    obtain ⟨p1,q1,e1,hd1⟩:=rA.sl.form
    obtain ⟨p2,q2,e2,hd2⟩:=rB.sl.form
    injection e1 with e10 e11 e12
    injection e2 with e20 e21 e22
    subst e10 e12 e20 e22
    obtain ⟨b1,o1,rfl,he1⟩:=hd1 (by omega)
    obtain ⟨b2,o2,rfl,he2⟩:=hd2 (by omega)
    have d1:=he1 i _ (dg_get hi)
    have d2:=he2 i _ (dg_get hiB)
    have G0:W.drew.cell? ⟨w.heap.size,0,none⟩=_:=g0
    have G1:W.drew.cell? ⟨w.heap.size+1,0,none⟩=_:=g1
    have D1:W.drew.cell? ⟨b1,o1+i,none⟩=_:=d1
    have D2:W.drew.cell? ⟨b2,o2+i,none⟩=_:=d2
    clear hd1 hd2 he1 he2 e11 e21
    dsimp only
    obtain ⟨y1,hy1⟩:∃ y,y=dg A i:=⟨_,rfl⟩
    obtain ⟨y2,hy2⟩:∃ y,y=dg B i:=⟨_,rfl⟩
    rw [← hy1] at d1 D1 ⊢
    rw [← hy2] at d2 D2
    have HY1:=h_ hy1
    have HY2:=h_ hy2
    have RA:=h_ rA
    have RB:=h_ rB
    have H1:=h_ h1
    have HBW:=h_ hb
    clear rA rB hy1 hy2 h1 hb HA HB HM2 HM3 HA3 HB3 hda hcA hcB
    have hmx:Tryz.prog.follows .mixedOrders=true:=by kernel_rfl
    have hd:1≤9 - 1 - 1:=by omega
    obtain ⟨cc,hcc⟩:∃ cc,cc=cmpI (y1:Int) (y2:Int):=⟨_,rfl⟩
    have HC:=h_ hcc
    have HG2:=h_ g2
    have HG5:=h_ g5
    have HG0:=h_ g0
    have HG1:=h_ g1
    clear hcc g0 g1 g2 g5 d1 d2 LA hal HEQ CA CB hbx hsz BX hc hl kl
    gi_wp2
    gi_region_with_o (refine ⟨trivial,?_⟩; gi_at_call 112; refine (CallsIn.inRound l (callsIn_wide.2 (cmp_u64 _ _ _))).mono ?_; rintro e w' ⟨rfl,rfl⟩; rw [← HC.out])
    all_goals (have w2:W.drew.cell? ⟨w.heap.size+1+1,0,none⟩=_:=HG2.out)
    all_goals (have w5:W.drew.frozen? ⟨w.heap.size+1+1,0,none⟩=false:=HG5.out)
    all_goals (by_cases hz:cc=0)
    all_goals first
     | (subst hz; gi_wp2; exact ⟨KeepsOthers.drew _,below_drewN' (Below.refl _ _) 1,⟨⟨fun p hp=>(List.mem_append.1 hp).elim (H1.out p) (fun e=>by simp at e; subst e; rw [← HY1.out,← HY2.out]; exact cmpI_same HC.out),⟨HG0.out,HG1.out,HG2.out,HG5.out⟩,RA.out.drew,RB.out.drew⟩,below_drewN' HBW.out 1⟩⟩)
     | (gi_wp2; exact ⟨(KeepsOthers.setCell _ _ _).trans (KeepsOthers.drew _),⟨rfl,pre,⟨i,hi⟩,rfl,H1.out,by rw [← HY1.out,← HY2.out]; exact cmpI_ne HC.out hz,by rw [← HY1.out,← HY2.out,← HC.out]; exact World.cell?_setCell_same' _ _ _ (by rw [HG2.out]; rfl)⟩,below_drewN' (HBW.out.setCell (by simp; omega) _) 1⟩)
     | (gi_wp2; exact ⟨(KeepsOthers.drew _).trans (KeepsOthers.setCell _ _ _),⟨rfl,pre,⟨i,hi⟩,rfl,H1.out,by rw [← HY1.out,← HY2.out]; exact cmpI_ne HC.out hz,by rw [← HY1.out,← HY2.out,← HC.out]; exact World.cell?_setCell_same' _ _ _ (by rw [w2]; rfl)⟩,(below_drewN' HBW.out 1).setCell (by simp; omega) _⟩)
     | (gi_wp2; trace_state)
   case done =>
    rintro D ys W hD rfl ⟨⟨h1,⟨g0,g1,g2,g5⟩,rA,rB⟩,hb⟩ hK
    have hr:Hid (cmpN m n=0):=cmp_done CA.out CB.out HEQ.out h1
    have HK:=h_ hK
    have HBW:=h_ hb
    have HG2:=h_ g2
    have HD:=h_ hD
    clear rA rB h1 hb hK hD HA HB HM2 HM3 HA3 HB3 hda hcA hcB
    go_wp2
    have hK':=(KeepsOthers.setCell W ⟨w.heap.size+1+1,0,none⟩ (.int .i64 0)).same D _ HK.out rfl
    refine ⟨by simp,.inl ⟨_,_,rfl,run_takeDeferred hK',?_⟩⟩
    have hc5:=cell_kept (World.cell?_setCell_same' W ⟨w.heap.size+1+1,0,none⟩ (.int .i64 0) (by rw [HG2.out]; rfl)) (grownBy_putObj' _ D (.deferred none)) (fun r e=>by cases e; exact ⟨_,hK',rfl⟩)
    refine ⟨.int .i64 (cmpN m n),?_,rfl,(HBW.out.setCell (p:=⟨w.heap.size+1+1,0,none⟩) (by simp; omega) _).trans (belowK_b (w:=w) (Nat.le_refl _) _ D _ _ (by have:=HD.out; omega) hK' rfl rfl)⟩
    rw [hr.out]
    simp [results,Tryz.f73,go_sem,hc5]
   case stop =>
    rintro D c pre W hD ⟨k,hk,rfl⟩ ⟨⟨rfl,ini,last,e1,e2,e3,hcr⟩,hB⟩ hK
    have hr:Hid (cmpI (dg A last.1) (dg B last.1)=cmpN m n):=cmp_stop CA.out CB.out HEQ.out e1 e2 e3
    rw [hr.out] at hcr
    clear HA HB HM2 HM3 HA3 HB3 hda hcA hcB
    gi_wp2
    refine ⟨by simp,.inl ⟨_,_,rfl,run_takeDeferred hK,?_⟩⟩
    have hc5:=cell_kept hcr (grownBy_putObj' _ D (.deferred none)) (fun r e=>by cases e; exact ⟨_,hK,rfl⟩)
    refine ⟨.int .i64 (cmpN m n),?_,rfl,hB.trans (belowK_b (w:=w) (Nat.le_refl _) W D _ _ (by omega) hK rfl rfl)⟩
    simp [results,Tryz.f73,go_sem,hc5]
  ·have hr:Hid (cmpN m n=1):=cmpN_gt (CB.out.len_lt CA.out hgt)
   have hc:cmpI (A.length:Int) (B.length:Int)=1:=cmpI_gt (by omega)
   go_wp2_with fail
   refine (cmp_int _ _ _).mono ?_
   rintro e w2 ⟨rfl,rfl⟩
   rw [hc]
   go_wp2
   have g0:(wc.setCell ⟨w.heap.size+1+1,0,none⟩ (.int .i64 1)).cell? ⟨w.heap.size+1+1,0,none⟩=some (.int .i64 1):=(HM2.out.r.set 0 (.int .i64 1)).at 0 _ rfl
   exact ⟨.int .i64 (cmpN m n),by simp [results,Tryz.f73,go_sem,hr.out,g0],rfl,HM2.out.b.setCell (by simp; omega) _⟩
end Go.Proofs.YtobpioceopfkpaaGreatDoor
