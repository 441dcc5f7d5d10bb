/-
  Lemmas for WholeTurned and WholeGrows and WholeRises, part 29 of 36: what the program's functions do, and plain facts; without conditions.
-/
import Derived.Test.YtobpioceopfkpaaGreatDoorM28
import Derived.Test.YtobpioceopfkpaaGreatDoorM23
import Derived.Test.YtobpioceopfkpaaGreatDoorM14
import Derived.Test.YtobpioceopfkpaaGreatDoorM13
import Derived.Test.YtobpioceopfkpaaGreatDoorM19
import Derived.BigQuiet
import Derived.Deep.RegionHeld3
import Derived.Deep.DeepCutAuto
set_option maxRecDepth 100000
set_option maxHeartbeats 4000000
namespace Go.Proofs.YtobpioceopfkpaaGreatDoor
open Go.RowKit
def SpG (w wx:World) (n1 n2:Bool) (v v':Value) (l h c d:Nat) (vc vd:Value):Prop:=∃ (g1 g2:Nat) (al:Option Addr) (kl cl:Nat) (ah:Option Addr) (kh ch:Nat),v=.pointer (some ⟨g1,0,none⟩)∧v'=.pointer (some ⟨g2,0,none⟩) ∧
 Fx w wx [(g1,221,#[.bool n1,.slice al kl cl])]∧Fx w wx [(g2,221,#[.bool n2,.slice ah kh ch])]∧Dg wx (.slice al kl cl) l∧Dg wx (.slice ah kh ch) h∧Dg wx vc c∧Dg wx vd d
def spQ (n1:Bool) (l c d:Nat):Nat:=if n1 then (if l % c=0 then l / c else l / c+1) else l / d
def spK (n1:Bool) (q:Nat):Int:=if n1 then -(q:Int) else (q:Int)
def spX (n1:Bool) (l c d q:Nat):Nat:=if n1 then q * c - l else l % d
def spY (n1 n2:Bool) (h c d q:Nat):Nat:=if n1 then plusN n2 h (q * d) else h - q * c
theorem Nm.mk {w:World} {a:Option Addr} {k c:Nat} {m:Nat} (n:Bool) (h:Dg w (.slice a k c) m):Nm w (.agg #[.bool n,.slice a k c]) n m:=⟨_,_,_,rfl,h⟩
theorem bl_sum {a b k:Nat} (ha:bl a≤k) (hb:bl b≤k):bl (a+b)≤k+1:=by
 have a1:=Nat.lt_of_lt_of_le (lt_bl a) (Nat.pow_le_pow_right (by decide) ha)
 have a2:=Nat.lt_of_lt_of_le (lt_bl b) (Nat.pow_le_pow_right (by decide) hb)
 refine bl_le ?_
 rw [Nat.pow_succ]
 omega
theorem c2o {w:World} {g g3:Nat} {x0 x1 a b:Value} (h:w.cell? ⟨g,0,none⟩=some x0∧w.cell? ⟨g,1,none⟩=some x1) (hne:g3 ≠ g) :
  ((w.setCell ⟨g3,0,none⟩ a).setCell ⟨g3,1,none⟩ b).cell? ⟨g,0,none⟩=some x0∧((w.setCell ⟨g3,0,none⟩ a).setCell ⟨g3,1,none⟩ b).cell? ⟨g,1,none⟩=some x1:=by
 have n:∀ i j:Nat,(⟨g3,i,none⟩:Addr) ≠ ⟨g,j,none⟩:=fun i j e=>hne (congrArg Addr.block e)
 constructor
 ·rw [World.cell?_setCell_other _ _ _ _ (n _ _),World.cell?_setCell_other _ _ _ _ (n _ _)]; exact h.1
 ·rw [World.cell?_setCell_other _ _ _ _ (n _ _),World.cell?_setCell_other _ _ _ _ (n _ _)]; exact h.2
theorem Split_g {w:World} {u:Value} {i:In} (hu:Iv w u i) (s1:Sd i.lo) (s2:Sd i.hi) (hc:CmpD i.lo i.hi≤0) (t1:topN (bareN i.lo) < 12) (t2:topN (bareN i.hi) < 12) {n1 n2:Bool} (hn1:decide (signN i.lo < 0)=n1) (hn2:decide (signN i.hi < 0)=n2)
  (s:Nat) (hs:8≤s∧s≤8900) {l h c d q x y:Nat} (hl:unitsN i.lo s n1=l) (hh:unitsN i.hi s (!n2)=h) (ec:(atanhP 1 3 s).lo+(atanhP 1 3 s).lo=c) (ed:(atanhP 1 3 s).hi+(atanhP 1 3 s).hi=d)
  (b1:bl (atanhP 1 3 s).lo≤60000) (b2:bl (atanhP 1 3 s).hi≤60000) (bl':bl l≤20000) (bh:bl h≤20000) (bc:bl c≤20000) (bd:bl d≤20000) (c0:0 < c) (d0:0 < d)
  (hq:spQ n1 l c d=q) (q62:q < 4611686018427387904) (hx:spX n1 l c d q=x) (hy:spY n1 n2 h c d q=y) (lq:n1=true→l≤q * c) (hq2:n1=true→n2=true→h≤q * d) (hq3:n1=false→n2=false∧q * c≤h) (bl1:bl (q * c)≤30000) (bl2:bl (q * d)≤30000)
  {PP:Ending→World→Prop} (ok:∀ w' u v,y≤2^s→Dg w' u x→Dg w' v y→Below w.heap.size w w'→PP (.returned (.tuple #[.int .i64 (spK n1 q),u,v,.int .i64 0])) w')
  (bad:∀ w',2^s < y→Below w.heap.size w w'→PP (.returned (.tuple #[.int .i64 0,.slice none 0 0,.slice none 0 0,.int .i64 1])) w') :
  Calls Tryz.prog 133 #[u,.int .i64 (s:Int)] w PP:=by
 have bo:bl (2^s)≤10000:=Nat.le_trans (bl_pow_le (s:=s) (k:=1) (by omega) (by decide)) (by omega)
 have bz1:bl 1≤64:=bl64 (by decide)
 have bx:bl x≤100000:=by
  rw [← hx]; unfold spX; split
  ·exact Nat.le_trans (bl_mono (Nat.sub_le _ _)) (by omega)
  ·exact Nat.le_trans (bl_mono (Nat.mod_le _ _)) (by omega)
 have by':bl y≤100000:=by
  rw [← hy]; unfold spY; split
  ·unfold plusN; split
   ·exact Nat.le_trans (bl_mono (Nat.sub_le _ _)) (by omega)
   ·exact Nat.le_trans (bl_sum (by omega:bl h≤30000) bl2) (by omega)
  ·exact Nat.le_trans (bl_mono (Nat.sub_le _ _)) (by omega)
 have C2:=h_ (fun w (t:Tab w)=>Ln2_r t s (by omega) (Nat.le_trans b1 (by decide)) (Nat.le_trans b2 (by decide)))
 rw [ec,ed] at C2
 obtain ⟨⟨n,m,e⟩,⟨n',m',e'⟩⟩:=i
 simp only at s1 s2 hc t1 t2 hn1 hn2 hl hh
 have CX:=h_ (fun w u (h:Cy w u ⟨n,m,e⟩)=>Xright_r h.ry s1 t1)
 have CY:=h_ (fun w u (h:Cy w u ⟨n',m',e'⟩)=>Xright_r h.ry s2 t2)
 have CC:=h_ (fun w u v (h:Cy w u ⟨n,m,e⟩) (k:Cy w v ⟨n',m',e'⟩)=>Cmp_d h.ry k.ry)
 have CF:=h_ (fun w u (h:Cy w u ⟨n,m,e⟩)=>Floor_r h.ry s1 s (by omega) n1 hn1)
 have CG:=h_ (fun w u (h:Cy w u ⟨n',m',e'⟩)=>Ceil_r h.ry s2 s (by omega) n2 hn2)
 rw [hl] at CF
 rw [hh] at CG
 have CM:Hid (∀ w u,Dg w u q→Calls Tryz.prog 126 #[u] w fun e w'=>e=.returned (.tuple #[.int .u64 (q:Int),.bool true])∧Below w.heap.size w w'):=fun w u h=>by
  have h1:bl q≤64:=bl64 (by omega)
  have:=small_r (h.rd (by omega)); rw [if_pos (by omega),decide_eq_true (by omega)] at this; exact this
 have qb:bl q≤64:=bl64 (by omega)
 have CU:=h_ (fun w u v (h:Dg w u q) (k:Dg w v c)=>mul_s (h.rd (by omega)) (k.rd (by omega)) (by omega))
 have CL:=h_ (fun w u (h:Dg w u 1)=>shl_s (h.rd (by omega)) s (by omega))
 rw [Nat.one_mul] at CL
 have CP:=h_ (fun w u v (hu:Dg w u y) (hv:Dg w v (2^s))=>cmp_r (hu.rd (by omega)) (hv.rd (by omega)))
 have qw:IntKind.i64.wrap (q:Int)=(q:Int):=IntWalk.i64_in _ (by omega)
 have qw2:IntKind.i64.wrap (-(q:Int))=-(q:Int):=IntWalk.i64_in _ (by omega)
 obtain ⟨cc,hcc⟩:∃ cc,cc=cmpN y (2^s):=⟨_,rfl⟩
 rw [← hcc] at CP
 have FIN:Hid (∀ w' u v (kk:Int),kk=spK n1 q→Dg w' u x→Dg w' v y→Below w.heap.size w w'→(0 < cc→PP (.returned (.tuple #[.int .i64 0,.slice none 0 0,.slice none 0 0,.int .i64 1])) w')∧(cc≤0→PP (.returned (.tuple #[.int .i64 kk,u,v,.int .i64 0])) w')):=by
  rintro w' u v kk rfl h1 h2 h3
  constructor
  ·intro h4
   refine bad w' ?_ h3
   rw [hcc] at h4
   unfold cmpN at h4
   split at h4
   ·omega
   ·split at h4
    ·assumption
    ·omega
  ·intro h4
   refine ok w' u v ?_ h1 h2 h3
   rw [hcc] at h4
   unfold cmpN at h4
   split at h4
   ·exact Nat.le_of_lt (by assumption)
   ·split at h4
    ·exact absurd h4 (by decide)
    ·omega
 generalize 2^s=o at *
 generalize CmpD ⟨n,m,e⟩ ⟨n',m',e'⟩=c0' at *
 have z1:decide ((s:Int) < 8)=false:=decide_eq_false (by omega)
 have z2:decide ((8900:Int) < (s:Int))=false:=decide_eq_false (by omega)
 have z4:decide (0 < c0')=false:=decide_eq_false (by omega)
 have z5:decide (s < 8)=false:=decide_eq_false (by omega)
 have z6:decide (8900 < s)=false:=decide_eq_false (by omega)
 have AR:Hid (bl l≤20000∧bl h≤20000∧bl c≤20000∧bl d≤20000∧0 < c∧0 < d∧spQ n1 l c d=q∧spX n1 l c d q=x∧spY n1 n2 h c d q=y∧(n1=true→l≤q * c)∧(n1=true→n2=true→h≤q * d)∧(n1=false→n2=false∧q * c≤h)∧bl (q * c)≤30000∧bl (q * d)≤30000∧bl q≤64):=⟨bl',bh,bc,bd,c0,d0,hq,hx,hy,lq,hq2,hq3,bl1,bl2,qb⟩
 obtain ⟨a1,k1,c1,a2,k2,c2,rfl,hx1,hy1⟩:=hu.fm
 have HX:=h_ hx1
 have HY:=h_ hy1
 clear hu hx1 hy1 s1 s2 hc hs t1 t2 hn1 hn2 hl hh ec ed b1 b2 bl' bh bc bd c0 d0 hq q62 hx hy lq hq2 hq3 bl1 bl2 ok bad bo bz1 bx by' qb hcc
 go_enter Tryz.func133,Tryz.ntmps133
 have F0:=h_ (Fx.one w 92 #[.bool n,.slice a1 k1 c1,.int .i64 e,.bool n',.slice a2 k2 c2,.int .i64 e'] rfl)
 have X0:=h_ (HX.out.alloc (.cells #[.bool n,.slice a1 k1 c1,.int .i64 e,.bool n',.slice a2 k2 c2,.int .i64 e'] 92))
 have Y0:=h_ (HY.out.alloc (.cells #[.bool n,.slice a1 k1 c1,.int .i64 e,.bool n',.slice a2 k2 c2,.int .i64 e'] 92))
 clear HX HY
 go_upto_region 1 with (fail)
 generalize World.alloc _ _=w0 at F0 X0 Y0 ⊢
 have c0_0:=F0.out.c6 0 rfl
 go_wp2_with fail
 clear c0_0
 refine (CX.out _ _ X0.out).mono ?_
 rintro q w1 ⟨rfl,hb⟩
 have F1:=h_ (F0.out.call hb)
 have X1:=h_ (X0.out.below hb)
 have Y1:=h_ (Y0.out.below hb)
 clear F0 X0 Y0
 clear hb
 have c0_1:=F1.out.c6 0 rfl
 go_wp2_with fail
 clear c0_1
 refine (CY.out _ _ Y1.out).mono ?_
 rintro q w2 ⟨rfl,hb⟩
 have F2:=h_ (F1.out.call hb)
 have X2:=h_ (X1.out.below hb)
 have Y2:=h_ (Y1.out.below hb)
 clear F1 X1 Y1
 clear hb
 have c0_2:=F2.out.c6 0 rfl
 go_wp2_with fail
 clear c0_2
 refine (CC.out _ _ _ X2.out Y2.out).mono ?_
 rintro q w3 ⟨rfl,hb⟩
 have F3:=h_ (F2.out.call hb)
 have X3:=h_ (X2.out.below hb)
 have Y3:=h_ (Y2.out.below hb)
 clear F2 X2 Y2
 clear hb
 have c0_3:=F3.out.c6 0 rfl
 go_wp2_with fail
 clear c0_3
 refine (C2.out _ X3.out.tab).mono ?_
 rintro q w4 ⟨x,y,rfl,hx,hy,hb⟩
 have F4:=h_ (F3.out.call hb)
 have X4:=h_ (X3.out.below hb)
 have Y4:=h_ (Y3.out.below hb)
 clear F3 X3 Y3
 have C4:=h_ (hx)
 have D4:=h_ (hy)
 clear hb
 have c0_4:=F4.out.c6 0 rfl
 obtain ⟨a3,k3,c3,rfl⟩:=C4.out.form
 obtain ⟨a4,k4,c4,rfl⟩:=D4.out.form
 go_upto_region 4 with (fail)
 clear c0_4
 go_cut [11,12] (fun p q wx=>Hid (SpG w wx n1 n2 p q l h c d (.slice a3 k3 c3) (.slice a4 k4 c4)))
 case first =>
  have FCD:=h_ ((F4.out.drew.c6 0 rfl).1)
  refine wp_region_held_drew (S:=fun w'=>w'.cell? ⟨w.heap.size,0,none⟩=some (.bool n)∧w'.cell? ⟨w.heap.size,1,none⟩=some (.slice a1 k1 c1)∧w'.cell? ⟨w.heap.size,2,none⟩=some (.int .i64 e)∧w'.cell? ⟨w.heap.size,3,none⟩=some (.bool n')∧w'.cell? ⟨w.heap.size,4,none⟩=some (.slice a2 k2 c2)∧w'.cell? ⟨w.heap.size,5,none⟩=some (.int .i64 e')) (by kernel_rfl) FCD.out (fun hHeld=>?_)
  clear FCD
  have F5:=h_ (F4.out.drew)
  have X5:=h_ (X4.out.drew)
  have Y5:=h_ (Y4.out.drew)
  have C5:=h_ (C4.out.drew)
  have D5:=h_ (D4.out.drew)
  clear F4 X4 Y4 C4 D4
  generalize World.drew w4=W0 at F5 X5 Y5 C5 D5 hHeld ⊢
  refine wpAnyH_take (i:=0) (oi:=⟨some 64,_,_,_,_,_⟩) (v:=?_) rfl (by kernel_rfl) (by kernel_rfl) (by kernel_rfl) (fun _ _ _ h=>h) (Or.inl ⟨by rfl,?_⟩) (by assumption) ?_
  rotate_left
  ·(intro w hSw; (try dsimp only at hSw); go_simp); try with_reducible rfl
  try simp only [Act.put,List.setIfInBounds_toArray,List.set_cons_zero,List.set_cons_succ]
  refine wpAnyH_take (i:=1) (oi:=⟨some 65,_,_,_,_,_⟩) (v:=?_) rfl (by kernel_rfl) (by kernel_rfl) (by kernel_rfl) (fun _ _ _ h=>h) (Or.inl ⟨by rfl,?_⟩) (by assumption) ?_
  rotate_left
  ·(intro w hSw; (try dsimp only at hSw); go_simp); try with_reducible rfl
  try simp only [Act.put,List.setIfInBounds_toArray,List.set_cons_zero,List.set_cons_succ]
  refine wpAnyH_take (i:=2) (oi:=⟨some 66,_,_,_,_,_⟩) (v:=?_) rfl (by kernel_rfl) (by kernel_rfl) (by kernel_rfl) (fun _ _ _ h=>h) (Or.inl ⟨by rfl,?_⟩) (by assumption) ?_
  rotate_left
  ·(intro w hSw; (try dsimp only at hSw); go_simp); try with_reducible rfl
  try simp only [Act.put,List.setIfInBounds_toArray,List.set_cons_zero,List.set_cons_succ]
  refine wpAnyH_take (i:=4) (oi:=⟨some 68,_,_,_,_,_⟩) (v:=?_) rfl (by kernel_rfl) (by kernel_rfl) (by kernel_rfl) (fun _ _ _ h=>h) (Or.inl ⟨by rfl,?_⟩) (by assumption) ?_
  rotate_left
  ·(intro w hSw; (try dsimp only at hSw); go_simp); try with_reducible rfl
  try simp only [Act.put,List.setIfInBounds_toArray,List.set_cons_zero,List.set_cons_succ]
  refine wpAnyH_take (i:=5) (oi:=⟨some 69,_,_,_,_,_⟩) (v:=?_) rfl (by kernel_rfl) (by kernel_rfl) (by kernel_rfl) (fun _ _ _ h=>h) (Or.inl ⟨by rfl,?_⟩) (by assumption) ?_
  rotate_left
  ·(intro w hSw; (try dsimp only at hSw); go_simp); try with_reducible rfl
  try simp only [Act.put,List.setIfInBounds_toArray,List.set_cons_zero,List.set_cons_succ]
  refine wpAnyH_take (i:=6) (oi:=⟨some 70,_,_,_,_,_⟩) (v:=?_) rfl (by kernel_rfl) (by kernel_rfl) (by kernel_rfl) (fun _ _ _ h=>h) (Or.inl ⟨by rfl,?_⟩) (by assumption) ?_
  rotate_left
  ·(intro w hSw; (try dsimp only at hSw); go_simp); try with_reducible rfl
  try simp only [Act.put,List.setIfInBounds_toArray,List.set_cons_zero,List.set_cons_succ]
  refine wpAnyH_ready (rs:=[3,8,9]) (by kernel_rfl) (by simp) ?_
  refine AllReadyH.cons (o:=_) rfl (fun K hK=>?_) ?_
  ·skip
   go_simp
   go_at_call 163
   with_reducible refine (CF.out _ _ X5.out).mono ?_
   rintro q w6 ⟨u,rfl,⟨b1,x1,y1,rfl,hu⟩,hb⟩
   have F6:=h_ (F5.out.call hb)
   have X6:=h_ (X5.out.below hb)
   have Y6:=h_ (Y5.out.below hb)
   have C6:=h_ (C5.out.below hb)
   have D6:=h_ (D5.out.below hb)
   clear F5 X5 Y5 C5 D5
   have L6:=h_ hu
   clear hu hb
   try go_wp2_with fail
   refine hK.out _ _ ((F6.out.c6 0 rfl).1) (fun hHeld'=>?_)
   clear hK K hHeld
   have hHeld:=hHeld'
   clear hHeld'
   try simp only [Act.put,List.setIfInBounds_toArray,List.set_cons_zero,List.set_cons_succ]
   refine wpAnyH_ready (rs:=[7,8,9]) (by kernel_rfl) (by simp) ?_
   refine AllReadyH.cons (o:=_) rfl (fun K hK=>?_) ?_
   ·skip
    go_simp
    go_at_call 164
    with_reducible refine (CG.out _ _ Y6.out).mono ?_
    rintro q w7 ⟨u,rfl,⟨b2,x2,y2,rfl,hu⟩,hb⟩
    have F7:=h_ (F6.out.call hb)
    have X7:=h_ (X6.out.below hb)
    have Y7:=h_ (Y6.out.below hb)
    have C7:=h_ (C6.out.below hb)
    have D7:=h_ (D6.out.below hb)
    have L7:=h_ (L6.out.below hb)
    clear F6 X6 Y6 C6 D6 L6
    have H7:=h_ hu
    clear hu hb
    try go_wp2_with fail
    refine hK.out _ _ ((F7.out.c6 0 rfl).1) (fun hHeld'=>?_)
    clear hK K hHeld
    have hHeld:=hHeld'
    clear hHeld'
    try simp only [Act.put,List.setIfInBounds_toArray,List.set_cons_zero,List.set_cons_succ]
    refine wpAnyH_ready (rs:=[8,9]) (by kernel_rfl) (by simp) ?_
    refine AllReadyH.cons (o:=_) rfl (fun K hK=>?_) ?_
    ·skip
     go_simp
     have F8:=h_ (F7.out.new 221 #[.bool false,.slice none 0 0] rfl)
     have X8:=h_ (X7.out.alloc (.cells #[.bool false,.slice none 0 0] 221))
     have Y8:=h_ (Y7.out.alloc (.cells #[.bool false,.slice none 0 0] 221))
     have C8:=h_ (C7.out.alloc (.cells #[.bool false,.slice none 0 0] 221))
     have D8:=h_ (D7.out.alloc (.cells #[.bool false,.slice none 0 0] 221))
     have L8:=h_ (L7.out.alloc (.cells #[.bool false,.slice none 0 0] 221))
     have H8:=h_ (H7.out.alloc (.cells #[.bool false,.slice none 0 0] 221))
     clear F7 X7 Y7 C7 D7 L7 H7
     obtain ⟨g3,hg3⟩:∃ g,g=(World.heap w7).size:=⟨_,rfl⟩
     rw [← hg3] at F8 ⊢
     have hzg3:(World.heap (World.alloc w7 (.cells #[.bool false,.slice none 0 0] 221))).size=g3+1:=by rw [hg3]; simp
     clear hg3
     simp only [List.nil_append,List.cons_append] at F8
     generalize World.alloc w7 _=W8 at hzg3 F8 X8 Y8 C8 D8 L8 H8 ⊢
     clear hzg3
     refine hK.out _ _ ((F8.out.c6 0 rfl).1) (fun hHeld'=>?_)
     clear hK K hHeld
     have hHeld:=hHeld'
     clear hHeld'
     try simp only [Act.put,List.setIfInBounds_toArray,List.set_cons_zero,List.set_cons_succ]
     refine wpAnyH_ready (rs:=[9]) (by kernel_rfl) (by simp) ?_
     refine AllReadyH.cons (o:=_) rfl (fun K hK=>?_) ?_
     ·skip
      go_simp
      have F9:=h_ (F8.out.new 221 #[.bool false,.slice none 0 0] rfl)
      have X9:=h_ (X8.out.alloc (.cells #[.bool false,.slice none 0 0] 221))
      have Y9:=h_ (Y8.out.alloc (.cells #[.bool false,.slice none 0 0] 221))
      have C9:=h_ (C8.out.alloc (.cells #[.bool false,.slice none 0 0] 221))
      have D9:=h_ (D8.out.alloc (.cells #[.bool false,.slice none 0 0] 221))
      have L9:=h_ (L8.out.alloc (.cells #[.bool false,.slice none 0 0] 221))
      have H9:=h_ (H8.out.alloc (.cells #[.bool false,.slice none 0 0] 221))
      clear F8 X8 Y8 C8 D8 L8 H8
      obtain ⟨g4,hg4⟩:∃ g,g=(World.heap W8).size:=⟨_,rfl⟩
      rw [← hg4] at F9 ⊢
      have hzg4:(World.heap (World.alloc W8 (.cells #[.bool false,.slice none 0 0] 221))).size=g4+1:=by rw [hg4]; simp
      clear hg4
      simp only [List.nil_append,List.cons_append] at F9
      generalize World.alloc W8 _=W9 at hzg4 F9 X9 Y9 C9 D9 L9 H9 ⊢
      clear hzg4
      refine hK.out _ _ ((F9.out.c6 0 rfl).1) (fun hHeld'=>?_)
      clear hK K hHeld
      have hHeld:=hHeld'
      clear hHeld'
      try simp only [Act.put,List.setIfInBounds_toArray,List.set_cons_zero,List.set_cons_succ]
      refine wpAnyH_ready (rs:=[10]) (by kernel_rfl) (by simp) ?_
      refine AllReadyH.cons (o:=_) rfl (fun K hK=>?_) ?_
      ·skip
       have cc0:=F9.out.c2 1 rfl
       go_simp
       clear cc0
       obtain ⟨f,p⟩:=F9.out.s2 1 rfl (.bool n1) (.slice b1 x1 y1) rfl rfl
       generalize (World.setCell (World.setCell _ _ _) _ _)=W at f p ⊢
       have F10:=h_ (f)
       have X10:=h_ (X9.out.kp p)
       have Y10:=h_ (Y9.out.kp p)
       have C10:=h_ (C9.out.kp p)
       have D10:=h_ (D9.out.kp p)
       have L10:=h_ (L9.out.kp p)
       have H10:=h_ (H9.out.kp p)
       clear F9 X9 Y9 C9 D9 L9 H9
       clear f p
       simp only [List.set_cons_zero,List.set_cons_succ] at F10
       refine hK.out _ _ ((F10.out.c6 0 rfl).1) (fun hHeld'=>?_)
       clear hK K hHeld
       have hHeld:=hHeld'
       clear hHeld'
       try simp only [Act.put,List.setIfInBounds_toArray,List.set_cons_zero,List.set_cons_succ]
       refine wpAnyH_ready (rs:=[11]) (by kernel_rfl) (by simp) ?_
       refine AllReadyH.cons (o:=_) rfl (fun K hK=>?_) ?_
       ·skip
        have cc0:=F10.out.c2 2 rfl
        go_simp
        clear cc0
        obtain ⟨f,p⟩:=F10.out.s2 2 rfl (.bool n2) (.slice b2 x2 y2) rfl rfl
        generalize (World.setCell (World.setCell _ _ _) _ _)=W at f p ⊢
        have F11:=h_ (f)
        have X11:=h_ (X10.out.kp p)
        have Y11:=h_ (Y10.out.kp p)
        have C11:=h_ (C10.out.kp p)
        have D11:=h_ (D10.out.kp p)
        have L11:=h_ (L10.out.kp p)
        have H11:=h_ (H10.out.kp p)
        clear F10 X10 Y10 C10 D10 L10 H10
        clear f p
        simp only [List.set_cons_zero,List.set_cons_succ] at F11
        refine hK.out _ _ ((F11.out.c6 0 rfl).1) (fun hHeld'=>?_)
        clear hK K hHeld
        have hHeld:=hHeld'
        clear hHeld'
        try simp only [Act.put,List.setIfInBounds_toArray,List.set_cons_zero,List.set_cons_succ]
        refine wpAnyH_done (by kernel_rfl) ?_ _
        go_wp2_with fail
        go_meet
        exact ⟨_,_,_,_,_,_,_,_,rfl,rfl,F11.out.fz.one_fx 1 rfl rfl,F11.out.fz.one_fx 2 rfl rfl,L11.out,H11.out,C11.out,D11.out⟩
       exact AllReadyH.nil
      exact AllReadyH.nil
     exact AllReadyH.nil
    refine AllReadyH.cons (o:=_) rfl (fun K hK=>?_) ?_
    ·skip
     go_simp
     have F8:=h_ (F7.out.new 221 #[.bool false,.slice none 0 0] rfl)
     have X8:=h_ (X7.out.alloc (.cells #[.bool false,.slice none 0 0] 221))
     have Y8:=h_ (Y7.out.alloc (.cells #[.bool false,.slice none 0 0] 221))
     have C8:=h_ (C7.out.alloc (.cells #[.bool false,.slice none 0 0] 221))
     have D8:=h_ (D7.out.alloc (.cells #[.bool false,.slice none 0 0] 221))
     have L8:=h_ (L7.out.alloc (.cells #[.bool false,.slice none 0 0] 221))
     have H8:=h_ (H7.out.alloc (.cells #[.bool false,.slice none 0 0] 221))
     clear F7 X7 Y7 C7 D7 L7 H7
     obtain ⟨g7,hg7⟩:∃ g,g=(World.heap w7).size:=⟨_,rfl⟩
     rw [← hg7] at F8 ⊢
     have hzg7:(World.heap (World.alloc w7 (.cells #[.bool false,.slice none 0 0] 221))).size=g7+1:=by rw [hg7]; simp
     clear hg7
     simp only [List.nil_append,List.cons_append] at F8
     generalize World.alloc w7 _=W8 at hzg7 F8 X8 Y8 C8 D8 L8 H8 ⊢
     clear hzg7
     refine hK.out _ _ ((F8.out.c6 0 rfl).1) (fun hHeld'=>?_)
     clear hK K hHeld
     have hHeld:=hHeld'
     clear hHeld'
     try simp only [Act.put,List.setIfInBounds_toArray,List.set_cons_zero,List.set_cons_succ]
     refine wpAnyH_ready (rs:=[8]) (by kernel_rfl) (by simp) ?_
     refine AllReadyH.cons (o:=_) rfl (fun K hK=>?_) ?_
     ·skip
      go_simp
      have F9:=h_ (F8.out.new 221 #[.bool false,.slice none 0 0] rfl)
      have X9:=h_ (X8.out.alloc (.cells #[.bool false,.slice none 0 0] 221))
      have Y9:=h_ (Y8.out.alloc (.cells #[.bool false,.slice none 0 0] 221))
      have C9:=h_ (C8.out.alloc (.cells #[.bool false,.slice none 0 0] 221))
      have D9:=h_ (D8.out.alloc (.cells #[.bool false,.slice none 0 0] 221))
      have L9:=h_ (L8.out.alloc (.cells #[.bool false,.slice none 0 0] 221))
      have H9:=h_ (H8.out.alloc (.cells #[.bool false,.slice none 0 0] 221))
      clear F8 X8 Y8 C8 D8 L8 H8
      obtain ⟨g8,hg8⟩:∃ g,g=(World.heap W8).size:=⟨_,rfl⟩
      rw [← hg8] at F9 ⊢
      have hzg8:(World.heap (World.alloc W8 (.cells #[.bool false,.slice none 0 0] 221))).size=g8+1:=by rw [hg8]; simp
      clear hg8
      simp only [List.nil_append,List.cons_append] at F9
      generalize World.alloc W8 _=W9 at hzg8 F9 X9 Y9 C9 D9 L9 H9 ⊢
      clear hzg8
      refine hK.out _ _ ((F9.out.c6 0 rfl).1) (fun hHeld'=>?_)
      clear hK K hHeld
      have hHeld:=hHeld'
      clear hHeld'
      try simp only [Act.put,List.setIfInBounds_toArray,List.set_cons_zero,List.set_cons_succ]
      refine wpAnyH_ready (rs:=[10]) (by kernel_rfl) (by simp) ?_
      refine AllReadyH.cons (o:=_) rfl (fun K hK=>?_) ?_
      ·skip
       have cc0:=F9.out.c2 2 rfl
       go_simp
       clear cc0
       obtain ⟨f,p⟩:=F9.out.s2 2 rfl (.bool n1) (.slice b1 x1 y1) rfl rfl
       generalize (World.setCell (World.setCell _ _ _) _ _)=W at f p ⊢
       have F10:=h_ (f)
       have X10:=h_ (X9.out.kp p)
       have Y10:=h_ (Y9.out.kp p)
       have C10:=h_ (C9.out.kp p)
       have D10:=h_ (D9.out.kp p)
       have L10:=h_ (L9.out.kp p)
       have H10:=h_ (H9.out.kp p)
       clear F9 X9 Y9 C9 D9 L9 H9
       clear f p
       simp only [List.set_cons_zero,List.set_cons_succ] at F10
       refine hK.out _ _ ((F10.out.c6 0 rfl).1) (fun hHeld'=>?_)
       clear hK K hHeld
       have hHeld:=hHeld'
       clear hHeld'
       try simp only [Act.put,List.setIfInBounds_toArray,List.set_cons_zero,List.set_cons_succ]
       refine wpAnyH_ready (rs:=[11]) (by kernel_rfl) (by simp) ?_
       refine AllReadyH.cons (o:=_) rfl (fun K hK=>?_) ?_
       ·skip
        have cc0:=F10.out.c2 1 rfl
        go_simp
        clear cc0
        obtain ⟨f,p⟩:=F10.out.s2 1 rfl (.bool n2) (.slice b2 x2 y2) rfl rfl
        generalize (World.setCell (World.setCell _ _ _) _ _)=W at f p ⊢
        have F11:=h_ (f)
        have X11:=h_ (X10.out.kp p)
        have Y11:=h_ (Y10.out.kp p)
        have C11:=h_ (C10.out.kp p)
        have D11:=h_ (D10.out.kp p)
        have L11:=h_ (L10.out.kp p)
        have H11:=h_ (H10.out.kp p)
        clear F10 X10 Y10 C10 D10 L10 H10
        clear f p
        simp only [List.set_cons_zero,List.set_cons_succ] at F11
        refine hK.out _ _ ((F11.out.c6 0 rfl).1) (fun hHeld'=>?_)
        clear hK K hHeld
        have hHeld:=hHeld'
        clear hHeld'
        try simp only [Act.put,List.setIfInBounds_toArray,List.set_cons_zero,List.set_cons_succ]
        refine wpAnyH_done (by kernel_rfl) ?_ _
        go_wp2_with fail
        go_meet
        exact ⟨_,_,_,_,_,_,_,_,rfl,rfl,F11.out.fz.one_fx 2 rfl rfl,F11.out.fz.one_fx 1 rfl rfl,L11.out,H11.out,C11.out,D11.out⟩
       exact AllReadyH.nil
      exact AllReadyH.nil
     exact AllReadyH.nil
    exact AllReadyH.nil
   refine AllReadyH.cons (o:=_) rfl (fun K hK=>?_) ?_
   ·skip
    go_simp
    have F7:=h_ (F6.out.new 221 #[.bool false,.slice none 0 0] rfl)
    have X7:=h_ (X6.out.alloc (.cells #[.bool false,.slice none 0 0] 221))
    have Y7:=h_ (Y6.out.alloc (.cells #[.bool false,.slice none 0 0] 221))
    have C7:=h_ (C6.out.alloc (.cells #[.bool false,.slice none 0 0] 221))
    have D7:=h_ (D6.out.alloc (.cells #[.bool false,.slice none 0 0] 221))
    have L7:=h_ (L6.out.alloc (.cells #[.bool false,.slice none 0 0] 221))
    clear F6 X6 Y6 C6 D6 L6
    obtain ⟨g11,hg11⟩:∃ g,g=(World.heap w6).size:=⟨_,rfl⟩
    rw [← hg11] at F7 ⊢
    have hzg11:(World.heap (World.alloc w6 (.cells #[.bool false,.slice none 0 0] 221))).size=g11+1:=by rw [hg11]; simp
    clear hg11
    simp only [List.nil_append,List.cons_append] at F7
    generalize World.alloc w6 _=W7 at hzg11 F7 X7 Y7 C7 D7 L7 ⊢
    clear hzg11
    refine hK.out _ _ ((F7.out.c6 0 rfl).1) (fun hHeld'=>?_)
    clear hK K hHeld
    have hHeld:=hHeld'
    clear hHeld'
    try simp only [Act.put,List.setIfInBounds_toArray,List.set_cons_zero,List.set_cons_succ]
    refine wpAnyH_ready (rs:=[7,9]) (by kernel_rfl) (by simp) ?_
    refine AllReadyH.cons (o:=_) rfl (fun K hK=>?_) ?_
    ·skip
     go_simp
     go_at_call 164
     with_reducible refine (CG.out _ _ Y7.out).mono ?_
     rintro q w8 ⟨u,rfl,⟨b12,x12,y12,rfl,hu⟩,hb⟩
     have F8:=h_ (F7.out.call hb)
     have X8:=h_ (X7.out.below hb)
     have Y8:=h_ (Y7.out.below hb)
     have C8:=h_ (C7.out.below hb)
     have D8:=h_ (D7.out.below hb)
     have L8:=h_ (L7.out.below hb)
     clear F7 X7 Y7 C7 D7 L7
     have H8:=h_ hu
     clear hu hb
     try go_wp2_with fail
     refine hK.out _ _ ((F8.out.c6 0 rfl).1) (fun hHeld'=>?_)
     clear hK K hHeld
     have hHeld:=hHeld'
     clear hHeld'
     try simp only [Act.put,List.setIfInBounds_toArray,List.set_cons_zero,List.set_cons_succ]
     refine wpAnyH_ready (rs:=[9]) (by kernel_rfl) (by simp) ?_
     refine AllReadyH.cons (o:=_) rfl (fun K hK=>?_) ?_
     ·skip
      go_simp
      have F9:=h_ (F8.out.new 221 #[.bool false,.slice none 0 0] rfl)
      have X9:=h_ (X8.out.alloc (.cells #[.bool false,.slice none 0 0] 221))
      have Y9:=h_ (Y8.out.alloc (.cells #[.bool false,.slice none 0 0] 221))
      have C9:=h_ (C8.out.alloc (.cells #[.bool false,.slice none 0 0] 221))
      have D9:=h_ (D8.out.alloc (.cells #[.bool false,.slice none 0 0] 221))
      have L9:=h_ (L8.out.alloc (.cells #[.bool false,.slice none 0 0] 221))
      have H9:=h_ (H8.out.alloc (.cells #[.bool false,.slice none 0 0] 221))
      clear F8 X8 Y8 C8 D8 L8 H8
      obtain ⟨g13,hg13⟩:∃ g,g=(World.heap w8).size:=⟨_,rfl⟩
      rw [← hg13] at F9 ⊢
      have hzg13:(World.heap (World.alloc w8 (.cells #[.bool false,.slice none 0 0] 221))).size=g13+1:=by rw [hg13]; simp
      clear hg13
      simp only [List.nil_append,List.cons_append] at F9
      generalize World.alloc w8 _=W9 at hzg13 F9 X9 Y9 C9 D9 L9 H9 ⊢
      clear hzg13
      refine hK.out _ _ ((F9.out.c6 0 rfl).1) (fun hHeld'=>?_)
      clear hK K hHeld
      have hHeld:=hHeld'
      clear hHeld'
      try simp only [Act.put,List.setIfInBounds_toArray,List.set_cons_zero,List.set_cons_succ]
      refine wpAnyH_ready (rs:=[10]) (by kernel_rfl) (by simp) ?_
      refine AllReadyH.cons (o:=_) rfl (fun K hK=>?_) ?_
      ·skip
       have cc0:=F9.out.c2 1 rfl
       go_simp
       clear cc0
       obtain ⟨f,p⟩:=F9.out.s2 1 rfl (.bool n1) (.slice b1 x1 y1) rfl rfl
       generalize (World.setCell (World.setCell _ _ _) _ _)=W at f p ⊢
       have F10:=h_ (f)
       have X10:=h_ (X9.out.kp p)
       have Y10:=h_ (Y9.out.kp p)
       have C10:=h_ (C9.out.kp p)
       have D10:=h_ (D9.out.kp p)
       have L10:=h_ (L9.out.kp p)
       have H10:=h_ (H9.out.kp p)
       clear F9 X9 Y9 C9 D9 L9 H9
       clear f p
       simp only [List.set_cons_zero,List.set_cons_succ] at F10
       refine hK.out _ _ ((F10.out.c6 0 rfl).1) (fun hHeld'=>?_)
       clear hK K hHeld
       have hHeld:=hHeld'
       clear hHeld'
       try simp only [Act.put,List.setIfInBounds_toArray,List.set_cons_zero,List.set_cons_succ]
       refine wpAnyH_ready (rs:=[11]) (by kernel_rfl) (by simp) ?_
       refine AllReadyH.cons (o:=_) rfl (fun K hK=>?_) ?_
       ·skip
        have cc0:=F10.out.c2 2 rfl
        go_simp
        clear cc0
        obtain ⟨f,p⟩:=F10.out.s2 2 rfl (.bool n2) (.slice b12 x12 y12) rfl rfl
        generalize (World.setCell (World.setCell _ _ _) _ _)=W at f p ⊢
        have F11:=h_ (f)
        have X11:=h_ (X10.out.kp p)
        have Y11:=h_ (Y10.out.kp p)
        have C11:=h_ (C10.out.kp p)
        have D11:=h_ (D10.out.kp p)
        have L11:=h_ (L10.out.kp p)
        have H11:=h_ (H10.out.kp p)
        clear F10 X10 Y10 C10 D10 L10 H10
        clear f p
        simp only [List.set_cons_zero,List.set_cons_succ] at F11
        refine hK.out _ _ ((F11.out.c6 0 rfl).1) (fun hHeld'=>?_)
        clear hK K hHeld
        have hHeld:=hHeld'
        clear hHeld'
        try simp only [Act.put,List.setIfInBounds_toArray,List.set_cons_zero,List.set_cons_succ]
        refine wpAnyH_done (by kernel_rfl) ?_ _
        go_wp2_with fail
        go_meet
        exact ⟨_,_,_,_,_,_,_,_,rfl,rfl,F11.out.fz.one_fx 1 rfl rfl,F11.out.fz.one_fx 2 rfl rfl,L11.out,H11.out,C11.out,D11.out⟩
       exact AllReadyH.nil
      exact AllReadyH.nil
     exact AllReadyH.nil
    refine AllReadyH.cons (o:=_) rfl (fun K hK=>?_) ?_
    ·skip
     go_simp
     have F8:=h_ (F7.out.new 221 #[.bool false,.slice none 0 0] rfl)
     have X8:=h_ (X7.out.alloc (.cells #[.bool false,.slice none 0 0] 221))
     have Y8:=h_ (Y7.out.alloc (.cells #[.bool false,.slice none 0 0] 221))
     have C8:=h_ (C7.out.alloc (.cells #[.bool false,.slice none 0 0] 221))
     have D8:=h_ (D7.out.alloc (.cells #[.bool false,.slice none 0 0] 221))
     have L8:=h_ (L7.out.alloc (.cells #[.bool false,.slice none 0 0] 221))
     clear F7 X7 Y7 C7 D7 L7
     obtain ⟨g16,hg16⟩:∃ g,g=(World.heap W7).size:=⟨_,rfl⟩
     rw [← hg16] at F8 ⊢
     have hzg16:(World.heap (World.alloc W7 (.cells #[.bool false,.slice none 0 0] 221))).size=g16+1:=by rw [hg16]; simp
     clear hg16
     simp only [List.nil_append,List.cons_append] at F8
     generalize World.alloc W7 _=W8 at hzg16 F8 X8 Y8 C8 D8 L8 ⊢
     clear hzg16
     refine hK.out _ _ ((F8.out.c6 0 rfl).1) (fun hHeld'=>?_)
     clear hK K hHeld
     have hHeld:=hHeld'
     clear hHeld'
     try simp only [Act.put,List.setIfInBounds_toArray,List.set_cons_zero,List.set_cons_succ]
     refine wpAnyH_ready (rs:=[7]) (by kernel_rfl) (by simp) ?_
     refine AllReadyH.cons (o:=_) rfl (fun K hK=>?_) ?_
     ·skip
      go_simp
      go_at_call 164
      with_reducible refine (CG.out _ _ Y8.out).mono ?_
      rintro q w9 ⟨u,rfl,⟨b17,x17,y17,rfl,hu⟩,hb⟩
      have F9:=h_ (F8.out.call hb)
      have X9:=h_ (X8.out.below hb)
      have Y9:=h_ (Y8.out.below hb)
      have C9:=h_ (C8.out.below hb)
      have D9:=h_ (D8.out.below hb)
      have L9:=h_ (L8.out.below hb)
      clear F8 X8 Y8 C8 D8 L8
      have H9:=h_ hu
      clear hu hb
      try go_wp2_with fail
      refine hK.out _ _ ((F9.out.c6 0 rfl).1) (fun hHeld'=>?_)
      clear hK K hHeld
      have hHeld:=hHeld'
      clear hHeld'
      try simp only [Act.put,List.setIfInBounds_toArray,List.set_cons_zero,List.set_cons_succ]
      refine wpAnyH_ready (rs:=[10]) (by kernel_rfl) (by simp) ?_
      refine AllReadyH.cons (o:=_) rfl (fun K hK=>?_) ?_
      ·skip
       have cc0:=F9.out.c2 1 rfl
       go_simp
       clear cc0
       obtain ⟨f,p⟩:=F9.out.s2 1 rfl (.bool n1) (.slice b1 x1 y1) rfl rfl
       generalize (World.setCell (World.setCell _ _ _) _ _)=W at f p ⊢
       have F10:=h_ (f)
       have X10:=h_ (X9.out.kp p)
       have Y10:=h_ (Y9.out.kp p)
       have C10:=h_ (C9.out.kp p)
       have D10:=h_ (D9.out.kp p)
       have L10:=h_ (L9.out.kp p)
       have H10:=h_ (H9.out.kp p)
       clear F9 X9 Y9 C9 D9 L9 H9
       clear f p
       simp only [List.set_cons_zero,List.set_cons_succ] at F10
       refine hK.out _ _ ((F10.out.c6 0 rfl).1) (fun hHeld'=>?_)
       clear hK K hHeld
       have hHeld:=hHeld'
       clear hHeld'
       try simp only [Act.put,List.setIfInBounds_toArray,List.set_cons_zero,List.set_cons_succ]
       refine wpAnyH_ready (rs:=[11]) (by kernel_rfl) (by simp) ?_
       refine AllReadyH.cons (o:=_) rfl (fun K hK=>?_) ?_
       ·skip
        have cc0:=F10.out.c2 2 rfl
        go_simp
        clear cc0
        obtain ⟨f,p⟩:=F10.out.s2 2 rfl (.bool n2) (.slice b17 x17 y17) rfl rfl
        generalize (World.setCell (World.setCell _ _ _) _ _)=W at f p ⊢
        have F11:=h_ (f)
        have X11:=h_ (X10.out.kp p)
        have Y11:=h_ (Y10.out.kp p)
        have C11:=h_ (C10.out.kp p)
        have D11:=h_ (D10.out.kp p)
        have L11:=h_ (L10.out.kp p)
        have H11:=h_ (H10.out.kp p)
        clear F10 X10 Y10 C10 D10 L10 H10
        clear f p
        simp only [List.set_cons_zero,List.set_cons_succ] at F11
        refine hK.out _ _ ((F11.out.c6 0 rfl).1) (fun hHeld'=>?_)
        clear hK K hHeld
        have hHeld:=hHeld'
        clear hHeld'
        try simp only [Act.put,List.setIfInBounds_toArray,List.set_cons_zero,List.set_cons_succ]
        refine wpAnyH_done (by kernel_rfl) ?_ _
        go_wp2_with fail
        go_meet
        exact ⟨_,_,_,_,_,_,_,_,rfl,rfl,F11.out.fz.one_fx 1 rfl rfl,F11.out.fz.one_fx 2 rfl rfl,L11.out,H11.out,C11.out,D11.out⟩
       exact AllReadyH.nil
      exact AllReadyH.nil
     exact AllReadyH.nil
    exact AllReadyH.nil
   refine AllReadyH.cons (o:=_) rfl (fun K hK=>?_) ?_
   ·skip
    go_simp
    have F7:=h_ (F6.out.new 221 #[.bool false,.slice none 0 0] rfl)
    have X7:=h_ (X6.out.alloc (.cells #[.bool false,.slice none 0 0] 221))
    have Y7:=h_ (Y6.out.alloc (.cells #[.bool false,.slice none 0 0] 221))
    have C7:=h_ (C6.out.alloc (.cells #[.bool false,.slice none 0 0] 221))
    have D7:=h_ (D6.out.alloc (.cells #[.bool false,.slice none 0 0] 221))
    have L7:=h_ (L6.out.alloc (.cells #[.bool false,.slice none 0 0] 221))
    clear F6 X6 Y6 C6 D6 L6
    obtain ⟨g20,hg20⟩:∃ g,g=(World.heap w6).size:=⟨_,rfl⟩
    rw [← hg20] at F7 ⊢
    have hzg20:(World.heap (World.alloc w6 (.cells #[.bool false,.slice none 0 0] 221))).size=g20+1:=by rw [hg20]; simp
    clear hg20
    simp only [List.nil_append,List.cons_append] at F7
    generalize World.alloc w6 _=W7 at hzg20 F7 X7 Y7 C7 D7 L7 ⊢
    clear hzg20
    refine hK.out _ _ ((F7.out.c6 0 rfl).1) (fun hHeld'=>?_)
    clear hK K hHeld
    have hHeld:=hHeld'
    clear hHeld'
    try simp only [Act.put,List.setIfInBounds_toArray,List.set_cons_zero,List.set_cons_succ]
    refine wpAnyH_ready (rs:=[7,8]) (by kernel_rfl) (by simp) ?_
    refine AllReadyH.cons (o:=_) rfl (fun K hK=>?_) ?_
    ·skip
     go_simp
     go_at_call 164
     with_reducible refine (CG.out _ _ Y7.out).mono ?_
     rintro q w8 ⟨u,rfl,⟨b21,x21,y21,rfl,hu⟩,hb⟩
     have F8:=h_ (F7.out.call hb)
     have X8:=h_ (X7.out.below hb)
     have Y8:=h_ (Y7.out.below hb)
     have C8:=h_ (C7.out.below hb)
     have D8:=h_ (D7.out.below hb)
     have L8:=h_ (L7.out.below hb)
     clear F7 X7 Y7 C7 D7 L7
     have H8:=h_ hu
     clear hu hb
     try go_wp2_with fail
     refine hK.out _ _ ((F8.out.c6 0 rfl).1) (fun hHeld'=>?_)
     clear hK K hHeld
     have hHeld:=hHeld'
     clear hHeld'
     try simp only [Act.put,List.setIfInBounds_toArray,List.set_cons_zero,List.set_cons_succ]
     refine wpAnyH_ready (rs:=[8]) (by kernel_rfl) (by simp) ?_
     refine AllReadyH.cons (o:=_) rfl (fun K hK=>?_) ?_
     ·skip
      go_simp
      have F9:=h_ (F8.out.new 221 #[.bool false,.slice none 0 0] rfl)
      have X9:=h_ (X8.out.alloc (.cells #[.bool false,.slice none 0 0] 221))
      have Y9:=h_ (Y8.out.alloc (.cells #[.bool false,.slice none 0 0] 221))
      have C9:=h_ (C8.out.alloc (.cells #[.bool false,.slice none 0 0] 221))
      have D9:=h_ (D8.out.alloc (.cells #[.bool false,.slice none 0 0] 221))
      have L9:=h_ (L8.out.alloc (.cells #[.bool false,.slice none 0 0] 221))
      have H9:=h_ (H8.out.alloc (.cells #[.bool false,.slice none 0 0] 221))
      clear F8 X8 Y8 C8 D8 L8 H8
      obtain ⟨g22,hg22⟩:∃ g,g=(World.heap w8).size:=⟨_,rfl⟩
      rw [← hg22] at F9 ⊢
      have hzg22:(World.heap (World.alloc w8 (.cells #[.bool false,.slice none 0 0] 221))).size=g22+1:=by rw [hg22]; simp
      clear hg22
      simp only [List.nil_append,List.cons_append] at F9
      generalize World.alloc w8 _=W9 at hzg22 F9 X9 Y9 C9 D9 L9 H9 ⊢
      clear hzg22
      refine hK.out _ _ ((F9.out.c6 0 rfl).1) (fun hHeld'=>?_)
      clear hK K hHeld
      have hHeld:=hHeld'
      clear hHeld'
      try simp only [Act.put,List.setIfInBounds_toArray,List.set_cons_zero,List.set_cons_succ]
      refine wpAnyH_ready (rs:=[10]) (by kernel_rfl) (by simp) ?_
      refine AllReadyH.cons (o:=_) rfl (fun K hK=>?_) ?_
      ·skip
       have cc0:=F9.out.c2 2 rfl
       go_simp
       clear cc0
       obtain ⟨f,p⟩:=F9.out.s2 2 rfl (.bool n1) (.slice b1 x1 y1) rfl rfl
       generalize (World.setCell (World.setCell _ _ _) _ _)=W at f p ⊢
       have F10:=h_ (f)
       have X10:=h_ (X9.out.kp p)
       have Y10:=h_ (Y9.out.kp p)
       have C10:=h_ (C9.out.kp p)
       have D10:=h_ (D9.out.kp p)
       have L10:=h_ (L9.out.kp p)
       have H10:=h_ (H9.out.kp p)
       clear F9 X9 Y9 C9 D9 L9 H9
       clear f p
       simp only [List.set_cons_zero,List.set_cons_succ] at F10
       refine hK.out _ _ ((F10.out.c6 0 rfl).1) (fun hHeld'=>?_)
       clear hK K hHeld
       have hHeld:=hHeld'
       clear hHeld'
       try simp only [Act.put,List.setIfInBounds_toArray,List.set_cons_zero,List.set_cons_succ]
       refine wpAnyH_ready (rs:=[11]) (by kernel_rfl) (by simp) ?_
       refine AllReadyH.cons (o:=_) rfl (fun K hK=>?_) ?_
       ·skip
        have cc0:=F10.out.c2 1 rfl
        go_simp
        clear cc0
        obtain ⟨f,p⟩:=F10.out.s2 1 rfl (.bool n2) (.slice b21 x21 y21) rfl rfl
        generalize (World.setCell (World.setCell _ _ _) _ _)=W at f p ⊢
        have F11:=h_ (f)
        have X11:=h_ (X10.out.kp p)
        have Y11:=h_ (Y10.out.kp p)
        have C11:=h_ (C10.out.kp p)
        have D11:=h_ (D10.out.kp p)
        have L11:=h_ (L10.out.kp p)
        have H11:=h_ (H10.out.kp p)
        clear F10 X10 Y10 C10 D10 L10 H10
        clear f p
        simp only [List.set_cons_zero,List.set_cons_succ] at F11
        refine hK.out _ _ ((F11.out.c6 0 rfl).1) (fun hHeld'=>?_)
        clear hK K hHeld
        have hHeld:=hHeld'
        clear hHeld'
        try simp only [Act.put,List.setIfInBounds_toArray,List.set_cons_zero,List.set_cons_succ]
        refine wpAnyH_done (by kernel_rfl) ?_ _
        go_wp2_with fail
        go_meet
        exact ⟨_,_,_,_,_,_,_,_,rfl,rfl,F11.out.fz.one_fx 2 rfl rfl,F11.out.fz.one_fx 1 rfl rfl,L11.out,H11.out,C11.out,D11.out⟩
       exact AllReadyH.nil
      exact AllReadyH.nil
     exact AllReadyH.nil
    refine AllReadyH.cons (o:=_) rfl (fun K hK=>?_) ?_
    ·skip
     go_simp
     have F8:=h_ (F7.out.new 221 #[.bool false,.slice none 0 0] rfl)
     have X8:=h_ (X7.out.alloc (.cells #[.bool false,.slice none 0 0] 221))
     have Y8:=h_ (Y7.out.alloc (.cells #[.bool false,.slice none 0 0] 221))
     have C8:=h_ (C7.out.alloc (.cells #[.bool false,.slice none 0 0] 221))
     have D8:=h_ (D7.out.alloc (.cells #[.bool false,.slice none 0 0] 221))
     have L8:=h_ (L7.out.alloc (.cells #[.bool false,.slice none 0 0] 221))
     clear F7 X7 Y7 C7 D7 L7
     obtain ⟨g25,hg25⟩:∃ g,g=(World.heap W7).size:=⟨_,rfl⟩
     rw [← hg25] at F8 ⊢
     have hzg25:(World.heap (World.alloc W7 (.cells #[.bool false,.slice none 0 0] 221))).size=g25+1:=by rw [hg25]; simp
     clear hg25
     simp only [List.nil_append,List.cons_append] at F8
     generalize World.alloc W7 _=W8 at hzg25 F8 X8 Y8 C8 D8 L8 ⊢
     clear hzg25
     refine hK.out _ _ ((F8.out.c6 0 rfl).1) (fun hHeld'=>?_)
     clear hK K hHeld
     have hHeld:=hHeld'
     clear hHeld'
     try simp only [Act.put,List.setIfInBounds_toArray,List.set_cons_zero,List.set_cons_succ]
     refine wpAnyH_ready (rs:=[7]) (by kernel_rfl) (by simp) ?_
     refine AllReadyH.cons (o:=_) rfl (fun K hK=>?_) ?_
     ·skip
      go_simp
      go_at_call 164
      with_reducible refine (CG.out _ _ Y8.out).mono ?_
      rintro q w9 ⟨u,rfl,⟨b26,x26,y26,rfl,hu⟩,hb⟩
      have F9:=h_ (F8.out.call hb)
      have X9:=h_ (X8.out.below hb)
      have Y9:=h_ (Y8.out.below hb)
      have C9:=h_ (C8.out.below hb)
      have D9:=h_ (D8.out.below hb)
      have L9:=h_ (L8.out.below hb)
      clear F8 X8 Y8 C8 D8 L8
      have H9:=h_ hu
      clear hu hb
      try go_wp2_with fail
      refine hK.out _ _ ((F9.out.c6 0 rfl).1) (fun hHeld'=>?_)
      clear hK K hHeld
      have hHeld:=hHeld'
      clear hHeld'
      try simp only [Act.put,List.setIfInBounds_toArray,List.set_cons_zero,List.set_cons_succ]
      refine wpAnyH_ready (rs:=[10]) (by kernel_rfl) (by simp) ?_
      refine AllReadyH.cons (o:=_) rfl (fun K hK=>?_) ?_
      ·skip
       have cc0:=F9.out.c2 2 rfl
       go_simp
       clear cc0
       obtain ⟨f,p⟩:=F9.out.s2 2 rfl (.bool n1) (.slice b1 x1 y1) rfl rfl
       generalize (World.setCell (World.setCell _ _ _) _ _)=W at f p ⊢
       have F10:=h_ (f)
       have X10:=h_ (X9.out.kp p)
       have Y10:=h_ (Y9.out.kp p)
       have C10:=h_ (C9.out.kp p)
       have D10:=h_ (D9.out.kp p)
       have L10:=h_ (L9.out.kp p)
       have H10:=h_ (H9.out.kp p)
       clear F9 X9 Y9 C9 D9 L9 H9
       clear f p
       simp only [List.set_cons_zero,List.set_cons_succ] at F10
       refine hK.out _ _ ((F10.out.c6 0 rfl).1) (fun hHeld'=>?_)
       clear hK K hHeld
       have hHeld:=hHeld'
       clear hHeld'
       try simp only [Act.put,List.setIfInBounds_toArray,List.set_cons_zero,List.set_cons_succ]
       refine wpAnyH_ready (rs:=[11]) (by kernel_rfl) (by simp) ?_
       refine AllReadyH.cons (o:=_) rfl (fun K hK=>?_) ?_
       ·skip
        have cc0:=F10.out.c2 1 rfl
        go_simp
        clear cc0
        obtain ⟨f,p⟩:=F10.out.s2 1 rfl (.bool n2) (.slice b26 x26 y26) rfl rfl
        generalize (World.setCell (World.setCell _ _ _) _ _)=W at f p ⊢
        have F11:=h_ (f)
        have X11:=h_ (X10.out.kp p)
        have Y11:=h_ (Y10.out.kp p)
        have C11:=h_ (C10.out.kp p)
        have D11:=h_ (D10.out.kp p)
        have L11:=h_ (L10.out.kp p)
        have H11:=h_ (H10.out.kp p)
        clear F10 X10 Y10 C10 D10 L10 H10
        clear f p
        simp only [List.set_cons_zero,List.set_cons_succ] at F11
        refine hK.out _ _ ((F11.out.c6 0 rfl).1) (fun hHeld'=>?_)
        clear hK K hHeld
        have hHeld:=hHeld'
        clear hHeld'
        try simp only [Act.put,List.setIfInBounds_toArray,List.set_cons_zero,List.set_cons_succ]
        refine wpAnyH_done (by kernel_rfl) ?_ _
        go_wp2_with fail
        go_meet
        exact ⟨_,_,_,_,_,_,_,_,rfl,rfl,F11.out.fz.one_fx 2 rfl rfl,F11.out.fz.one_fx 1 rfl rfl,L11.out,H11.out,C11.out,D11.out⟩
       exact AllReadyH.nil
      exact AllReadyH.nil
     exact AllReadyH.nil
    exact AllReadyH.nil
   exact AllReadyH.nil
  refine AllReadyH.cons (o:=_) rfl (fun K hK=>?_) ?_
  ·skip
   go_simp
   have F6:=h_ (F5.out.new 221 #[.bool false,.slice none 0 0] rfl)
   have X6:=h_ (X5.out.alloc (.cells #[.bool false,.slice none 0 0] 221))
   have Y6:=h_ (Y5.out.alloc (.cells #[.bool false,.slice none 0 0] 221))
   have C6:=h_ (C5.out.alloc (.cells #[.bool false,.slice none 0 0] 221))
   have D6:=h_ (D5.out.alloc (.cells #[.bool false,.slice none 0 0] 221))
   clear F5 X5 Y5 C5 D5
   obtain ⟨g29,hg29⟩:∃ g,g=(World.heap W0).size:=⟨_,rfl⟩
   rw [← hg29] at F6 ⊢
   have hzg29:(World.heap (World.alloc W0 (.cells #[.bool false,.slice none 0 0] 221))).size=g29+1:=by rw [hg29]; simp
   clear hg29
   simp only [List.nil_append,List.cons_append] at F6
   generalize World.alloc W0 _=W6 at hzg29 F6 X6 Y6 C6 D6 ⊢
   clear hzg29
   refine hK.out _ _ ((F6.out.c6 0 rfl).1) (fun hHeld'=>?_)
   clear hK K hHeld
   have hHeld:=hHeld'
   clear hHeld'
   try simp only [Act.put,List.setIfInBounds_toArray,List.set_cons_zero,List.set_cons_succ]
   refine wpAnyH_ready (rs:=[3,9]) (by kernel_rfl) (by simp) ?_
   refine AllReadyH.cons (o:=_) rfl (fun K hK=>?_) ?_
   ·skip
    go_simp
    go_at_call 163
    with_reducible refine (CF.out _ _ X6.out).mono ?_
    rintro q w7 ⟨u,rfl,⟨b30,x30,y30,rfl,hu⟩,hb⟩
    have F7:=h_ (F6.out.call hb)
    have X7:=h_ (X6.out.below hb)
    have Y7:=h_ (Y6.out.below hb)
    have C7:=h_ (C6.out.below hb)
    have D7:=h_ (D6.out.below hb)
    clear F6 X6 Y6 C6 D6
    have L7:=h_ hu
    clear hu hb
    try go_wp2_with fail
    refine hK.out _ _ ((F7.out.c6 0 rfl).1) (fun hHeld'=>?_)
    clear hK K hHeld
    have hHeld:=hHeld'
    clear hHeld'
    try simp only [Act.put,List.setIfInBounds_toArray,List.set_cons_zero,List.set_cons_succ]
    refine wpAnyH_ready (rs:=[7,9]) (by kernel_rfl) (by simp) ?_
    refine AllReadyH.cons (o:=_) rfl (fun K hK=>?_) ?_
    ·skip
     go_simp
     go_at_call 164
     with_reducible refine (CG.out _ _ Y7.out).mono ?_
     rintro q w8 ⟨u,rfl,⟨b31,x31,y31,rfl,hu⟩,hb⟩
     have F8:=h_ (F7.out.call hb)
     have X8:=h_ (X7.out.below hb)
     have Y8:=h_ (Y7.out.below hb)
     have C8:=h_ (C7.out.below hb)
     have D8:=h_ (D7.out.below hb)
     have L8:=h_ (L7.out.below hb)
     clear F7 X7 Y7 C7 D7 L7
     have H8:=h_ hu
     clear hu hb
     try go_wp2_with fail
     refine hK.out _ _ ((F8.out.c6 0 rfl).1) (fun hHeld'=>?_)
     clear hK K hHeld
     have hHeld:=hHeld'
     clear hHeld'
     try simp only [Act.put,List.setIfInBounds_toArray,List.set_cons_zero,List.set_cons_succ]
     refine wpAnyH_ready (rs:=[9]) (by kernel_rfl) (by simp) ?_
     refine AllReadyH.cons (o:=_) rfl (fun K hK=>?_) ?_
     ·skip
      go_simp
      have F9:=h_ (F8.out.new 221 #[.bool false,.slice none 0 0] rfl)
      have X9:=h_ (X8.out.alloc (.cells #[.bool false,.slice none 0 0] 221))
      have Y9:=h_ (Y8.out.alloc (.cells #[.bool false,.slice none 0 0] 221))
      have C9:=h_ (C8.out.alloc (.cells #[.bool false,.slice none 0 0] 221))
      have D9:=h_ (D8.out.alloc (.cells #[.bool false,.slice none 0 0] 221))
      have L9:=h_ (L8.out.alloc (.cells #[.bool false,.slice none 0 0] 221))
      have H9:=h_ (H8.out.alloc (.cells #[.bool false,.slice none 0 0] 221))
      clear F8 X8 Y8 C8 D8 L8 H8
      obtain ⟨g32,hg32⟩:∃ g,g=(World.heap w8).size:=⟨_,rfl⟩
      rw [← hg32] at F9 ⊢
      have hzg32:(World.heap (World.alloc w8 (.cells #[.bool false,.slice none 0 0] 221))).size=g32+1:=by rw [hg32]; simp
      clear hg32
      simp only [List.nil_append,List.cons_append] at F9
      generalize World.alloc w8 _=W9 at hzg32 F9 X9 Y9 C9 D9 L9 H9 ⊢
      clear hzg32
      refine hK.out _ _ ((F9.out.c6 0 rfl).1) (fun hHeld'=>?_)
      clear hK K hHeld
      have hHeld:=hHeld'
      clear hHeld'
      try simp only [Act.put,List.setIfInBounds_toArray,List.set_cons_zero,List.set_cons_succ]
      refine wpAnyH_ready (rs:=[10]) (by kernel_rfl) (by simp) ?_
      refine AllReadyH.cons (o:=_) rfl (fun K hK=>?_) ?_
      ·skip
       have cc0:=F9.out.c2 1 rfl
       go_simp
       clear cc0
       obtain ⟨f,p⟩:=F9.out.s2 1 rfl (.bool n1) (.slice b30 x30 y30) rfl rfl
       generalize (World.setCell (World.setCell _ _ _) _ _)=W at f p ⊢
       have F10:=h_ (f)
       have X10:=h_ (X9.out.kp p)
       have Y10:=h_ (Y9.out.kp p)
       have C10:=h_ (C9.out.kp p)
       have D10:=h_ (D9.out.kp p)
       have L10:=h_ (L9.out.kp p)
       have H10:=h_ (H9.out.kp p)
       clear F9 X9 Y9 C9 D9 L9 H9
       clear f p
       simp only [List.set_cons_zero,List.set_cons_succ] at F10
       refine hK.out _ _ ((F10.out.c6 0 rfl).1) (fun hHeld'=>?_)
       clear hK K hHeld
       have hHeld:=hHeld'
       clear hHeld'
       try simp only [Act.put,List.setIfInBounds_toArray,List.set_cons_zero,List.set_cons_succ]
       refine wpAnyH_ready (rs:=[11]) (by kernel_rfl) (by simp) ?_
       refine AllReadyH.cons (o:=_) rfl (fun K hK=>?_) ?_
       ·skip
        have cc0:=F10.out.c2 2 rfl
        go_simp
        clear cc0
        obtain ⟨f,p⟩:=F10.out.s2 2 rfl (.bool n2) (.slice b31 x31 y31) rfl rfl
        generalize (World.setCell (World.setCell _ _ _) _ _)=W at f p ⊢
        have F11:=h_ (f)
        have X11:=h_ (X10.out.kp p)
        have Y11:=h_ (Y10.out.kp p)
        have C11:=h_ (C10.out.kp p)
        have D11:=h_ (D10.out.kp p)
        have L11:=h_ (L10.out.kp p)
        have H11:=h_ (H10.out.kp p)
        clear F10 X10 Y10 C10 D10 L10 H10
        clear f p
        simp only [List.set_cons_zero,List.set_cons_succ] at F11
        refine hK.out _ _ ((F11.out.c6 0 rfl).1) (fun hHeld'=>?_)
        clear hK K hHeld
        have hHeld:=hHeld'
        clear hHeld'
        try simp only [Act.put,List.setIfInBounds_toArray,List.set_cons_zero,List.set_cons_succ]
        refine wpAnyH_done (by kernel_rfl) ?_ _
        go_wp2_with fail
        go_meet
        exact ⟨_,_,_,_,_,_,_,_,rfl,rfl,F11.out.fz.one_fx 1 rfl rfl,F11.out.fz.one_fx 2 rfl rfl,L11.out,H11.out,C11.out,D11.out⟩
       exact AllReadyH.nil
      exact AllReadyH.nil
     exact AllReadyH.nil
    refine AllReadyH.cons (o:=_) rfl (fun K hK=>?_) ?_
    ·skip
     go_simp
     have F8:=h_ (F7.out.new 221 #[.bool false,.slice none 0 0] rfl)
     have X8:=h_ (X7.out.alloc (.cells #[.bool false,.slice none 0 0] 221))
     have Y8:=h_ (Y7.out.alloc (.cells #[.bool false,.slice none 0 0] 221))
     have C8:=h_ (C7.out.alloc (.cells #[.bool false,.slice none 0 0] 221))
     have D8:=h_ (D7.out.alloc (.cells #[.bool false,.slice none 0 0] 221))
     have L8:=h_ (L7.out.alloc (.cells #[.bool false,.slice none 0 0] 221))
     clear F7 X7 Y7 C7 D7 L7
     obtain ⟨g35,hg35⟩:∃ g,g=(World.heap w7).size:=⟨_,rfl⟩
     rw [← hg35] at F8 ⊢
     have hzg35:(World.heap (World.alloc w7 (.cells #[.bool false,.slice none 0 0] 221))).size=g35+1:=by rw [hg35]; simp
     clear hg35
     simp only [List.nil_append,List.cons_append] at F8
     generalize World.alloc w7 _=W8 at hzg35 F8 X8 Y8 C8 D8 L8 ⊢
     clear hzg35
     refine hK.out _ _ ((F8.out.c6 0 rfl).1) (fun hHeld'=>?_)
     clear hK K hHeld
     have hHeld:=hHeld'
     clear hHeld'
     try simp only [Act.put,List.setIfInBounds_toArray,List.set_cons_zero,List.set_cons_succ]
     refine wpAnyH_ready (rs:=[7]) (by kernel_rfl) (by simp) ?_
     refine AllReadyH.cons (o:=_) rfl (fun K hK=>?_) ?_
     ·skip
      go_simp
      go_at_call 164
      with_reducible refine (CG.out _ _ Y8.out).mono ?_
      rintro q w9 ⟨u,rfl,⟨b36,x36,y36,rfl,hu⟩,hb⟩
      have F9:=h_ (F8.out.call hb)
      have X9:=h_ (X8.out.below hb)
      have Y9:=h_ (Y8.out.below hb)
      have C9:=h_ (C8.out.below hb)
      have D9:=h_ (D8.out.below hb)
      have L9:=h_ (L8.out.below hb)
      clear F8 X8 Y8 C8 D8 L8
      have H9:=h_ hu
      clear hu hb
      try go_wp2_with fail
      refine hK.out _ _ ((F9.out.c6 0 rfl).1) (fun hHeld'=>?_)
      clear hK K hHeld
      have hHeld:=hHeld'
      clear hHeld'
      try simp only [Act.put,List.setIfInBounds_toArray,List.set_cons_zero,List.set_cons_succ]
      refine wpAnyH_ready (rs:=[10]) (by kernel_rfl) (by simp) ?_
      refine AllReadyH.cons (o:=_) rfl (fun K hK=>?_) ?_
      ·skip
       have cc0:=F9.out.c2 1 rfl
       go_simp
       clear cc0
       obtain ⟨f,p⟩:=F9.out.s2 1 rfl (.bool n1) (.slice b30 x30 y30) rfl rfl
       generalize (World.setCell (World.setCell _ _ _) _ _)=W at f p ⊢
       have F10:=h_ (f)
       have X10:=h_ (X9.out.kp p)
       have Y10:=h_ (Y9.out.kp p)
       have C10:=h_ (C9.out.kp p)
       have D10:=h_ (D9.out.kp p)
       have L10:=h_ (L9.out.kp p)
       have H10:=h_ (H9.out.kp p)
       clear F9 X9 Y9 C9 D9 L9 H9
       clear f p
       simp only [List.set_cons_zero,List.set_cons_succ] at F10
       refine hK.out _ _ ((F10.out.c6 0 rfl).1) (fun hHeld'=>?_)
       clear hK K hHeld
       have hHeld:=hHeld'
       clear hHeld'
       try simp only [Act.put,List.setIfInBounds_toArray,List.set_cons_zero,List.set_cons_succ]
       refine wpAnyH_ready (rs:=[11]) (by kernel_rfl) (by simp) ?_
       refine AllReadyH.cons (o:=_) rfl (fun K hK=>?_) ?_
       ·skip
        have cc0:=F10.out.c2 2 rfl
        go_simp
        clear cc0
        obtain ⟨f,p⟩:=F10.out.s2 2 rfl (.bool n2) (.slice b36 x36 y36) rfl rfl
        generalize (World.setCell (World.setCell _ _ _) _ _)=W at f p ⊢
        have F11:=h_ (f)
        have X11:=h_ (X10.out.kp p)
        have Y11:=h_ (Y10.out.kp p)
        have C11:=h_ (C10.out.kp p)
        have D11:=h_ (D10.out.kp p)
        have L11:=h_ (L10.out.kp p)
        have H11:=h_ (H10.out.kp p)
        clear F10 X10 Y10 C10 D10 L10 H10
        clear f p
        simp only [List.set_cons_zero,List.set_cons_succ] at F11
        refine hK.out _ _ ((F11.out.c6 0 rfl).1) (fun hHeld'=>?_)
        clear hK K hHeld
        have hHeld:=hHeld'
        clear hHeld'
        try simp only [Act.put,List.setIfInBounds_toArray,List.set_cons_zero,List.set_cons_succ]
        refine wpAnyH_done (by kernel_rfl) ?_ _
        go_wp2_with fail
        go_meet
        exact ⟨_,_,_,_,_,_,_,_,rfl,rfl,F11.out.fz.one_fx 1 rfl rfl,F11.out.fz.one_fx 2 rfl rfl,L11.out,H11.out,C11.out,D11.out⟩
       exact AllReadyH.nil
      exact AllReadyH.nil
     exact AllReadyH.nil
    exact AllReadyH.nil
   refine AllReadyH.cons (o:=_) rfl (fun K hK=>?_) ?_
   ·skip
    go_simp
    have F7:=h_ (F6.out.new 221 #[.bool false,.slice none 0 0] rfl)
    have X7:=h_ (X6.out.alloc (.cells #[.bool false,.slice none 0 0] 221))
    have Y7:=h_ (Y6.out.alloc (.cells #[.bool false,.slice none 0 0] 221))
    have C7:=h_ (C6.out.alloc (.cells #[.bool false,.slice none 0 0] 221))
    have D7:=h_ (D6.out.alloc (.cells #[.bool false,.slice none 0 0] 221))
    clear F6 X6 Y6 C6 D6
    obtain ⟨g39,hg39⟩:∃ g,g=(World.heap W6).size:=⟨_,rfl⟩
    rw [← hg39] at F7 ⊢
    have hzg39:(World.heap (World.alloc W6 (.cells #[.bool false,.slice none 0 0] 221))).size=g39+1:=by rw [hg39]; simp
    clear hg39
    simp only [List.nil_append,List.cons_append] at F7
    generalize World.alloc W6 _=W7 at hzg39 F7 X7 Y7 C7 D7 ⊢
    clear hzg39
    refine hK.out _ _ ((F7.out.c6 0 rfl).1) (fun hHeld'=>?_)
    clear hK K hHeld
    have hHeld:=hHeld'
    clear hHeld'
    try simp only [Act.put,List.setIfInBounds_toArray,List.set_cons_zero,List.set_cons_succ]
    refine wpAnyH_ready (rs:=[3]) (by kernel_rfl) (by simp) ?_
    refine AllReadyH.cons (o:=_) rfl (fun K hK=>?_) ?_
    ·skip
     go_simp
     go_at_call 163
     with_reducible refine (CF.out _ _ X7.out).mono ?_
     rintro q w8 ⟨u,rfl,⟨b40,x40,y40,rfl,hu⟩,hb⟩
     have F8:=h_ (F7.out.call hb)
     have X8:=h_ (X7.out.below hb)
     have Y8:=h_ (Y7.out.below hb)
     have C8:=h_ (C7.out.below hb)
     have D8:=h_ (D7.out.below hb)
     clear F7 X7 Y7 C7 D7
     have L8:=h_ hu
     clear hu hb
     try go_wp2_with fail
     refine hK.out _ _ ((F8.out.c6 0 rfl).1) (fun hHeld'=>?_)
     clear hK K hHeld
     have hHeld:=hHeld'
     clear hHeld'
     try simp only [Act.put,List.setIfInBounds_toArray,List.set_cons_zero,List.set_cons_succ]
     refine wpAnyH_ready (rs:=[7]) (by kernel_rfl) (by simp) ?_
     refine AllReadyH.cons (o:=_) rfl (fun K hK=>?_) ?_
     ·skip
      go_simp
      go_at_call 164
      with_reducible refine (CG.out _ _ Y8.out).mono ?_
      rintro q w9 ⟨u,rfl,⟨b41,x41,y41,rfl,hu⟩,hb⟩
      have F9:=h_ (F8.out.call hb)
      have X9:=h_ (X8.out.below hb)
      have Y9:=h_ (Y8.out.below hb)
      have C9:=h_ (C8.out.below hb)
      have D9:=h_ (D8.out.below hb)
      have L9:=h_ (L8.out.below hb)
      clear F8 X8 Y8 C8 D8 L8
      have H9:=h_ hu
      clear hu hb
      try go_wp2_with fail
      refine hK.out _ _ ((F9.out.c6 0 rfl).1) (fun hHeld'=>?_)
      clear hK K hHeld
      have hHeld:=hHeld'
      clear hHeld'
      try simp only [Act.put,List.setIfInBounds_toArray,List.set_cons_zero,List.set_cons_succ]
      refine wpAnyH_ready (rs:=[10]) (by kernel_rfl) (by simp) ?_
      refine AllReadyH.cons (o:=_) rfl (fun K hK=>?_) ?_
      ·skip
       have cc0:=F9.out.c2 1 rfl
       go_simp
       clear cc0
       obtain ⟨f,p⟩:=F9.out.s2 1 rfl (.bool n1) (.slice b40 x40 y40) rfl rfl
       generalize (World.setCell (World.setCell _ _ _) _ _)=W at f p ⊢
       have F10:=h_ (f)
       have X10:=h_ (X9.out.kp p)
       have Y10:=h_ (Y9.out.kp p)
       have C10:=h_ (C9.out.kp p)
       have D10:=h_ (D9.out.kp p)
       have L10:=h_ (L9.out.kp p)
       have H10:=h_ (H9.out.kp p)
       clear F9 X9 Y9 C9 D9 L9 H9
       clear f p
       simp only [List.set_cons_zero,List.set_cons_succ] at F10
       refine hK.out _ _ ((F10.out.c6 0 rfl).1) (fun hHeld'=>?_)
       clear hK K hHeld
       have hHeld:=hHeld'
       clear hHeld'
       try simp only [Act.put,List.setIfInBounds_toArray,List.set_cons_zero,List.set_cons_succ]
       refine wpAnyH_ready (rs:=[11]) (by kernel_rfl) (by simp) ?_
       refine AllReadyH.cons (o:=_) rfl (fun K hK=>?_) ?_
       ·skip
        have cc0:=F10.out.c2 2 rfl
        go_simp
        clear cc0
        obtain ⟨f,p⟩:=F10.out.s2 2 rfl (.bool n2) (.slice b41 x41 y41) rfl rfl
        generalize (World.setCell (World.setCell _ _ _) _ _)=W at f p ⊢
        have F11:=h_ (f)
        have X11:=h_ (X10.out.kp p)
        have Y11:=h_ (Y10.out.kp p)
        have C11:=h_ (C10.out.kp p)
        have D11:=h_ (D10.out.kp p)
        have L11:=h_ (L10.out.kp p)
        have H11:=h_ (H10.out.kp p)
        clear F10 X10 Y10 C10 D10 L10 H10
        clear f p
        simp only [List.set_cons_zero,List.set_cons_succ] at F11
        refine hK.out _ _ ((F11.out.c6 0 rfl).1) (fun hHeld'=>?_)
        clear hK K hHeld
        have hHeld:=hHeld'
        clear hHeld'
        try simp only [Act.put,List.setIfInBounds_toArray,List.set_cons_zero,List.set_cons_succ]
        refine wpAnyH_done (by kernel_rfl) ?_ _
        go_wp2_with fail
        go_meet
        exact ⟨_,_,_,_,_,_,_,_,rfl,rfl,F11.out.fz.one_fx 1 rfl rfl,F11.out.fz.one_fx 2 rfl rfl,L11.out,H11.out,C11.out,D11.out⟩
       exact AllReadyH.nil
      exact AllReadyH.nil
     exact AllReadyH.nil
    exact AllReadyH.nil
   exact AllReadyH.nil
  refine AllReadyH.cons (o:=_) rfl (fun K hK=>?_) ?_
  ·skip
   go_simp
   have F6:=h_ (F5.out.new 221 #[.bool false,.slice none 0 0] rfl)
   have X6:=h_ (X5.out.alloc (.cells #[.bool false,.slice none 0 0] 221))
   have Y6:=h_ (Y5.out.alloc (.cells #[.bool false,.slice none 0 0] 221))
   have C6:=h_ (C5.out.alloc (.cells #[.bool false,.slice none 0 0] 221))
   have D6:=h_ (D5.out.alloc (.cells #[.bool false,.slice none 0 0] 221))
   clear F5 X5 Y5 C5 D5
   obtain ⟨g44,hg44⟩:∃ g,g=(World.heap W0).size:=⟨_,rfl⟩
   rw [← hg44] at F6 ⊢
   have hzg44:(World.heap (World.alloc W0 (.cells #[.bool false,.slice none 0 0] 221))).size=g44+1:=by rw [hg44]; simp
   clear hg44
   simp only [List.nil_append,List.cons_append] at F6
   generalize World.alloc W0 _=W6 at hzg44 F6 X6 Y6 C6 D6 ⊢
   clear hzg44
   refine hK.out _ _ ((F6.out.c6 0 rfl).1) (fun hHeld'=>?_)
   clear hK K hHeld
   have hHeld:=hHeld'
   clear hHeld'
   try simp only [Act.put,List.setIfInBounds_toArray,List.set_cons_zero,List.set_cons_succ]
   refine wpAnyH_ready (rs:=[3,8]) (by kernel_rfl) (by simp) ?_
   refine AllReadyH.cons (o:=_) rfl (fun K hK=>?_) ?_
   ·skip
    go_simp
    go_at_call 163
    with_reducible refine (CF.out _ _ X6.out).mono ?_
    rintro q w7 ⟨u,rfl,⟨b45,x45,y45,rfl,hu⟩,hb⟩
    have F7:=h_ (F6.out.call hb)
    have X7:=h_ (X6.out.below hb)
    have Y7:=h_ (Y6.out.below hb)
    have C7:=h_ (C6.out.below hb)
    have D7:=h_ (D6.out.below hb)
    clear F6 X6 Y6 C6 D6
    have L7:=h_ hu
    clear hu hb
    try go_wp2_with fail
    refine hK.out _ _ ((F7.out.c6 0 rfl).1) (fun hHeld'=>?_)
    clear hK K hHeld
    have hHeld:=hHeld'
    clear hHeld'
    try simp only [Act.put,List.setIfInBounds_toArray,List.set_cons_zero,List.set_cons_succ]
    refine wpAnyH_ready (rs:=[7,8]) (by kernel_rfl) (by simp) ?_
    refine AllReadyH.cons (o:=_) rfl (fun K hK=>?_) ?_
    ·skip
     go_simp
     go_at_call 164
     with_reducible refine (CG.out _ _ Y7.out).mono ?_
     rintro q w8 ⟨u,rfl,⟨b46,x46,y46,rfl,hu⟩,hb⟩
     have F8:=h_ (F7.out.call hb)
     have X8:=h_ (X7.out.below hb)
     have Y8:=h_ (Y7.out.below hb)
     have C8:=h_ (C7.out.below hb)
     have D8:=h_ (D7.out.below hb)
     have L8:=h_ (L7.out.below hb)
     clear F7 X7 Y7 C7 D7 L7
     have H8:=h_ hu
     clear hu hb
     try go_wp2_with fail
     refine hK.out _ _ ((F8.out.c6 0 rfl).1) (fun hHeld'=>?_)
     clear hK K hHeld
     have hHeld:=hHeld'
     clear hHeld'
     try simp only [Act.put,List.setIfInBounds_toArray,List.set_cons_zero,List.set_cons_succ]
     refine wpAnyH_ready (rs:=[8]) (by kernel_rfl) (by simp) ?_
     refine AllReadyH.cons (o:=_) rfl (fun K hK=>?_) ?_
     ·skip
      go_simp
      have F9:=h_ (F8.out.new 221 #[.bool false,.slice none 0 0] rfl)
      have X9:=h_ (X8.out.alloc (.cells #[.bool false,.slice none 0 0] 221))
      have Y9:=h_ (Y8.out.alloc (.cells #[.bool false,.slice none 0 0] 221))
      have C9:=h_ (C8.out.alloc (.cells #[.bool false,.slice none 0 0] 221))
      have D9:=h_ (D8.out.alloc (.cells #[.bool false,.slice none 0 0] 221))
      have L9:=h_ (L8.out.alloc (.cells #[.bool false,.slice none 0 0] 221))
      have H9:=h_ (H8.out.alloc (.cells #[.bool false,.slice none 0 0] 221))
      clear F8 X8 Y8 C8 D8 L8 H8
      obtain ⟨g47,hg47⟩:∃ g,g=(World.heap w8).size:=⟨_,rfl⟩
      rw [← hg47] at F9 ⊢
      have hzg47:(World.heap (World.alloc w8 (.cells #[.bool false,.slice none 0 0] 221))).size=g47+1:=by rw [hg47]; simp
      clear hg47
      simp only [List.nil_append,List.cons_append] at F9
      generalize World.alloc w8 _=W9 at hzg47 F9 X9 Y9 C9 D9 L9 H9 ⊢
      clear hzg47
      refine hK.out _ _ ((F9.out.c6 0 rfl).1) (fun hHeld'=>?_)
      clear hK K hHeld
      have hHeld:=hHeld'
      clear hHeld'
      try simp only [Act.put,List.setIfInBounds_toArray,List.set_cons_zero,List.set_cons_succ]
      refine wpAnyH_ready (rs:=[10]) (by kernel_rfl) (by simp) ?_
      refine AllReadyH.cons (o:=_) rfl (fun K hK=>?_) ?_
      ·skip
       have cc0:=F9.out.c2 2 rfl
       go_simp
       clear cc0
       obtain ⟨f,p⟩:=F9.out.s2 2 rfl (.bool n1) (.slice b45 x45 y45) rfl rfl
       generalize (World.setCell (World.setCell _ _ _) _ _)=W at f p ⊢
       have F10:=h_ (f)
       have X10:=h_ (X9.out.kp p)
       have Y10:=h_ (Y9.out.kp p)
       have C10:=h_ (C9.out.kp p)
       have D10:=h_ (D9.out.kp p)
       have L10:=h_ (L9.out.kp p)
       have H10:=h_ (H9.out.kp p)
       clear F9 X9 Y9 C9 D9 L9 H9
       clear f p
       simp only [List.set_cons_zero,List.set_cons_succ] at F10
       refine hK.out _ _ ((F10.out.c6 0 rfl).1) (fun hHeld'=>?_)
       clear hK K hHeld
       have hHeld:=hHeld'
       clear hHeld'
       try simp only [Act.put,List.setIfInBounds_toArray,List.set_cons_zero,List.set_cons_succ]
       refine wpAnyH_ready (rs:=[11]) (by kernel_rfl) (by simp) ?_
       refine AllReadyH.cons (o:=_) rfl (fun K hK=>?_) ?_
       ·skip
        have cc0:=F10.out.c2 1 rfl
        go_simp
        clear cc0
        obtain ⟨f,p⟩:=F10.out.s2 1 rfl (.bool n2) (.slice b46 x46 y46) rfl rfl
        generalize (World.setCell (World.setCell _ _ _) _ _)=W at f p ⊢
        have F11:=h_ (f)
        have X11:=h_ (X10.out.kp p)
        have Y11:=h_ (Y10.out.kp p)
        have C11:=h_ (C10.out.kp p)
        have D11:=h_ (D10.out.kp p)
        have L11:=h_ (L10.out.kp p)
        have H11:=h_ (H10.out.kp p)
        clear F10 X10 Y10 C10 D10 L10 H10
        clear f p
        simp only [List.set_cons_zero,List.set_cons_succ] at F11
        refine hK.out _ _ ((F11.out.c6 0 rfl).1) (fun hHeld'=>?_)
        clear hK K hHeld
        have hHeld:=hHeld'
        clear hHeld'
        try simp only [Act.put,List.setIfInBounds_toArray,List.set_cons_zero,List.set_cons_succ]
        refine wpAnyH_done (by kernel_rfl) ?_ _
        go_wp2_with fail
        go_meet
        exact ⟨_,_,_,_,_,_,_,_,rfl,rfl,F11.out.fz.one_fx 2 rfl rfl,F11.out.fz.one_fx 1 rfl rfl,L11.out,H11.out,C11.out,D11.out⟩
       exact AllReadyH.nil
      exact AllReadyH.nil
     exact AllReadyH.nil
    refine AllReadyH.cons (o:=_) rfl (fun K hK=>?_) ?_
    ·skip
     go_simp
     have F8:=h_ (F7.out.new 221 #[.bool false,.slice none 0 0] rfl)
     have X8:=h_ (X7.out.alloc (.cells #[.bool false,.slice none 0 0] 221))
     have Y8:=h_ (Y7.out.alloc (.cells #[.bool false,.slice none 0 0] 221))
     have C8:=h_ (C7.out.alloc (.cells #[.bool false,.slice none 0 0] 221))
     have D8:=h_ (D7.out.alloc (.cells #[.bool false,.slice none 0 0] 221))
     have L8:=h_ (L7.out.alloc (.cells #[.bool false,.slice none 0 0] 221))
     clear F7 X7 Y7 C7 D7 L7
     obtain ⟨g50,hg50⟩:∃ g,g=(World.heap w7).size:=⟨_,rfl⟩
     rw [← hg50] at F8 ⊢
     have hzg50:(World.heap (World.alloc w7 (.cells #[.bool false,.slice none 0 0] 221))).size=g50+1:=by rw [hg50]; simp
     clear hg50
     simp only [List.nil_append,List.cons_append] at F8
     generalize World.alloc w7 _=W8 at hzg50 F8 X8 Y8 C8 D8 L8 ⊢
     clear hzg50
     refine hK.out _ _ ((F8.out.c6 0 rfl).1) (fun hHeld'=>?_)
     clear hK K hHeld
     have hHeld:=hHeld'
     clear hHeld'
     try simp only [Act.put,List.setIfInBounds_toArray,List.set_cons_zero,List.set_cons_succ]
     refine wpAnyH_ready (rs:=[7]) (by kernel_rfl) (by simp) ?_
     refine AllReadyH.cons (o:=_) rfl (fun K hK=>?_) ?_
     ·skip
      go_simp
      go_at_call 164
      with_reducible refine (CG.out _ _ Y8.out).mono ?_
      rintro q w9 ⟨u,rfl,⟨b51,x51,y51,rfl,hu⟩,hb⟩
      have F9:=h_ (F8.out.call hb)
      have X9:=h_ (X8.out.below hb)
      have Y9:=h_ (Y8.out.below hb)
      have C9:=h_ (C8.out.below hb)
      have D9:=h_ (D8.out.below hb)
      have L9:=h_ (L8.out.below hb)
      clear F8 X8 Y8 C8 D8 L8
      have H9:=h_ hu
      clear hu hb
      try go_wp2_with fail
      refine hK.out _ _ ((F9.out.c6 0 rfl).1) (fun hHeld'=>?_)
      clear hK K hHeld
      have hHeld:=hHeld'
      clear hHeld'
      try simp only [Act.put,List.setIfInBounds_toArray,List.set_cons_zero,List.set_cons_succ]
      refine wpAnyH_ready (rs:=[10]) (by kernel_rfl) (by simp) ?_
      refine AllReadyH.cons (o:=_) rfl (fun K hK=>?_) ?_
      ·skip
       have cc0:=F9.out.c2 2 rfl
       go_simp
       clear cc0
       obtain ⟨f,p⟩:=F9.out.s2 2 rfl (.bool n1) (.slice b45 x45 y45) rfl rfl
       generalize (World.setCell (World.setCell _ _ _) _ _)=W at f p ⊢
       have F10:=h_ (f)
       have X10:=h_ (X9.out.kp p)
       have Y10:=h_ (Y9.out.kp p)
       have C10:=h_ (C9.out.kp p)
       have D10:=h_ (D9.out.kp p)
       have L10:=h_ (L9.out.kp p)
       have H10:=h_ (H9.out.kp p)
       clear F9 X9 Y9 C9 D9 L9 H9
       clear f p
       simp only [List.set_cons_zero,List.set_cons_succ] at F10
       refine hK.out _ _ ((F10.out.c6 0 rfl).1) (fun hHeld'=>?_)
       clear hK K hHeld
       have hHeld:=hHeld'
       clear hHeld'
       try simp only [Act.put,List.setIfInBounds_toArray,List.set_cons_zero,List.set_cons_succ]
       refine wpAnyH_ready (rs:=[11]) (by kernel_rfl) (by simp) ?_
       refine AllReadyH.cons (o:=_) rfl (fun K hK=>?_) ?_
       ·skip
        have cc0:=F10.out.c2 1 rfl
        go_simp
        clear cc0
        obtain ⟨f,p⟩:=F10.out.s2 1 rfl (.bool n2) (.slice b51 x51 y51) rfl rfl
        generalize (World.setCell (World.setCell _ _ _) _ _)=W at f p ⊢
        have F11:=h_ (f)
        have X11:=h_ (X10.out.kp p)
        have Y11:=h_ (Y10.out.kp p)
        have C11:=h_ (C10.out.kp p)
        have D11:=h_ (D10.out.kp p)
        have L11:=h_ (L10.out.kp p)
        have H11:=h_ (H10.out.kp p)
        clear F10 X10 Y10 C10 D10 L10 H10
        clear f p
        simp only [List.set_cons_zero,List.set_cons_succ] at F11
        refine hK.out _ _ ((F11.out.c6 0 rfl).1) (fun hHeld'=>?_)
        clear hK K hHeld
        have hHeld:=hHeld'
        clear hHeld'
        try simp only [Act.put,List.setIfInBounds_toArray,List.set_cons_zero,List.set_cons_succ]
        refine wpAnyH_done (by kernel_rfl) ?_ _
        go_wp2_with fail
        go_meet
        exact ⟨_,_,_,_,_,_,_,_,rfl,rfl,F11.out.fz.one_fx 2 rfl rfl,F11.out.fz.one_fx 1 rfl rfl,L11.out,H11.out,C11.out,D11.out⟩
       exact AllReadyH.nil
      exact AllReadyH.nil
     exact AllReadyH.nil
    exact AllReadyH.nil
   refine AllReadyH.cons (o:=_) rfl (fun K hK=>?_) ?_
   ·skip
    go_simp
    have F7:=h_ (F6.out.new 221 #[.bool false,.slice none 0 0] rfl)
    have X7:=h_ (X6.out.alloc (.cells #[.bool false,.slice none 0 0] 221))
    have Y7:=h_ (Y6.out.alloc (.cells #[.bool false,.slice none 0 0] 221))
    have C7:=h_ (C6.out.alloc (.cells #[.bool false,.slice none 0 0] 221))
    have D7:=h_ (D6.out.alloc (.cells #[.bool false,.slice none 0 0] 221))
    clear F6 X6 Y6 C6 D6
    obtain ⟨g54,hg54⟩:∃ g,g=(World.heap W6).size:=⟨_,rfl⟩
    rw [← hg54] at F7 ⊢
    have hzg54:(World.heap (World.alloc W6 (.cells #[.bool false,.slice none 0 0] 221))).size=g54+1:=by rw [hg54]; simp
    clear hg54
    simp only [List.nil_append,List.cons_append] at F7
    generalize World.alloc W6 _=W7 at hzg54 F7 X7 Y7 C7 D7 ⊢
    clear hzg54
    refine hK.out _ _ ((F7.out.c6 0 rfl).1) (fun hHeld'=>?_)
    clear hK K hHeld
    have hHeld:=hHeld'
    clear hHeld'
    try simp only [Act.put,List.setIfInBounds_toArray,List.set_cons_zero,List.set_cons_succ]
    refine wpAnyH_ready (rs:=[3]) (by kernel_rfl) (by simp) ?_
    refine AllReadyH.cons (o:=_) rfl (fun K hK=>?_) ?_
    ·skip
     go_simp
     go_at_call 163
     with_reducible refine (CF.out _ _ X7.out).mono ?_
     rintro q w8 ⟨u,rfl,⟨b55,x55,y55,rfl,hu⟩,hb⟩
     have F8:=h_ (F7.out.call hb)
     have X8:=h_ (X7.out.below hb)
     have Y8:=h_ (Y7.out.below hb)
     have C8:=h_ (C7.out.below hb)
     have D8:=h_ (D7.out.below hb)
     clear F7 X7 Y7 C7 D7
     have L8:=h_ hu
     clear hu hb
     try go_wp2_with fail
     refine hK.out _ _ ((F8.out.c6 0 rfl).1) (fun hHeld'=>?_)
     clear hK K hHeld
     have hHeld:=hHeld'
     clear hHeld'
     try simp only [Act.put,List.setIfInBounds_toArray,List.set_cons_zero,List.set_cons_succ]
     refine wpAnyH_ready (rs:=[7]) (by kernel_rfl) (by simp) ?_
     refine AllReadyH.cons (o:=_) rfl (fun K hK=>?_) ?_
     ·skip
      go_simp
      go_at_call 164
      with_reducible refine (CG.out _ _ Y8.out).mono ?_
      rintro q w9 ⟨u,rfl,⟨b56,x56,y56,rfl,hu⟩,hb⟩
      have F9:=h_ (F8.out.call hb)
      have X9:=h_ (X8.out.below hb)
      have Y9:=h_ (Y8.out.below hb)
      have C9:=h_ (C8.out.below hb)
      have D9:=h_ (D8.out.below hb)
      have L9:=h_ (L8.out.below hb)
      clear F8 X8 Y8 C8 D8 L8
      have H9:=h_ hu
      clear hu hb
      try go_wp2_with fail
      refine hK.out _ _ ((F9.out.c6 0 rfl).1) (fun hHeld'=>?_)
      clear hK K hHeld
      have hHeld:=hHeld'
      clear hHeld'
      try simp only [Act.put,List.setIfInBounds_toArray,List.set_cons_zero,List.set_cons_succ]
      refine wpAnyH_ready (rs:=[10]) (by kernel_rfl) (by simp) ?_
      refine AllReadyH.cons (o:=_) rfl (fun K hK=>?_) ?_
      ·skip
       have cc0:=F9.out.c2 2 rfl
       go_simp
       clear cc0
       obtain ⟨f,p⟩:=F9.out.s2 2 rfl (.bool n1) (.slice b55 x55 y55) rfl rfl
       generalize (World.setCell (World.setCell _ _ _) _ _)=W at f p ⊢
       have F10:=h_ (f)
       have X10:=h_ (X9.out.kp p)
       have Y10:=h_ (Y9.out.kp p)
       have C10:=h_ (C9.out.kp p)
       have D10:=h_ (D9.out.kp p)
       have L10:=h_ (L9.out.kp p)
       have H10:=h_ (H9.out.kp p)
       clear F9 X9 Y9 C9 D9 L9 H9
       clear f p
       simp only [List.set_cons_zero,List.set_cons_succ] at F10
       refine hK.out _ _ ((F10.out.c6 0 rfl).1) (fun hHeld'=>?_)
       clear hK K hHeld
       have hHeld:=hHeld'
       clear hHeld'
       try simp only [Act.put,List.setIfInBounds_toArray,List.set_cons_zero,List.set_cons_succ]
       refine wpAnyH_ready (rs:=[11]) (by kernel_rfl) (by simp) ?_
       refine AllReadyH.cons (o:=_) rfl (fun K hK=>?_) ?_
       ·skip
        have cc0:=F10.out.c2 1 rfl
        go_simp
        clear cc0
        obtain ⟨f,p⟩:=F10.out.s2 1 rfl (.bool n2) (.slice b56 x56 y56) rfl rfl
        generalize (World.setCell (World.setCell _ _ _) _ _)=W at f p ⊢
        have F11:=h_ (f)
        have X11:=h_ (X10.out.kp p)
        have Y11:=h_ (Y10.out.kp p)
        have C11:=h_ (C10.out.kp p)
        have D11:=h_ (D10.out.kp p)
        have L11:=h_ (L10.out.kp p)
        have H11:=h_ (H10.out.kp p)
        clear F10 X10 Y10 C10 D10 L10 H10
        clear f p
        simp only [List.set_cons_zero,List.set_cons_succ] at F11
        refine hK.out _ _ ((F11.out.c6 0 rfl).1) (fun hHeld'=>?_)
        clear hK K hHeld
        have hHeld:=hHeld'
        clear hHeld'
        try simp only [Act.put,List.setIfInBounds_toArray,List.set_cons_zero,List.set_cons_succ]
        refine wpAnyH_done (by kernel_rfl) ?_ _
        go_wp2_with fail
        go_meet
        exact ⟨_,_,_,_,_,_,_,_,rfl,rfl,F11.out.fz.one_fx 2 rfl rfl,F11.out.fz.one_fx 1 rfl rfl,L11.out,H11.out,C11.out,D11.out⟩
       exact AllReadyH.nil
      exact AllReadyH.nil
     exact AllReadyH.nil
    exact AllReadyH.nil
   exact AllReadyH.nil
  exact AllReadyH.nil
 case rest =>
  obtain ⟨g1,g2,al,kl,cl,ah,kh,ch,rfl,rfl,hF,hG,hL,hH,hC,hD⟩:=hcut.out
  have F200:=h_ hF
  have G200:=h_ hG
  have L200:=h_ hL
  have H200:=h_ hH
  have C200:=h_ hC
  have D200:=h_ hD
  clear hF hG hL hH hC hD hcut F4 X4 Y4 C4 D4
  cases n1
  case false =>
   obtain ⟨rfl,hqc⟩:=AR.out.2.2.2.2.2.2.2.2.2.2.2.1 rfl
   have CD:Hid (∀ w u v,Dg w u l→Dg w v d→Calls Tryz.prog 167 #[u,v] w fun e w'=>∃ x' y',e=.returned (.tuple #[x',y',.int .i64 0])∧Dg w' x' q∧Dg w' y' x∧Below w.heap.size w w'):=fun w u v hu hv=>by
    obtain ⟨a1,a2,a3,a4,a5,a6,a7,a8,-⟩:=AR.out
    have:=Div_g (hu.rd (by omega)) (hv.rd (by omega)) a6 (by omega) (by omega)
    have e1:l / d=q:=a7
    have e2:l % d=x:=a8
    rw [e1,e2] at this
    exact this
   have CN:Hid (∀ w u v,Nm w u false h→Dg w v (q * c)→Calls Tryz.prog 168 #[u,v] w (RetNm false y w)):=fun w u v hu hv=>by
    obtain ⟨a1,a2,a3,a4,a5,a6,a7,a8,a9,-,-,-,b1,b2,-⟩:=AR.out
    have:=Minus_m hu (hv.rd (by omega)) hqc (by omega)
    have e1:h - q * c=y:=a9
    rw [e1] at this
    exact this
   have FIN2:Hid (∀ w' u v,Dg w' u x→Dg w' v y→Below w.heap.size w w'→(0 < cc→PP (.returned (.tuple #[.int .i64 0,.slice none 0 0,.slice none 0 0,.int .i64 1])) w')∧(cc≤0→PP (.returned (.tuple #[.int .i64 (q:Int),u,v,.int .i64 0])) w')):=fun w' u v=>FIN.out w' u v (q:Int) rfl
   clear hqc FIN
   have c0_200:=F200.out.c2 0 rfl
   go_upto_region 6 with (fail)
   obtain ⟨gx,hgx⟩:∃ gx,gx=(World.heap wc).size:=⟨_,rfl⟩
   have NE0:g2 < gx:=hgx ▸ ((G200.out.box 0 _ _ _ rfl).lt)
   clear c0_200
   have F201:=h_ (F200.out.new 221 #[.bool false,.slice none 0 0] rfl)
   have G201:=h_ (G200.out.alloc (.cells #[.bool false,.slice none 0 0] 221))
   have L201:=h_ (L200.out.alloc (.cells #[.bool false,.slice none 0 0] 221))
   have H201:=h_ (H200.out.alloc (.cells #[.bool false,.slice none 0 0] 221))
   have C201:=h_ (C200.out.alloc (.cells #[.bool false,.slice none 0 0] 221))
   have D201:=h_ (D200.out.alloc (.cells #[.bool false,.slice none 0 0] 221))
   clear F200 G200 L200 H200 C200 D200
   obtain ⟨g3,hg3⟩:∃ g,g=(World.heap wc).size:=⟨_,rfl⟩
   rw [← hg3] at F201 ⊢
   have hzg3:(World.heap (World.alloc wc (.cells #[.bool false,.slice none 0 0] 221))).size=g3+1:=by rw [hg3]; simp
   rw [← hgx] at hg3; rw [← hg3] at NE0; clear hgx hg3 gx
   simp only [List.nil_append,List.cons_append] at F201
   generalize World.alloc wc _=W201 at hzg3 F201 G201 L201 H201 C201 D201 ⊢
   have F202:=h_ (F201.out.new 221 #[.bool false,.slice none 0 0] rfl)
   have G202:=h_ (G201.out.alloc (.cells #[.bool false,.slice none 0 0] 221))
   have L202:=h_ (L201.out.alloc (.cells #[.bool false,.slice none 0 0] 221))
   have H202:=h_ (H201.out.alloc (.cells #[.bool false,.slice none 0 0] 221))
   have C202:=h_ (C201.out.alloc (.cells #[.bool false,.slice none 0 0] 221))
   have D202:=h_ (D201.out.alloc (.cells #[.bool false,.slice none 0 0] 221))
   clear F201 G201 L201 H201 C201 D201
   rw [hzg3] at F202
   clear hzg3
   simp only [List.nil_append,List.cons_append] at F202
   generalize World.alloc W201 _=W202 at F202 G202 L202 H202 C202 D202 ⊢
   have c0_202:=F202.out.c2 0 rfl
   have c1_202:=F202.out.c2 1 rfl
   have c2_202:=F202.out.c2 2 rfl
   have NE:=h_ NE0
   clear NE0
   go_wp2_with fail
   clear c0_202 c1_202 c2_202
   refine (CD.out _ _ _ L202.out D202.out).mono ?_
   rintro q w203 ⟨x1,y1,rfl,hx,hy,hb⟩
   have F203:=h_ (F202.out.call hb)
   have G203:=h_ (G202.out.call hb)
   have L203:=h_ (L202.out.below hb)
   have H203:=h_ (H202.out.below hb)
   have C203:=h_ (C202.out.below hb)
   have D203:=h_ (D202.out.below hb)
   clear F202 G202 L202 H202 C202 D202
   have P203:=h_ (hx)
   have Q203:=h_ (hy)
   clear hb
   have c0_203:=F203.out.c2 0 rfl
   have c1_203:=F203.out.c2 1 rfl
   have c2_203:=F203.out.c2 2 rfl
   obtain ⟨a5,k5,c5,rfl⟩:=P203.out.form
   obtain ⟨a6,k6,c6,rfl⟩:=Q203.out.form
   clear L203 D203
   go_wp2_with fail
   clear c0_203 c1_203 c2_203
   refine (CM.out _ _ P203.out).mono ?_
   rintro q w204 ⟨rfl,hb⟩
   have F204:=h_ (F203.out.call hb)
   have G204:=h_ (G203.out.call hb)
   have H204:=h_ (H203.out.below hb)
   have C204:=h_ (C203.out.below hb)
   have P204:=h_ (P203.out.below hb)
   have Q204:=h_ (Q203.out.below hb)
   clear F203 G203 H203 C203 P203 Q203
   clear hb
   have c0_204:=F204.out.c2 0 rfl
   have c1_204:=F204.out.c2 1 rfl
   have c2_204:=F204.out.c2 2 rfl
   go_wp2_with fail
   clear c0_204 c1_204 c2_204
   refine (CU.out _ _ _ P204.out C204.out).mono ?_
   rintro q w205 ⟨u,rfl,hu,hb⟩
   have F205:=h_ (F204.out.call hb)
   have G205:=h_ (G204.out.call hb)
   have H205:=h_ (H204.out.below hb)
   have C205:=h_ (C204.out.below hb)
   have P205:=h_ (P204.out.below hb)
   have Q205:=h_ (Q204.out.below hb)
   clear F204 G204 H204 C204 P204 Q204
   have R205:=h_ (hu)
   clear hb
   have c0_205:=F205.out.c2 0 rfl
   have c1_205:=F205.out.c2 1 rfl
   have c2_205:=F205.out.c2 2 rfl
   clear P205 C205
   obtain ⟨a7,k7,c7,rfl⟩:=R205.out.form
   have e0:=G205.out.c2 0 rfl
   go_wp2_with fail
   clear e0
   clear c0_205 c1_205 c2_205
   refine (CN.out _ _ _ ⟨_,_,_,rfl,H205.out⟩ R205.out).mono ?_
   rintro q w206 ⟨u,rfl,⟨a8,k8,c8,rfl,hu⟩,hb⟩
   have F206:=h_ (F205.out.call hb)
   have G206:=h_ (G205.out.call hb)
   have H206:=h_ (H205.out.below hb)
   have Q206:=h_ (Q205.out.below hb)
   have R206:=h_ (R205.out.below hb)
   clear F205 G205 H205 Q205 R205
   have V206:=h_ (hu)
   clear hb
   have c0_206:=F206.out.c2 0 rfl
   have c1_206:=F206.out.c2 1 rfl
   have c2_206:=F206.out.c2 2 rfl
   clear R206 G206 H206
   go_upto_region 18 with (fail)
   clear c0_206 c1_206 c2_206
   obtain ⟨f0,p0⟩:=F206.out.s2 1 rfl (.bool false) (.slice a6 k6 c6) rfl rfl
   obtain ⟨f1,p1⟩:=f0.s2 2 rfl (.bool false) (.slice a8 k8 c8) rfl rfl
   have p:=p0.trans p1
   clear f0 p0 p1
   generalize World.setCell (World.setCell (World.setCell (World.setCell _ _ _) _ _) _ _) _ _=W at f1 p ⊢
   have F207:=h_ (f1)
   have Q207:=h_ (Q206.out.kp p)
   have V207:=h_ (V206.out.kp p)
   clear F206 Q206 V206
   clear f1 p
   simp only [List.set_cons_zero,List.set_cons_succ] at F207
   have c0_207:=F207.out.c2 0 rfl
   have c1_207:=F207.out.c2 1 rfl
   have c2_207:=F207.out.c2 2 rfl
   go_wp2_with fail
   clear c0_207 c1_207 c2_207
   refine (of_any (n:=1) (by decide) V207.out.tab).mono ?_
   rintro q w208 ⟨u,rfl,hu,hb⟩
   have F208:=h_ (F207.out.call hb)
   have Q208:=h_ (Q207.out.below hb)
   have V208:=h_ (V207.out.below hb)
   clear F207 Q207 V207
   have O208:=h_ (hu)
   clear hb
   have c0_208:=F208.out.c2 0 rfl
   have c1_208:=F208.out.c2 1 rfl
   have c2_208:=F208.out.c2 2 rfl
   go_wp2_with fail
   clear c0_208 c1_208 c2_208
   refine (CL.out _ _ O208.out).mono ?_
   rintro q w209 ⟨u,rfl,hu,hb⟩
   have F209:=h_ (F208.out.call hb)
   have Q209:=h_ (Q208.out.below hb)
   have V209:=h_ (V208.out.below hb)
   have O209:=h_ (O208.out.below hb)
   clear F208 Q208 V208 O208
   have W209:=h_ (hu)
   clear hb
   have c0_209:=F209.out.c2 0 rfl
   have c1_209:=F209.out.c2 1 rfl
   have c2_209:=F209.out.c2 2 rfl
   clear O209
   obtain ⟨a9,k9,c9,rfl⟩:=W209.out.form
   go_wp2_with fail
   clear c0_209 c1_209 c2_209
   refine (CP.out _ _ _ V209.out W209.out).mono ?_
   rintro q w210 ⟨rfl,hb⟩
   have F210:=h_ (F209.out.call hb)
   have Q210:=h_ (Q209.out.below hb)
   have V210:=h_ (V209.out.below hb)
   have W210:=h_ (W209.out.below hb)
   clear F209 Q209 V209 W209
   clear hb
   have c0_210:=F210.out.c2 0 rfl
   have c1_210:=F210.out.c2 1 rfl
   have c2_210:=F210.out.c2 2 rfl
   by_cases hcc:0 < cc
   ·have t1:decide (0 < cc)=true:=decide_eq_true hcc
    have HP:=h_ ((FIN2.out _ _ _ Q210.out V210.out F210.out.b).1 hcc)
    clear hcc
    go_wp2
    refine bodyPost_ret (v:=.tuple #[.int .i64 0,.slice none 0 0,.slice none 0 0,.int .i64 1]) (by simp [results,Tryz.results133,go_sem]) rfl ?_
    exact HP.out
   ·have t1:decide (0 < cc)=false:=decide_eq_false hcc
    have HP:=h_ (fun m=>(FIN2.out _ _ _ (Q210.out.drewN m) (V210.out.drewN m) (F210.out.drewN m).b).2 (by omega))
    clear hcc
    go_upto_region 21 with (fail)
    go_quiet (fail)
    go_wp2
    refine bodyPost_ret (v:=.tuple #[.int .i64 (q:Int),.slice a6 k6 c6,.slice a8 k8 c8,.int .i64 0]) (by simp [results,Tryz.results133,go_sem]) rfl ?_
    exact HP.out _
  case true =>
   have CD:Hid (∀ w u v,Dg w u l→Dg w v c→Calls Tryz.prog 165 #[u,v] w (RetDgE q 0 w)):=fun w u v hu hv=>by
    obtain ⟨a1,a2,a3,a4,a5,a6,a7,-⟩:=AR.out
    have:=Up_r (hu.rd (by omega)) (hv.rd (by omega)) a5 (by omega) (by omega)
    have e1:(if l % c=0 then l / c else l / c+1)=q:=a7
    rw [e1] at this
    exact this
   have CU2:Hid (∀ w u v,Dg w u q→Dg w v d→Calls Tryz.prog 32 #[u,v] w (RetDgE (q * d) 0 w)):=fun w u v h k=>by
    obtain ⟨a1,a2,a3,a4,a5,a6,a7,a8,a9,b1,b2,b3,b4,b5,b6⟩:=AR.out
    exact mul_s (h.rd (by omega)) (k.rd (by omega)) (by omega)
   have CN1:Hid (∀ w u v,Nm w u true l→Dg w v (q * c)→Calls Tryz.prog 166 #[u,v] w (RetNm false x w)):=fun w u v hu hv=>by
    obtain ⟨a1,a2,a3,a4,a5,a6,a7,a8,a9,b1,b2,b3,b4,b5,b6⟩:=AR.out
    have:=Plus_m hu (hv.rd (by omega)) (fun _=>b1 rfl) (by omega) (by omega)
    have e1:plusN true l (q * c)=x:=a8
    rw [e1] at this
    exact this
   have CN2:Hid (∀ w u v,Nm w u n2 h→Dg w v (q * d)→Calls Tryz.prog 166 #[u,v] w (RetNm false y w)):=fun w u v hu hv=>by
    obtain ⟨a1,a2,a3,a4,a5,a6,a7,a8,a9,b1,b2,b3,b4,b5,b6⟩:=AR.out
    have:=Plus_m hu (hv.rd (by omega)) (b2 rfl) (by omega) (by omega)
    have e1:plusN n2 h (q * d)=y:=a9
    rw [e1] at this
    exact this
   have FIN2:Hid (∀ w' u v,Dg w' u x→Dg w' v y→Below w.heap.size w w'→(0 < cc→PP (.returned (.tuple #[.int .i64 0,.slice none 0 0,.slice none 0 0,.int .i64 1])) w')∧(cc≤0→PP (.returned (.tuple #[.int .i64 (-(q:Int)),u,v,.int .i64 0])) w')):=fun w' u v=>FIN.out w' u v (-(q:Int)) rfl
   clear FIN
   have c0_200:=F200.out.c2 0 rfl
   go_upto_region 6 with (fail)
   obtain ⟨gx,hgx⟩:∃ gx,gx=(World.heap wc).size:=⟨_,rfl⟩
   have NE0:g2 < gx:=hgx ▸ ((G200.out.box 0 _ _ _ rfl).lt)
   clear c0_200
   have F201:=h_ (F200.out.new 221 #[.bool false,.slice none 0 0] rfl)
   have G201:=h_ (G200.out.alloc (.cells #[.bool false,.slice none 0 0] 221))
   have L201:=h_ (L200.out.alloc (.cells #[.bool false,.slice none 0 0] 221))
   have H201:=h_ (H200.out.alloc (.cells #[.bool false,.slice none 0 0] 221))
   have C201:=h_ (C200.out.alloc (.cells #[.bool false,.slice none 0 0] 221))
   have D201:=h_ (D200.out.alloc (.cells #[.bool false,.slice none 0 0] 221))
   clear F200 G200 L200 H200 C200 D200
   obtain ⟨g3,hg3⟩:∃ g,g=(World.heap wc).size:=⟨_,rfl⟩
   rw [← hg3] at F201 ⊢
   have hzg3:(World.heap (World.alloc wc (.cells #[.bool false,.slice none 0 0] 221))).size=g3+1:=by rw [hg3]; simp
   rw [← hgx] at hg3; rw [← hg3] at NE0; clear hgx hg3 gx
   simp only [List.nil_append,List.cons_append] at F201
   generalize World.alloc wc _=W201 at hzg3 F201 G201 L201 H201 C201 D201 ⊢
   have F202:=h_ (F201.out.new 221 #[.bool false,.slice none 0 0] rfl)
   have G202:=h_ (G201.out.alloc (.cells #[.bool false,.slice none 0 0] 221))
   have L202:=h_ (L201.out.alloc (.cells #[.bool false,.slice none 0 0] 221))
   have H202:=h_ (H201.out.alloc (.cells #[.bool false,.slice none 0 0] 221))
   have C202:=h_ (C201.out.alloc (.cells #[.bool false,.slice none 0 0] 221))
   have D202:=h_ (D201.out.alloc (.cells #[.bool false,.slice none 0 0] 221))
   clear F201 G201 L201 H201 C201 D201
   rw [hzg3] at F202
   clear hzg3
   simp only [List.nil_append,List.cons_append] at F202
   generalize World.alloc W201 _=W202 at F202 G202 L202 H202 C202 D202 ⊢
   have c0_202:=F202.out.c2 0 rfl
   have c1_202:=F202.out.c2 1 rfl
   have c2_202:=F202.out.c2 2 rfl
   have NE:=h_ NE0
   clear NE0
   go_wp2_with fail
   clear c0_202 c1_202 c2_202
   refine (CD.out _ _ _ L202.out C202.out).mono ?_
   rintro q w203 ⟨x1,rfl,hx,hb⟩
   have F203:=h_ (F202.out.call hb)
   have G203:=h_ (G202.out.call hb)
   have L203:=h_ (L202.out.below hb)
   have H203:=h_ (H202.out.below hb)
   have C203:=h_ (C202.out.below hb)
   have D203:=h_ (D202.out.below hb)
   clear F202 G202 L202 H202 C202 D202
   have P203:=h_ (hx)
   clear hb
   have c0_203:=F203.out.c2 0 rfl
   have c1_203:=F203.out.c2 1 rfl
   have c2_203:=F203.out.c2 2 rfl
   obtain ⟨a5,k5,c5,rfl⟩:=P203.out.form
   go_wp2_with fail
   clear c0_203 c1_203 c2_203
   refine (CM.out _ _ P203.out).mono ?_
   rintro q w204 ⟨rfl,hb⟩
   have F204:=h_ (F203.out.call hb)
   have G204:=h_ (G203.out.call hb)
   have L204:=h_ (L203.out.below hb)
   have H204:=h_ (H203.out.below hb)
   have C204:=h_ (C203.out.below hb)
   have D204:=h_ (D203.out.below hb)
   have P204:=h_ (P203.out.below hb)
   clear F203 G203 L203 H203 C203 D203 P203
   clear hb
   have c0_204:=F204.out.c2 0 rfl
   have c1_204:=F204.out.c2 1 rfl
   have c2_204:=F204.out.c2 2 rfl
   go_wp2_with fail
   clear c0_204 c1_204 c2_204
   refine (CU.out _ _ _ P204.out C204.out).mono ?_
   rintro q w205 ⟨u,rfl,hu,hb⟩
   have F205:=h_ (F204.out.call hb)
   have G205:=h_ (G204.out.call hb)
   have L205:=h_ (L204.out.below hb)
   have H205:=h_ (H204.out.below hb)
   have C205:=h_ (C204.out.below hb)
   have D205:=h_ (D204.out.below hb)
   have P205:=h_ (P204.out.below hb)
   clear F204 G204 L204 H204 C204 D204 P204
   have R205:=h_ (hu)
   clear hb
   have c0_205:=F205.out.c2 0 rfl
   have c1_205:=F205.out.c2 1 rfl
   have c2_205:=F205.out.c2 2 rfl
   obtain ⟨a7,k7,c7,rfl⟩:=R205.out.form
   go_wp2_with fail
   clear c0_205 c1_205 c2_205
   refine (CU2.out _ _ _ P205.out D205.out).mono ?_
   rintro q w206 ⟨u,rfl,hu,hb⟩
   have F206:=h_ (F205.out.call hb)
   have G206:=h_ (G205.out.call hb)
   have L206:=h_ (L205.out.below hb)
   have H206:=h_ (H205.out.below hb)
   have C206:=h_ (C205.out.below hb)
   have D206:=h_ (D205.out.below hb)
   have P206:=h_ (P205.out.below hb)
   have R206:=h_ (R205.out.below hb)
   clear F205 G205 L205 H205 C205 D205 P205 R205
   have S206:=h_ (hu)
   clear hb
   have c0_206:=F206.out.c2 0 rfl
   have c1_206:=F206.out.c2 1 rfl
   have c2_206:=F206.out.c2 2 rfl
   obtain ⟨b7,e7,f7,rfl⟩:=S206.out.form
   clear P206 C206 D206
   go_upto_region 12 with (fail)
   clear c0_206 c1_206 c2_206
   have FCD:=h_ (And.intro (((F206.out.drew).c2 0 rfl).1) (((G206.out.drew).c2 0 rfl).1))
   go_region_held3 (fun w'=>(w'.cell? ⟨g1,0,none⟩=some (.bool true)∧w'.cell? ⟨g1,1,none⟩=some (.slice al kl cl))∧(w'.cell? ⟨g2,0,none⟩=some (.bool n2)∧w'.cell? ⟨g2,1,none⟩=some (.slice ah kh ch))) (first | with_reducible exact FCD.out | with_reducible exact FC.out | exact And.intro (((F208.out.s2 1 rfl (.bool false) (.slice m207 e207 d207) rfl rfl).1.c2 0 rfl).1) (c2o ((G208.out.c2 0 rfl).1) (by have:=NE.out; omega)) | exact And.intro ((((F208.out.s2 1 rfl (.bool false) (.slice m207 e207 d207) rfl rfl).1.s2 2 rfl (.bool false) (.slice m208 e208 d208) rfl rfl).1.c2 0 rfl).1) (c2o (c2o ((G208.out.c2 0 rfl).1) (by have:=NE.out; omega)) (by have:=NE.out; omega))) (first | (go_at_call 166; (with_reducible refine (CN2.out _ _ _ (Nm.mk n2 H207.out) S207.out).mono ?_); rintro q ww208 ⟨u,rfl,⟨m208,e208,d208,rfl,hu⟩,hb⟩; have F208:=h_ (F207.out.call hb); have G208:=h_ (G207.out.call hb); have Q208:=h_ (Q207.out.below hb); have V208:=h_ hu; have FC:=h_ (And.intro ((F208.out.c2 0 rfl).1) ((G208.out.c2 0 rfl).1)); have c1_208:=F208.out.c2 1 rfl; have c2_208:=F208.out.c2 2 rfl; clear hb) | (go_at_call 166; (with_reducible refine (CN1.out _ _ _ (Nm.mk true (L206.out.drew)) (R206.out.drew)).mono ?_); rintro q ww207 ⟨u,rfl,⟨m207,e207,d207,rfl,hu⟩,hb⟩; have F207:=h_ ((F206.out.drew).call hb); have G207:=h_ ((G206.out.drew).call hb); have H207:=h_ ((H206.out.drew).below hb); have S207:=h_ ((S206.out.drew).below hb); have Q207:=h_ hu; have FC:=h_ (And.intro ((F207.out.c2 0 rfl).1) ((G207.out.c2 0 rfl).1)); have c1_207:=F207.out.c2 1 rfl; have c2_207:=F207.out.c2 2 rfl; clear hb))
   obtain ⟨f0,p0⟩:=F208.out.s2 1 rfl (.bool false) (.slice m207 e207 d207) rfl rfl
   obtain ⟨f1,p1⟩:=f0.s2 2 rfl (.bool false) (.slice m208 e208 d208) rfl rfl
   have p:=p0.trans p1
   clear f0 p0 p1
   generalize World.setCell (World.setCell (World.setCell (World.setCell _ _ _) _ _) _ _) _ _=W at f1 p ⊢
   have F209:=h_ (f1)
   have Q209:=h_ (Q208.out.kp p)
   have V209:=h_ (V208.out.kp p)
   clear F208 Q208 V208
   clear f1 p
   simp only [List.set_cons_zero,List.set_cons_succ] at F209
   have c0_209:=F209.out.c2 0 rfl
   have c1_209:=F209.out.c2 1 rfl
   have c2_209:=F209.out.c2 2 rfl
   go_wp2_with fail
   clear c0_209 c1_209 c2_209
   refine (of_any (n:=1) (by decide) V209.out.tab).mono ?_
   rintro q w210 ⟨u,rfl,hu,hb⟩
   have F210:=h_ (F209.out.call hb)
   have Q210:=h_ (Q209.out.below hb)
   have V210:=h_ (V209.out.below hb)
   clear F209 Q209 V209
   have O210:=h_ (hu)
   clear hb
   have c0_210:=F210.out.c2 0 rfl
   have c1_210:=F210.out.c2 1 rfl
   have c2_210:=F210.out.c2 2 rfl
   go_wp2_with fail
   clear c0_210 c1_210 c2_210
   refine (CL.out _ _ O210.out).mono ?_
   rintro q w211 ⟨u,rfl,hu,hb⟩
   have F211:=h_ (F210.out.call hb)
   have Q211:=h_ (Q210.out.below hb)
   have V211:=h_ (V210.out.below hb)
   have O211:=h_ (O210.out.below hb)
   clear F210 Q210 V210 O210
   have W211:=h_ (hu)
   clear hb
   have c0_211:=F211.out.c2 0 rfl
   have c1_211:=F211.out.c2 1 rfl
   have c2_211:=F211.out.c2 2 rfl
   clear O211
   obtain ⟨a9,k9,c9,rfl⟩:=W211.out.form
   go_wp2_with fail
   clear c0_211 c1_211 c2_211
   refine (CP.out _ _ _ V211.out W211.out).mono ?_
   rintro q w212 ⟨rfl,hb⟩
   have F212:=h_ (F211.out.call hb)
   have Q212:=h_ (Q211.out.below hb)
   have V212:=h_ (V211.out.below hb)
   have W212:=h_ (W211.out.below hb)
   clear F211 Q211 V211 W211
   clear hb
   have c0_212:=F212.out.c2 0 rfl
   have c1_212:=F212.out.c2 1 rfl
   have c2_212:=F212.out.c2 2 rfl
   by_cases hcc:0 < cc
   ·have t1:decide (0 < cc)=true:=decide_eq_true hcc
    have HP:=h_ ((FIN2.out _ _ _ Q212.out V212.out F212.out.b).1 hcc)
    clear hcc
    go_wp2
    refine bodyPost_ret (v:=.tuple #[.int .i64 0,.slice none 0 0,.slice none 0 0,.int .i64 1]) (by simp [results,Tryz.results133,go_sem]) rfl ?_
    exact HP.out
   ·have t1:decide (0 < cc)=false:=decide_eq_false hcc
    have HP:=h_ (fun m=>(FIN2.out _ _ _ (Q212.out.drewN m) (V212.out.drewN m) (F212.out.drewN m).b).2 (by omega))
    clear hcc
    go_upto_region 21 with (fail)
    go_quiet (fail)
    go_wp2
    refine bodyPost_ret (v:=.tuple #[.int .i64 (-(q:Int)),.slice m207 e207 d207,.slice m208 e208 d208,.int .i64 0]) (by simp [results,Tryz.results133,go_sem]) rfl ?_
    exact HP.out _
end Go.Proofs.YtobpioceopfkpaaGreatDoor
