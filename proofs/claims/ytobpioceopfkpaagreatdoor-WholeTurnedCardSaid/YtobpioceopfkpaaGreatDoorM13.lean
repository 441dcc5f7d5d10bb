/-
  Lemmas for WholeTurned and WholeGrows and WholeRises, part 13 of 36: what the program's functions do, and plain facts; without conditions.
-/
import Derived.Test.YtobpioceopfkpaaGreatDoorM12
import Derived.LoopN
set_option maxRecDepth 100000
set_option maxHeartbeats 4000000
namespace Go.Proofs.YtobpioceopfkpaaGreatDoor
open Go.RowKit
theorem info42:(Tryz.prog.info? 42).map (fun i=>(i.zero,i.size,i.bytes))=some (some (.agg #[.bool false,.slice none 0 0,.int .i64 0]),3,40):=by kernel_rfl
theorem Fx.front {w0 w:World} {bs cs:List (Nat × TypeId × Array Value)} (h:Fx w0 w (bs ++ cs)):Fx w0 w bs:=by
 have key:∀ (i:Nat) x,bs[i]?=some x→(bs ++ cs)[i]?=some x:=fun i x hi=>by
  rw [List.getElem?_append_left (List.getElem?_eq_some_iff.1 hi).1]; exact hi
 exact ⟨h.b,fun i g t c hi=>h.box i g t c (key i _ hi),fun i g t c hi=>h.low i g t c (key i _ hi),fun i j g t c g' t' c' hij hi hj=>h.asc i j g t c g' t' c' hij (key i _ hi) (key j _ hj),fun i g t c hi=>h.nl i g t c (key i _ hi)⟩
theorem Rn.front {bs cs:List (Nat × TypeId × Array Value)} {v:Value} (h:Rn (bs ++ cs) v):Rn bs v:=fun i g t c hi=>h i g t c (by
  rw [List.getElem?_append_left (List.getElem?_eq_some_iff.1 hi).1]; exact hi)
theorem Q4.below {w w':World} {v:Value} {p q r s:Dn} (h:Q4 w v p q r s) (hb:Below w.heap.size w w'):Q4 w' v p q r s:=by
 obtain ⟨g,cap,a1,k1,c1,a2,k2,c2,a3,k3,c3,a4,k4,c4,rfl,h1,h2,h3,h4,y1,y2,y3,y4⟩:=h
 exact ⟨g,cap,a1,k1,c1,a2,k2,c2,a3,k3,c3,a4,k4,c4,rfl,cells_below hb h1,cells_below hb h2,cells_below hb h3,cells_below hb h4,y1.below hb,y2.below hb,y3.below hb,y4.below hb⟩
theorem Q4.of_rw {w0 w:World} {v:Value} {p q r s:Dn} {a1 a2 a3 a4:Option Addr} {k1 c1 k2 c2 k3 c3 k4 c4:Nat}
  (R:Rw w0 w v 4 [.bool p.neg,.slice a1 k1 c1,.int .i64 p.e,.bool q.neg,.slice a2 k2 c2,.int .i64 q.e,.bool r.neg,.slice a3 k3 c3,.int .i64 r.e,.bool s.neg,.slice a4 k4 c4,.int .i64 s.e])
  (y1:Cy w (.agg #[.bool p.neg,.slice a1 k1 c1,.int .i64 p.e]) p) (y2:Cy w (.agg #[.bool q.neg,.slice a2 k2 c2,.int .i64 q.e]) q)
  (y3:Cy w (.agg #[.bool r.neg,.slice a3 k3 c3,.int .i64 r.e]) r) (y4:Cy w (.agg #[.bool s.neg,.slice a4 k4 c4,.int .i64 s.e]) s):Q4 w v p q r s:=by
 rcases R.rep with ⟨_,h0⟩ | ⟨g,cap,cur,rfl,_,hg,_,_,_,htake,_⟩
 ·cases h0
 ·have hc:∀ (j:Nat) (u:Value),[Value.bool p.neg,.slice a1 k1 c1,.int .i64 p.e,.bool q.neg,.slice a2 k2 c2,.int .i64 q.e,.bool r.neg,.slice a3 k3 c3,.int .i64 r.e,.bool s.neg,.slice a4 k4 c4,.int .i64 s.e][j]?=some u→w.cell? ⟨g,j,none⟩=some u:=by
   intro j u hu
   rw [hg.cell j]
   rw [← htake,List.getElem?_take] at hu
   split at hu
   ·simpa using hu
   ·cases hu
  exact ⟨g,cap,a1,k1,c1,a2,k2,c2,a3,k3,c3,a4,k4,c4,rfl,⟨hc 0 _ rfl,hc 1 _ rfl,hc 2 _ rfl⟩,⟨hc 3 _ rfl,hc 4 _ rfl,hc 5 _ rfl⟩,⟨hc 6 _ rfl,hc 7 _ rfl,hc 8 _ rfl⟩,⟨hc 9 _ rfl,hc 10 _ rfl,hc 11 _ rfl⟩,y1,y2,y3,y4⟩
def mulI (i k:In):In:=⟨min4 (MulD i.lo k.lo) (MulD i.lo k.hi) (MulD i.hi k.lo) (MulD i.hi k.hi),max4 (MulD i.lo k.lo) (MulD i.lo k.hi) (MulD i.hi k.lo) (MulD i.hi k.hi)⟩
theorem IMul_r {w:World} {u v:Value} {i k:In} (hu:Iv w u i) (hv:Iv w v k) (s1:Sd i.lo) (s2:Sd i.hi) (s3:Sd k.lo) (s4:Sd k.hi) (r1:CmpD i.lo i.hi≤0) (r2:CmpD k.lo k.hi≤0) :
  Calls Tryz.prog 158 #[u,v] w fun e w'=>∃ r,e=.returned (.tuple #[r,.int .i64 0])∧Iv w' r (mulI i k)∧Below w.heap.size w w':=by
 obtain ⟨il,ih⟩:=i
 obtain ⟨kl,kh⟩:=k
 simp only at s1 s2 s3 s4 r1 r2
 have CR1:=h_ (fun w u (h:Iv w u ⟨il,ih⟩)=>(show Calls Tryz.prog 132 #[u] w (fun e w'=>e=.returned (.bool true)∧Below w.heap.size w w') from by have h1:=Right_r h s1 s2; rw [decide_eq_true r1] at h1; exact h1))
 have CR2:=h_ (fun w u (h:Iv w u ⟨kl,kh⟩)=>(show Calls Tryz.prog 132 #[u] w (fun e w'=>e=.returned (.bool true)∧Below w.heap.size w w') from by have h1:=Right_r h s3 s4; rw [decide_eq_true r2] at h1; exact h1))
 have M00:=h_ (fun w u v (h:Cy w u il) (k:Cy w v kl)=>Mul_s h.ry k.ry s1 s3)
 have M01:=h_ (fun w u v (h:Cy w u il) (k:Cy w v kh)=>Mul_s h.ry k.ry s1 s4)
 have M10:=h_ (fun w u v (h:Cy w u ih) (k:Cy w v kl)=>Mul_s h.ry k.ry s2 s3)
 have M11:=h_ (fun w u v (h:Cy w u ih) (k:Cy w v kh)=>Mul_s h.ry k.ry s2 s4)
 have HR:mulI ⟨il,ih⟩ ⟨kl,kh⟩=⟨min4 (MulD il kl) (MulD il kh) (MulD ih kl) (MulD ih kh),max4 (MulD il kl) (MulD il kh) (MulD ih kl) (MulD ih kh)⟩:=rfl
 rw [HR]
 generalize MulD il kl=p00 at *
 generalize MulD il kh=p01 at *
 generalize MulD ih kl=p10 at *
 generalize MulD ih kh=p11 at *
 have CMN:=h_ (fun w u (h:Q4 w u p00 p01 p10 p11)=>Min4_r h)
 have CMX:=h_ (fun w u (h:Q4 w u p00 p01 p10 p11)=>Max4_r h)
 generalize min4 p00 p01 p10 p11=mn at *
 generalize max4 p00 p01 p10 p11=mx at *
 obtain ⟨n1,m1,e1⟩:=il
 obtain ⟨n2,m2,e2⟩:=ih
 obtain ⟨n3,m3,e3⟩:=kl
 obtain ⟨n4,m4,e4⟩:=kh
 obtain ⟨p00n,p00m,p00e⟩:=p00
 obtain ⟨p01n,p01m,p01e⟩:=p01
 obtain ⟨p10n,p10m,p10e⟩:=p10
 obtain ⟨p11n,p11m,p11e⟩:=p11
 obtain ⟨mnn,mnm,mne⟩:=mn
 obtain ⟨mxn,mxm,mxe⟩:=mx
 obtain ⟨a1,k1,c1,a2,k2,c2,rfl,x1,x2⟩:=hu.fm
 obtain ⟨a3,k3,c3,a4,k4,c4,rfl,x3,x4⟩:=hv.fm
 have HU:=h_ hu
 have HV:=h_ hv
 have X1:=h_ x1
 have X2:=h_ x2
 have X3:=h_ x3
 have X4:=h_ x4
 clear hu hv x1 x2 x3 x4 s1 s2 s3 s4 r1 r2 HR
 go_enter Tryz.func158,Tryz.ntmps158
 have F0:=h_ (Fx.three w 92 #[.bool n1,.slice a1 k1 c1,.int .i64 e1,.bool n2,.slice a2 k2 c2,.int .i64 e2] 92 #[.bool n3,.slice a3 k3 c3,.int .i64 e3,.bool n4,.slice a4 k4 c4,.int .i64 e4] 92 #[.bool false,.slice none 0 0,.int .i64 0,.bool false,.slice none 0 0,.int .i64 0] rfl rfl rfl)
 have U0:=h_ (((HU.out.alloc (.cells #[.bool n1,.slice a1 k1 c1,.int .i64 e1,.bool n2,.slice a2 k2 c2,.int .i64 e2] 92)).alloc (.cells #[.bool n3,.slice a3 k3 c3,.int .i64 e3,.bool n4,.slice a4 k4 c4,.int .i64 e4] 92)).alloc (.cells #[.bool false,.slice none 0 0,.int .i64 0,.bool false,.slice none 0 0,.int .i64 0] 92))
 have V0:=h_ (((HV.out.alloc (.cells #[.bool n1,.slice a1 k1 c1,.int .i64 e1,.bool n2,.slice a2 k2 c2,.int .i64 e2] 92)).alloc (.cells #[.bool n3,.slice a3 k3 c3,.int .i64 e3,.bool n4,.slice a4 k4 c4,.int .i64 e4] 92)).alloc (.cells #[.bool false,.slice none 0 0,.int .i64 0,.bool false,.slice none 0 0,.int .i64 0] 92))
 have X0:=h_ (((X1.out.alloc (.cells #[.bool n1,.slice a1 k1 c1,.int .i64 e1,.bool n2,.slice a2 k2 c2,.int .i64 e2] 92)).alloc (.cells #[.bool n3,.slice a3 k3 c3,.int .i64 e3,.bool n4,.slice a4 k4 c4,.int .i64 e4] 92)).alloc (.cells #[.bool false,.slice none 0 0,.int .i64 0,.bool false,.slice none 0 0,.int .i64 0] 92))
 have Y0:=h_ (((X2.out.alloc (.cells #[.bool n1,.slice a1 k1 c1,.int .i64 e1,.bool n2,.slice a2 k2 c2,.int .i64 e2] 92)).alloc (.cells #[.bool n3,.slice a3 k3 c3,.int .i64 e3,.bool n4,.slice a4 k4 c4,.int .i64 e4] 92)).alloc (.cells #[.bool false,.slice none 0 0,.int .i64 0,.bool false,.slice none 0 0,.int .i64 0] 92))
 have P0:=h_ (((X3.out.alloc (.cells #[.bool n1,.slice a1 k1 c1,.int .i64 e1,.bool n2,.slice a2 k2 c2,.int .i64 e2] 92)).alloc (.cells #[.bool n3,.slice a3 k3 c3,.int .i64 e3,.bool n4,.slice a4 k4 c4,.int .i64 e4] 92)).alloc (.cells #[.bool false,.slice none 0 0,.int .i64 0,.bool false,.slice none 0 0,.int .i64 0] 92))
 have Q0:=h_ (((X4.out.alloc (.cells #[.bool n1,.slice a1 k1 c1,.int .i64 e1,.bool n2,.slice a2 k2 c2,.int .i64 e2] 92)).alloc (.cells #[.bool n3,.slice a3 k3 c3,.int .i64 e3,.bool n4,.slice a4 k4 c4,.int .i64 e4] 92)).alloc (.cells #[.bool false,.slice none 0 0,.int .i64 0,.bool false,.slice none 0 0,.int .i64 0] 92))
 have N0:Hid (Rn [(w.heap.size,92,#[.bool n1,.slice a1 k1 c1,.int .i64 e1,.bool n2,.slice a2 k2 c2,.int .i64 e2]),(w.heap.size+1,92,#[.bool n3,.slice a3 k3 c3,.int .i64 e3,.bool n4,.slice a4 k4 c4,.int .i64 e4]),(w.heap.size+1+1,92,#[.bool false,.slice none 0 0,.int .i64 0,.bool false,.slice none 0 0,.int .i64 0])] (.slice none 0 0)):=Rn.nil _
 clear HU HV X1 X2 X3 X4
 go_upto_region 1 with (fail)
 generalize World.alloc (World.alloc (World.alloc _ _) _) _=w0 at F0 U0 V0 X0 Y0 P0 Q0 ⊢
 have R0:Hid (Rw w w0 (.slice none 0 0) 0 []):=Rw.nil _ _
 have c0_0:=F0.out.c6 0 rfl
 have c1_0:=F0.out.c6 1 rfl
 have c2_0:=F0.out.c6 2 rfl
 go_wp2_with fail
 clear c0_0 c1_0 c2_0
 refine (CR1.out _ _ U0.out).mono ?_
 rintro q w1 ⟨rfl,hb⟩
 have F1:=h_ (F0.out.call hb)
 have U1:=h_ (U0.out.below hb)
 have V1:=h_ (V0.out.below hb)
 have X1:=h_ (X0.out.below hb)
 have Y1:=h_ (Y0.out.below hb)
 have P1:=h_ (P0.out.below hb)
 have Q1:=h_ (Q0.out.below hb)
 have N1:=h_ (N0.out)
 have R1:=h_ (R0.out.call hb)
 clear F0 U0 V0 X0 Y0 P0 Q0 N0 R0
 clear hb
 have c0_1:=F1.out.c6 0 rfl
 have c1_1:=F1.out.c6 1 rfl
 have c2_1:=F1.out.c6 2 rfl
 go_wp2_with fail
 clear c0_1 c1_1 c2_1
 refine (CR2.out _ _ V1.out).mono ?_
 rintro q w2 ⟨rfl,hb⟩
 have F2:=h_ (F1.out.call hb)
 have U2:=h_ (U1.out.below hb)
 have V2:=h_ (V1.out.below hb)
 have X2:=h_ (X1.out.below hb)
 have Y2:=h_ (Y1.out.below hb)
 have P2:=h_ (P1.out.below hb)
 have Q2:=h_ (Q1.out.below hb)
 have N2:=h_ (N1.out)
 have R2:=h_ (R1.out.call hb)
 clear F1 U1 V1 X1 Y1 P1 Q1 N1 R1
 clear hb
 have c0_2:=F2.out.c6 0 rfl
 have c1_2:=F2.out.c6 1 rfl
 have c2_2:=F2.out.c6 2 rfl
 clear U2 V2
 go_wp2
 clear c0_2 c1_2 c2_2
 have F3:=h_ (F2.out.new 42 #[.bool n1,.slice a1 k1 c1,.int .i64 e1,.bool n2,.slice a2 k2 c2,.int .i64 e2] rfl)
 have X3:=h_ (X2.out.alloc (.cells #[.bool n1,.slice a1 k1 c1,.int .i64 e1,.bool n2,.slice a2 k2 c2,.int .i64 e2] 42))
 have Y3:=h_ (Y2.out.alloc (.cells #[.bool n1,.slice a1 k1 c1,.int .i64 e1,.bool n2,.slice a2 k2 c2,.int .i64 e2] 42))
 have P3:=h_ (P2.out.alloc (.cells #[.bool n1,.slice a1 k1 c1,.int .i64 e1,.bool n2,.slice a2 k2 c2,.int .i64 e2] 42))
 have Q3:=h_ (Q2.out.alloc (.cells #[.bool n1,.slice a1 k1 c1,.int .i64 e1,.bool n2,.slice a2 k2 c2,.int .i64 e2] 42))
 have N3:=h_ (N2.out.new R2.out 42 #[.bool n1,.slice a1 k1 c1,.int .i64 e1,.bool n2,.slice a2 k2 c2,.int .i64 e2])
 have R3:=h_ (R2.out.alloc (.cells #[.bool n1,.slice a1 k1 c1,.int .i64 e1,.bool n2,.slice a2 k2 c2,.int .i64 e2] 42))
 clear F2 X2 Y2 P2 Q2 N2 R2
 obtain ⟨g3,hg3⟩:∃ g,g=(World.heap w2).size:=⟨_,rfl⟩
 rw [← hg3] at F3 N3 ⊢
 clear hg3
 simp only [List.nil_append,List.cons_append] at F3 N3
 generalize World.alloc w2 _=W3 at F3 X3 Y3 P3 Q3 R3 ⊢
 have c0_3:=F3.out.c6 0 rfl
 have c1_3:=F3.out.c6 1 rfl
 have c2_3:=F3.out.c6 2 rfl
 have c3_3:=F3.out.c6 3 rfl
 refine wp_loop_rounds 3 ?_
 rw [rounds_succ]
 go_upto_region 7 with (fail)
 clear c0_3 c1_3 c2_3 c3_3
 have F4:=h_ (F3.out.new 42 #[.bool n1,.slice a1 k1 c1,.int .i64 e1] rfl)
 have X4:=h_ (X3.out.alloc (.cells #[.bool n1,.slice a1 k1 c1,.int .i64 e1] 42))
 have Y4:=h_ (Y3.out.alloc (.cells #[.bool n1,.slice a1 k1 c1,.int .i64 e1] 42))
 have P4:=h_ (P3.out.alloc (.cells #[.bool n1,.slice a1 k1 c1,.int .i64 e1] 42))
 have Q4:=h_ (Q3.out.alloc (.cells #[.bool n1,.slice a1 k1 c1,.int .i64 e1] 42))
 have N4:=h_ (N3.out.new R3.out 42 #[.bool n1,.slice a1 k1 c1,.int .i64 e1])
 have R4:=h_ (R3.out.alloc (.cells #[.bool n1,.slice a1 k1 c1,.int .i64 e1] 42))
 clear F3 X3 Y3 P3 Q3 N3 R3
 obtain ⟨g40,hg40⟩:∃ g,g=(World.heap W3).size:=⟨_,rfl⟩
 rw [← hg40] at F4 N4 ⊢
 clear hg40
 simp only [List.nil_append,List.cons_append] at F4 N4
 generalize World.alloc W3 _=W4 at F4 X4 Y4 P4 Q4 R4 ⊢
 have c0_4:=F4.out.c6 0 rfl
 have c1_4:=F4.out.c6 1 rfl
 have c2_4:=F4.out.c6 2 rfl
 have c3_4:=F4.out.c6 3 rfl
 have c4_4:=F4.out.c3 4 rfl
 go_wp2
 clear c0_4 c1_4 c2_4 c3_4 c4_4
 have F5:=h_ (F4.out.new 42 #[.bool n3,.slice a3 k3 c3,.int .i64 e3,.bool n4,.slice a4 k4 c4,.int .i64 e4] rfl)
 have X5:=h_ (X4.out.alloc (.cells #[.bool n3,.slice a3 k3 c3,.int .i64 e3,.bool n4,.slice a4 k4 c4,.int .i64 e4] 42))
 have Y5:=h_ (Y4.out.alloc (.cells #[.bool n3,.slice a3 k3 c3,.int .i64 e3,.bool n4,.slice a4 k4 c4,.int .i64 e4] 42))
 have P5:=h_ (P4.out.alloc (.cells #[.bool n3,.slice a3 k3 c3,.int .i64 e3,.bool n4,.slice a4 k4 c4,.int .i64 e4] 42))
 have Q5:=h_ (Q4.out.alloc (.cells #[.bool n3,.slice a3 k3 c3,.int .i64 e3,.bool n4,.slice a4 k4 c4,.int .i64 e4] 42))
 have N5:=h_ (N4.out.new R4.out 42 #[.bool n3,.slice a3 k3 c3,.int .i64 e3,.bool n4,.slice a4 k4 c4,.int .i64 e4])
 have R5:=h_ (R4.out.alloc (.cells #[.bool n3,.slice a3 k3 c3,.int .i64 e3,.bool n4,.slice a4 k4 c4,.int .i64 e4] 42))
 clear F4 X4 Y4 P4 Q4 N4 R4
 obtain ⟨g50,hg50⟩:∃ g,g=(World.heap W4).size:=⟨_,rfl⟩
 rw [← hg50] at F5 N5 ⊢
 clear hg50
 simp only [List.nil_append,List.cons_append] at F5 N5
 generalize World.alloc W4 _=W5 at F5 X5 Y5 P5 Q5 R5 ⊢
 have c0_5:=F5.out.c6 0 rfl
 have c1_5:=F5.out.c6 1 rfl
 have c2_5:=F5.out.c6 2 rfl
 have c3_5:=F5.out.c6 3 rfl
 have c4_5:=F5.out.c3 4 rfl
 have c5_5:=F5.out.c6 5 rfl
 refine wp_loop_rounds 3 ?_
 rw [rounds_succ]
 go_upto_region 10 with (fail)
 clear c0_5 c1_5 c2_5 c3_5 c4_5 c5_5
 have F6:=h_ (F5.out.new 42 #[.bool n3,.slice a3 k3 c3,.int .i64 e3] rfl)
 have X6:=h_ (X5.out.alloc (.cells #[.bool n3,.slice a3 k3 c3,.int .i64 e3] 42))
 have Y6:=h_ (Y5.out.alloc (.cells #[.bool n3,.slice a3 k3 c3,.int .i64 e3] 42))
 have P6:=h_ (P5.out.alloc (.cells #[.bool n3,.slice a3 k3 c3,.int .i64 e3] 42))
 have Q6:=h_ (Q5.out.alloc (.cells #[.bool n3,.slice a3 k3 c3,.int .i64 e3] 42))
 have N6:=h_ (N5.out.new R5.out 42 #[.bool n3,.slice a3 k3 c3,.int .i64 e3])
 have R6:=h_ (R5.out.alloc (.cells #[.bool n3,.slice a3 k3 c3,.int .i64 e3] 42))
 clear F5 X5 Y5 P5 Q5 N5 R5
 obtain ⟨g600,hg600⟩:∃ g,g=(World.heap W5).size:=⟨_,rfl⟩
 rw [← hg600] at F6 N6 ⊢
 clear hg600
 simp only [List.nil_append,List.cons_append] at F6 N6
 generalize World.alloc W5 _=W6 at F6 X6 Y6 P6 Q6 R6 ⊢
 have c0_6:=F6.out.c6 0 rfl
 have c1_6:=F6.out.c6 1 rfl
 have c2_6:=F6.out.c6 2 rfl
 have c3_6:=F6.out.c6 3 rfl
 have c4_6:=F6.out.c3 4 rfl
 have c5_6:=F6.out.c6 5 rfl
 have c6_6:=F6.out.c3 6 rfl
 go_wp2_with fail
 clear c0_6 c1_6 c2_6 c3_6 c4_6 c5_6 c6_6
 refine (M00.out _ _ _ X6.out P6.out).mono ?_
 rintro q w7 ⟨u,rfl,hu,hb⟩
 have F7:=h_ (F6.out.call hb)
 have X7:=h_ (X6.out.below hb)
 have Y7:=h_ (Y6.out.below hb)
 have P7:=h_ (P6.out.below hb)
 have Q7:=h_ (Q6.out.below hb)
 have N7:=h_ (N6.out)
 have R7:=h_ (R6.out.call hb)
 clear F6 X6 Y6 P6 Q6 N6 R6
 have Z007:=h_ (hu)
 clear hb
 have c0_7:=F7.out.c6 0 rfl
 have c1_7:=F7.out.c6 1 rfl
 have c2_7:=F7.out.c6 2 rfl
 have c3_7:=F7.out.c6 3 rfl
 have c4_7:=F7.out.c3 4 rfl
 have c5_7:=F7.out.c6 5 rfl
 have c6_7:=F7.out.c3 6 rfl
 obtain ⟨b00,f00,d00,rfl⟩:=Z007.out.fm
 go_upto_region 13 with (fail)
 clear c0_7 c1_7 c2_7 c3_7 c4_7 c5_7 c6_7
 have F8:=h_ (F7.out.new 42 #[.bool p00n,.slice b00 f00 d00,.int .i64 p00e] rfl)
 have X8:=h_ (X7.out.alloc (.cells #[.bool p00n,.slice b00 f00 d00,.int .i64 p00e] 42))
 have Y8:=h_ (Y7.out.alloc (.cells #[.bool p00n,.slice b00 f00 d00,.int .i64 p00e] 42))
 have P8:=h_ (P7.out.alloc (.cells #[.bool p00n,.slice b00 f00 d00,.int .i64 p00e] 42))
 have Q8:=h_ (Q7.out.alloc (.cells #[.bool p00n,.slice b00 f00 d00,.int .i64 p00e] 42))
 have N8:=h_ (N7.out.new R7.out 42 #[.bool p00n,.slice b00 f00 d00,.int .i64 p00e])
 have R8:=h_ (R7.out.alloc (.cells #[.bool p00n,.slice b00 f00 d00,.int .i64 p00e] 42))
 have Z008:=h_ (Z007.out.alloc (.cells #[.bool p00n,.slice b00 f00 d00,.int .i64 p00e] 42))
 clear F7 X7 Y7 P7 Q7 N7 R7 Z007
 obtain ⟨g700,hg700⟩:∃ g,g=(World.heap w7).size:=⟨_,rfl⟩
 rw [← hg700] at F8 N8 ⊢
 clear hg700
 simp only [List.nil_append,List.cons_append] at F8 N8
 generalize World.alloc w7 _=W8 at F8 X8 Y8 P8 Q8 R8 Z008 ⊢
 have c0_8:=F8.out.c6 0 rfl
 have c1_8:=F8.out.c6 1 rfl
 have c2_8:=F8.out.c6 2 rfl
 have c3_8:=F8.out.c6 3 rfl
 have c4_8:=F8.out.c3 4 rfl
 have c5_8:=F8.out.c6 5 rfl
 have c6_8:=F8.out.c3 6 rfl
 have c7_8:=F8.out.c3 7 rfl
 go_wp2_with (at_builtin; refine wpList_app3 rfl (.tmp 52) (.tmp 54) 234 rfl Tryz.underlying234 info42 F8.out R8.out N8.out rfl 1 _ _ _ rfl (by simp [Value.oneCell']) rfl (by decide) ?_)
 clear c0_8 c1_8 c2_8 c3_8 c4_8 c5_8 c6_8 c7_8
 intro v1 W9 hF hR hN hK
 have F9:=h_ hF
 have R9:Hid (Rw w W9 v1 1 [.bool p00n,.slice b00 f00 d00,.int .i64 p00e]):=hR
 have N9:=h_ hN
 have X9:=h_ (X8.out.kp hK)
 have Y9:=h_ (Y8.out.kp hK)
 have P9:=h_ (P8.out.kp hK)
 have Q9:=h_ (Q8.out.kp hK)
 have Z009:=h_ (Z008.out.kp hK)
 clear hF hR hN hK F8 X8 Y8 P8 Q8 N8 R8 Z008
 have F10:Hid (Fx w W9 [(w.heap.size,92,#[.bool n1,.slice a1 k1 c1,.int .i64 e1,.bool n2,.slice a2 k2 c2,.int .i64 e2]),(w.heap.size+1,92,#[.bool n3,.slice a3 k3 c3,.int .i64 e3,.bool n4,.slice a4 k4 c4,.int .i64 e4]),(w.heap.size+1+1,92,#[.bool false,.slice none 0 0,.int .i64 0,.bool false,.slice none 0 0,.int .i64 0]),(g3,42,#[.bool n1,.slice a1 k1 c1,.int .i64 e1,.bool n2,.slice a2 k2 c2,.int .i64 e2]),(g40,42,#[.bool n1,.slice a1 k1 c1,.int .i64 e1]),(g50,42,#[.bool n3,.slice a3 k3 c3,.int .i64 e3,.bool n4,.slice a4 k4 c4,.int .i64 e4])]):=Fx.front (cs:=[(g600,42,#[.bool n3,.slice a3 k3 c3,.int .i64 e3]),(g700,42,#[.bool p00n,.slice b00 f00 d00,.int .i64 p00e])]) F9.out
 have N10:Hid (Rn [(w.heap.size,92,#[.bool n1,.slice a1 k1 c1,.int .i64 e1,.bool n2,.slice a2 k2 c2,.int .i64 e2]),(w.heap.size+1,92,#[.bool n3,.slice a3 k3 c3,.int .i64 e3,.bool n4,.slice a4 k4 c4,.int .i64 e4]),(w.heap.size+1+1,92,#[.bool false,.slice none 0 0,.int .i64 0,.bool false,.slice none 0 0,.int .i64 0]),(g3,42,#[.bool n1,.slice a1 k1 c1,.int .i64 e1,.bool n2,.slice a2 k2 c2,.int .i64 e2]),(g40,42,#[.bool n1,.slice a1 k1 c1,.int .i64 e1]),(g50,42,#[.bool n3,.slice a3 k3 c3,.int .i64 e3,.bool n4,.slice a4 k4 c4,.int .i64 e4])] v1):=Rn.front (cs:=[(g600,42,#[.bool n3,.slice a3 k3 c3,.int .i64 e3]),(g700,42,#[.bool p00n,.slice b00 f00 d00,.int .i64 p00e])]) N9.out
 have X10:=X9
 have Y10:=Y9
 have P10:=P9
 have Q10:=Q9
 have R10:=R9
 have Z0010:=Z009
 clear F9 X9 Y9 P9 Q9 N9 R9 Z009
 have c0_10:=F10.out.c6 0 rfl
 have c1_10:=F10.out.c6 1 rfl
 have c2_10:=F10.out.c6 2 rfl
 have c3_10:=F10.out.c6 3 rfl
 have c4_10:=F10.out.c3 4 rfl
 have c5_10:=F10.out.c6 5 rfl
 go_wp2
 rw [rounds_succ]
 go_upto_region 10 with (fail)
 clear c0_10 c1_10 c2_10 c3_10 c4_10 c5_10
 have F11:=h_ (F10.out.new 42 #[.bool n4,.slice a4 k4 c4,.int .i64 e4] rfl)
 have X11:=h_ (X10.out.alloc (.cells #[.bool n4,.slice a4 k4 c4,.int .i64 e4] 42))
 have Y11:=h_ (Y10.out.alloc (.cells #[.bool n4,.slice a4 k4 c4,.int .i64 e4] 42))
 have P11:=h_ (P10.out.alloc (.cells #[.bool n4,.slice a4 k4 c4,.int .i64 e4] 42))
 have Q11:=h_ (Q10.out.alloc (.cells #[.bool n4,.slice a4 k4 c4,.int .i64 e4] 42))
 have N11:=h_ (N10.out.new R10.out 42 #[.bool n4,.slice a4 k4 c4,.int .i64 e4])
 have R11:=h_ (R10.out.alloc (.cells #[.bool n4,.slice a4 k4 c4,.int .i64 e4] 42))
 have Z0011:=h_ (Z0010.out.alloc (.cells #[.bool n4,.slice a4 k4 c4,.int .i64 e4] 42))
 clear F10 X10 Y10 P10 Q10 N10 R10 Z0010
 obtain ⟨g601,hg601⟩:∃ g,g=(World.heap W9).size:=⟨_,rfl⟩
 rw [← hg601] at F11 N11 ⊢
 clear hg601
 simp only [List.nil_append,List.cons_append] at F11 N11
 generalize World.alloc W9 _=W11 at F11 X11 Y11 P11 Q11 R11 Z0011 ⊢
 have c0_11:=F11.out.c6 0 rfl
 have c1_11:=F11.out.c6 1 rfl
 have c2_11:=F11.out.c6 2 rfl
 have c3_11:=F11.out.c6 3 rfl
 have c4_11:=F11.out.c3 4 rfl
 have c5_11:=F11.out.c6 5 rfl
 have c6_11:=F11.out.c3 6 rfl
 go_wp2_with fail
 clear c0_11 c1_11 c2_11 c3_11 c4_11 c5_11 c6_11
 refine (M01.out _ _ _ X11.out Q11.out).mono ?_
 rintro q w12 ⟨u,rfl,hu,hb⟩
 have F12:=h_ (F11.out.call hb)
 have X12:=h_ (X11.out.below hb)
 have Y12:=h_ (Y11.out.below hb)
 have P12:=h_ (P11.out.below hb)
 have Q12:=h_ (Q11.out.below hb)
 have N12:=h_ (N11.out)
 have R12:=h_ (R11.out.call hb)
 have Z0012:=h_ (Z0011.out.below hb)
 clear F11 X11 Y11 P11 Q11 N11 R11 Z0011
 have Z0112:=h_ (hu)
 clear hb
 have c0_12:=F12.out.c6 0 rfl
 have c1_12:=F12.out.c6 1 rfl
 have c2_12:=F12.out.c6 2 rfl
 have c3_12:=F12.out.c6 3 rfl
 have c4_12:=F12.out.c3 4 rfl
 have c5_12:=F12.out.c6 5 rfl
 have c6_12:=F12.out.c3 6 rfl
 obtain ⟨b01,f01,d01,rfl⟩:=Z0112.out.fm
 go_upto_region 13 with (fail)
 clear c0_12 c1_12 c2_12 c3_12 c4_12 c5_12 c6_12
 have F13:=h_ (F12.out.new 42 #[.bool p01n,.slice b01 f01 d01,.int .i64 p01e] rfl)
 have X13:=h_ (X12.out.alloc (.cells #[.bool p01n,.slice b01 f01 d01,.int .i64 p01e] 42))
 have Y13:=h_ (Y12.out.alloc (.cells #[.bool p01n,.slice b01 f01 d01,.int .i64 p01e] 42))
 have P13:=h_ (P12.out.alloc (.cells #[.bool p01n,.slice b01 f01 d01,.int .i64 p01e] 42))
 have Q13:=h_ (Q12.out.alloc (.cells #[.bool p01n,.slice b01 f01 d01,.int .i64 p01e] 42))
 have N13:=h_ (N12.out.new R12.out 42 #[.bool p01n,.slice b01 f01 d01,.int .i64 p01e])
 have R13:=h_ (R12.out.alloc (.cells #[.bool p01n,.slice b01 f01 d01,.int .i64 p01e] 42))
 have Z0013:=h_ (Z0012.out.alloc (.cells #[.bool p01n,.slice b01 f01 d01,.int .i64 p01e] 42))
 have Z0113:=h_ (Z0112.out.alloc (.cells #[.bool p01n,.slice b01 f01 d01,.int .i64 p01e] 42))
 clear F12 X12 Y12 P12 Q12 N12 R12 Z0012 Z0112
 obtain ⟨g701,hg701⟩:∃ g,g=(World.heap w12).size:=⟨_,rfl⟩
 rw [← hg701] at F13 N13 ⊢
 clear hg701
 simp only [List.nil_append,List.cons_append] at F13 N13
 generalize World.alloc w12 _=W13 at F13 X13 Y13 P13 Q13 R13 Z0013 Z0113 ⊢
 have c0_13:=F13.out.c6 0 rfl
 have c1_13:=F13.out.c6 1 rfl
 have c2_13:=F13.out.c6 2 rfl
 have c3_13:=F13.out.c6 3 rfl
 have c4_13:=F13.out.c3 4 rfl
 have c5_13:=F13.out.c6 5 rfl
 have c6_13:=F13.out.c3 6 rfl
 have c7_13:=F13.out.c3 7 rfl
 go_wp2_with (at_builtin; refine wpList_app3 rfl (.tmp 52) (.tmp 54) 234 rfl Tryz.underlying234 info42 F13.out R13.out N13.out rfl 1 _ _ _ rfl (by simp [Value.oneCell']) rfl (by decide) ?_)
 clear c0_13 c1_13 c2_13 c3_13 c4_13 c5_13 c6_13 c7_13
 intro v2 W14 hF hR hN hK
 have F14:=h_ hF
 have R14:Hid (Rw w W14 v2 2 [.bool p00n,.slice b00 f00 d00,.int .i64 p00e,.bool p01n,.slice b01 f01 d01,.int .i64 p01e]):=hR
 have N14:=h_ hN
 have X14:=h_ (X13.out.kp hK)
 have Y14:=h_ (Y13.out.kp hK)
 have P14:=h_ (P13.out.kp hK)
 have Q14:=h_ (Q13.out.kp hK)
 have Z0014:=h_ (Z0013.out.kp hK)
 have Z0114:=h_ (Z0113.out.kp hK)
 clear hF hR hN hK F13 X13 Y13 P13 Q13 N13 R13 Z0013 Z0113
 have F15:Hid (Fx w W14 [(w.heap.size,92,#[.bool n1,.slice a1 k1 c1,.int .i64 e1,.bool n2,.slice a2 k2 c2,.int .i64 e2]),(w.heap.size+1,92,#[.bool n3,.slice a3 k3 c3,.int .i64 e3,.bool n4,.slice a4 k4 c4,.int .i64 e4]),(w.heap.size+1+1,92,#[.bool false,.slice none 0 0,.int .i64 0,.bool false,.slice none 0 0,.int .i64 0]),(g3,42,#[.bool n1,.slice a1 k1 c1,.int .i64 e1,.bool n2,.slice a2 k2 c2,.int .i64 e2]),(g40,42,#[.bool n1,.slice a1 k1 c1,.int .i64 e1]),(g50,42,#[.bool n3,.slice a3 k3 c3,.int .i64 e3,.bool n4,.slice a4 k4 c4,.int .i64 e4])]):=Fx.front (cs:=[(g601,42,#[.bool n4,.slice a4 k4 c4,.int .i64 e4]),(g701,42,#[.bool p01n,.slice b01 f01 d01,.int .i64 p01e])]) F14.out
 have N15:Hid (Rn [(w.heap.size,92,#[.bool n1,.slice a1 k1 c1,.int .i64 e1,.bool n2,.slice a2 k2 c2,.int .i64 e2]),(w.heap.size+1,92,#[.bool n3,.slice a3 k3 c3,.int .i64 e3,.bool n4,.slice a4 k4 c4,.int .i64 e4]),(w.heap.size+1+1,92,#[.bool false,.slice none 0 0,.int .i64 0,.bool false,.slice none 0 0,.int .i64 0]),(g3,42,#[.bool n1,.slice a1 k1 c1,.int .i64 e1,.bool n2,.slice a2 k2 c2,.int .i64 e2]),(g40,42,#[.bool n1,.slice a1 k1 c1,.int .i64 e1]),(g50,42,#[.bool n3,.slice a3 k3 c3,.int .i64 e3,.bool n4,.slice a4 k4 c4,.int .i64 e4])] v2):=Rn.front (cs:=[(g601,42,#[.bool n4,.slice a4 k4 c4,.int .i64 e4]),(g701,42,#[.bool p01n,.slice b01 f01 d01,.int .i64 p01e])]) N14.out
 have X15:=X14
 have Y15:=Y14
 have P15:=P14
 have Q15:=Q14
 have R15:=R14
 have Z0015:=Z0014
 have Z0115:=Z0114
 clear F14 X14 Y14 P14 Q14 N14 R14 Z0014 Z0114
 have c0_15:=F15.out.c6 0 rfl
 have c1_15:=F15.out.c6 1 rfl
 have c2_15:=F15.out.c6 2 rfl
 have c3_15:=F15.out.c6 3 rfl
 have c4_15:=F15.out.c3 4 rfl
 have c5_15:=F15.out.c6 5 rfl
 go_wp2
 rw [rounds_succ]
 go_wp2
 clear c0_15 c1_15 c2_15 c3_15 c4_15 c5_15
 have F16:Hid (Fx w W14 [(w.heap.size,92,#[.bool n1,.slice a1 k1 c1,.int .i64 e1,.bool n2,.slice a2 k2 c2,.int .i64 e2]),(w.heap.size+1,92,#[.bool n3,.slice a3 k3 c3,.int .i64 e3,.bool n4,.slice a4 k4 c4,.int .i64 e4]),(w.heap.size+1+1,92,#[.bool false,.slice none 0 0,.int .i64 0,.bool false,.slice none 0 0,.int .i64 0]),(g3,42,#[.bool n1,.slice a1 k1 c1,.int .i64 e1,.bool n2,.slice a2 k2 c2,.int .i64 e2])]):=Fx.front (cs:=[(g40,42,#[.bool n1,.slice a1 k1 c1,.int .i64 e1]),(g50,42,#[.bool n3,.slice a3 k3 c3,.int .i64 e3,.bool n4,.slice a4 k4 c4,.int .i64 e4])]) F15.out
 have N16:Hid (Rn [(w.heap.size,92,#[.bool n1,.slice a1 k1 c1,.int .i64 e1,.bool n2,.slice a2 k2 c2,.int .i64 e2]),(w.heap.size+1,92,#[.bool n3,.slice a3 k3 c3,.int .i64 e3,.bool n4,.slice a4 k4 c4,.int .i64 e4]),(w.heap.size+1+1,92,#[.bool false,.slice none 0 0,.int .i64 0,.bool false,.slice none 0 0,.int .i64 0]),(g3,42,#[.bool n1,.slice a1 k1 c1,.int .i64 e1,.bool n2,.slice a2 k2 c2,.int .i64 e2])] v2):=Rn.front (cs:=[(g40,42,#[.bool n1,.slice a1 k1 c1,.int .i64 e1]),(g50,42,#[.bool n3,.slice a3 k3 c3,.int .i64 e3,.bool n4,.slice a4 k4 c4,.int .i64 e4])]) N15.out
 have X16:=X15
 have Y16:=Y15
 have P16:=P15
 have Q16:=Q15
 have R16:=R15
 have Z0016:=Z0015
 have Z0116:=Z0115
 clear F15 X15 Y15 P15 Q15 N15 R15 Z0015 Z0115
 have c0_16:=F16.out.c6 0 rfl
 have c1_16:=F16.out.c6 1 rfl
 have c2_16:=F16.out.c6 2 rfl
 have c3_16:=F16.out.c6 3 rfl
 rw [rounds_succ]
 go_upto_region 7 with (fail)
 clear c0_16 c1_16 c2_16 c3_16
 have F17:=h_ (F16.out.new 42 #[.bool n2,.slice a2 k2 c2,.int .i64 e2] rfl)
 have X17:=h_ (X16.out.alloc (.cells #[.bool n2,.slice a2 k2 c2,.int .i64 e2] 42))
 have Y17:=h_ (Y16.out.alloc (.cells #[.bool n2,.slice a2 k2 c2,.int .i64 e2] 42))
 have P17:=h_ (P16.out.alloc (.cells #[.bool n2,.slice a2 k2 c2,.int .i64 e2] 42))
 have Q17:=h_ (Q16.out.alloc (.cells #[.bool n2,.slice a2 k2 c2,.int .i64 e2] 42))
 have N17:=h_ (N16.out.new R16.out 42 #[.bool n2,.slice a2 k2 c2,.int .i64 e2])
 have R17:=h_ (R16.out.alloc (.cells #[.bool n2,.slice a2 k2 c2,.int .i64 e2] 42))
 have Z0017:=h_ (Z0016.out.alloc (.cells #[.bool n2,.slice a2 k2 c2,.int .i64 e2] 42))
 have Z0117:=h_ (Z0116.out.alloc (.cells #[.bool n2,.slice a2 k2 c2,.int .i64 e2] 42))
 clear F16 X16 Y16 P16 Q16 N16 R16 Z0016 Z0116
 obtain ⟨g41,hg41⟩:∃ g,g=(World.heap W14).size:=⟨_,rfl⟩
 rw [← hg41] at F17 N17 ⊢
 clear hg41
 simp only [List.nil_append,List.cons_append] at F17 N17
 generalize World.alloc W14 _=W17 at F17 X17 Y17 P17 Q17 R17 Z0017 Z0117 ⊢
 have c0_17:=F17.out.c6 0 rfl
 have c1_17:=F17.out.c6 1 rfl
 have c2_17:=F17.out.c6 2 rfl
 have c3_17:=F17.out.c6 3 rfl
 have c4_17:=F17.out.c3 4 rfl
 go_wp2
 clear c0_17 c1_17 c2_17 c3_17 c4_17
 have F18:=h_ (F17.out.new 42 #[.bool n3,.slice a3 k3 c3,.int .i64 e3,.bool n4,.slice a4 k4 c4,.int .i64 e4] rfl)
 have X18:=h_ (X17.out.alloc (.cells #[.bool n3,.slice a3 k3 c3,.int .i64 e3,.bool n4,.slice a4 k4 c4,.int .i64 e4] 42))
 have Y18:=h_ (Y17.out.alloc (.cells #[.bool n3,.slice a3 k3 c3,.int .i64 e3,.bool n4,.slice a4 k4 c4,.int .i64 e4] 42))
 have P18:=h_ (P17.out.alloc (.cells #[.bool n3,.slice a3 k3 c3,.int .i64 e3,.bool n4,.slice a4 k4 c4,.int .i64 e4] 42))
 have Q18:=h_ (Q17.out.alloc (.cells #[.bool n3,.slice a3 k3 c3,.int .i64 e3,.bool n4,.slice a4 k4 c4,.int .i64 e4] 42))
 have N18:=h_ (N17.out.new R17.out 42 #[.bool n3,.slice a3 k3 c3,.int .i64 e3,.bool n4,.slice a4 k4 c4,.int .i64 e4])
 have R18:=h_ (R17.out.alloc (.cells #[.bool n3,.slice a3 k3 c3,.int .i64 e3,.bool n4,.slice a4 k4 c4,.int .i64 e4] 42))
 have Z0018:=h_ (Z0017.out.alloc (.cells #[.bool n3,.slice a3 k3 c3,.int .i64 e3,.bool n4,.slice a4 k4 c4,.int .i64 e4] 42))
 have Z0118:=h_ (Z0117.out.alloc (.cells #[.bool n3,.slice a3 k3 c3,.int .i64 e3,.bool n4,.slice a4 k4 c4,.int .i64 e4] 42))
 clear F17 X17 Y17 P17 Q17 N17 R17 Z0017 Z0117
 obtain ⟨g51,hg51⟩:∃ g,g=(World.heap W17).size:=⟨_,rfl⟩
 rw [← hg51] at F18 N18 ⊢
 clear hg51
 simp only [List.nil_append,List.cons_append] at F18 N18
 generalize World.alloc W17 _=W18 at F18 X18 Y18 P18 Q18 R18 Z0018 Z0118 ⊢
 have c0_18:=F18.out.c6 0 rfl
 have c1_18:=F18.out.c6 1 rfl
 have c2_18:=F18.out.c6 2 rfl
 have c3_18:=F18.out.c6 3 rfl
 have c4_18:=F18.out.c3 4 rfl
 have c5_18:=F18.out.c6 5 rfl
 refine wp_loop_rounds 3 ?_
 rw [rounds_succ]
 go_upto_region 10 with (fail)
 clear c0_18 c1_18 c2_18 c3_18 c4_18 c5_18
 have F19:=h_ (F18.out.new 42 #[.bool n3,.slice a3 k3 c3,.int .i64 e3] rfl)
 have X19:=h_ (X18.out.alloc (.cells #[.bool n3,.slice a3 k3 c3,.int .i64 e3] 42))
 have Y19:=h_ (Y18.out.alloc (.cells #[.bool n3,.slice a3 k3 c3,.int .i64 e3] 42))
 have P19:=h_ (P18.out.alloc (.cells #[.bool n3,.slice a3 k3 c3,.int .i64 e3] 42))
 have Q19:=h_ (Q18.out.alloc (.cells #[.bool n3,.slice a3 k3 c3,.int .i64 e3] 42))
 have N19:=h_ (N18.out.new R18.out 42 #[.bool n3,.slice a3 k3 c3,.int .i64 e3])
 have R19:=h_ (R18.out.alloc (.cells #[.bool n3,.slice a3 k3 c3,.int .i64 e3] 42))
 have Z0019:=h_ (Z0018.out.alloc (.cells #[.bool n3,.slice a3 k3 c3,.int .i64 e3] 42))
 have Z0119:=h_ (Z0118.out.alloc (.cells #[.bool n3,.slice a3 k3 c3,.int .i64 e3] 42))
 clear F18 X18 Y18 P18 Q18 N18 R18 Z0018 Z0118
 obtain ⟨g610,hg610⟩:∃ g,g=(World.heap W18).size:=⟨_,rfl⟩
 rw [← hg610] at F19 N19 ⊢
 clear hg610
 simp only [List.nil_append,List.cons_append] at F19 N19
 generalize World.alloc W18 _=W19 at F19 X19 Y19 P19 Q19 R19 Z0019 Z0119 ⊢
 have c0_19:=F19.out.c6 0 rfl
 have c1_19:=F19.out.c6 1 rfl
 have c2_19:=F19.out.c6 2 rfl
 have c3_19:=F19.out.c6 3 rfl
 have c4_19:=F19.out.c3 4 rfl
 have c5_19:=F19.out.c6 5 rfl
 have c6_19:=F19.out.c3 6 rfl
 go_wp2_with fail
 clear c0_19 c1_19 c2_19 c3_19 c4_19 c5_19 c6_19
 refine (M10.out _ _ _ Y19.out P19.out).mono ?_
 rintro q w20 ⟨u,rfl,hu,hb⟩
 have F20:=h_ (F19.out.call hb)
 have X20:=h_ (X19.out.below hb)
 have Y20:=h_ (Y19.out.below hb)
 have P20:=h_ (P19.out.below hb)
 have Q20:=h_ (Q19.out.below hb)
 have N20:=h_ (N19.out)
 have R20:=h_ (R19.out.call hb)
 have Z0020:=h_ (Z0019.out.below hb)
 have Z0120:=h_ (Z0119.out.below hb)
 clear F19 X19 Y19 P19 Q19 N19 R19 Z0019 Z0119
 have Z1020:=h_ (hu)
 clear hb
 have c0_20:=F20.out.c6 0 rfl
 have c1_20:=F20.out.c6 1 rfl
 have c2_20:=F20.out.c6 2 rfl
 have c3_20:=F20.out.c6 3 rfl
 have c4_20:=F20.out.c3 4 rfl
 have c5_20:=F20.out.c6 5 rfl
 have c6_20:=F20.out.c3 6 rfl
 obtain ⟨b10,f10,d10,rfl⟩:=Z1020.out.fm
 go_upto_region 13 with (fail)
 clear c0_20 c1_20 c2_20 c3_20 c4_20 c5_20 c6_20
 have F21:=h_ (F20.out.new 42 #[.bool p10n,.slice b10 f10 d10,.int .i64 p10e] rfl)
 have X21:=h_ (X20.out.alloc (.cells #[.bool p10n,.slice b10 f10 d10,.int .i64 p10e] 42))
 have Y21:=h_ (Y20.out.alloc (.cells #[.bool p10n,.slice b10 f10 d10,.int .i64 p10e] 42))
 have P21:=h_ (P20.out.alloc (.cells #[.bool p10n,.slice b10 f10 d10,.int .i64 p10e] 42))
 have Q21:=h_ (Q20.out.alloc (.cells #[.bool p10n,.slice b10 f10 d10,.int .i64 p10e] 42))
 have N21:=h_ (N20.out.new R20.out 42 #[.bool p10n,.slice b10 f10 d10,.int .i64 p10e])
 have R21:=h_ (R20.out.alloc (.cells #[.bool p10n,.slice b10 f10 d10,.int .i64 p10e] 42))
 have Z0021:=h_ (Z0020.out.alloc (.cells #[.bool p10n,.slice b10 f10 d10,.int .i64 p10e] 42))
 have Z0121:=h_ (Z0120.out.alloc (.cells #[.bool p10n,.slice b10 f10 d10,.int .i64 p10e] 42))
 have Z1021:=h_ (Z1020.out.alloc (.cells #[.bool p10n,.slice b10 f10 d10,.int .i64 p10e] 42))
 clear F20 X20 Y20 P20 Q20 N20 R20 Z0020 Z0120 Z1020
 obtain ⟨g710,hg710⟩:∃ g,g=(World.heap w20).size:=⟨_,rfl⟩
 rw [← hg710] at F21 N21 ⊢
 clear hg710
 simp only [List.nil_append,List.cons_append] at F21 N21
 generalize World.alloc w20 _=W21 at F21 X21 Y21 P21 Q21 R21 Z0021 Z0121 Z1021 ⊢
 have c0_21:=F21.out.c6 0 rfl
 have c1_21:=F21.out.c6 1 rfl
 have c2_21:=F21.out.c6 2 rfl
 have c3_21:=F21.out.c6 3 rfl
 have c4_21:=F21.out.c3 4 rfl
 have c5_21:=F21.out.c6 5 rfl
 have c6_21:=F21.out.c3 6 rfl
 have c7_21:=F21.out.c3 7 rfl
 go_wp2_with (at_builtin; refine wpList_app3 rfl (.tmp 52) (.tmp 54) 234 rfl Tryz.underlying234 info42 F21.out R21.out N21.out rfl 1 _ _ _ rfl (by simp [Value.oneCell']) rfl (by decide) ?_)
 clear c0_21 c1_21 c2_21 c3_21 c4_21 c5_21 c6_21 c7_21
 intro v3 W22 hF hR hN hK
 have F22:=h_ hF
 have R22:Hid (Rw w W22 v3 3 [.bool p00n,.slice b00 f00 d00,.int .i64 p00e,.bool p01n,.slice b01 f01 d01,.int .i64 p01e,.bool p10n,.slice b10 f10 d10,.int .i64 p10e]):=hR
 have N22:=h_ hN
 have X22:=h_ (X21.out.kp hK)
 have Y22:=h_ (Y21.out.kp hK)
 have P22:=h_ (P21.out.kp hK)
 have Q22:=h_ (Q21.out.kp hK)
 have Z0022:=h_ (Z0021.out.kp hK)
 have Z0122:=h_ (Z0121.out.kp hK)
 have Z1022:=h_ (Z1021.out.kp hK)
 clear hF hR hN hK F21 X21 Y21 P21 Q21 N21 R21 Z0021 Z0121 Z1021
 have F23:Hid (Fx w W22 [(w.heap.size,92,#[.bool n1,.slice a1 k1 c1,.int .i64 e1,.bool n2,.slice a2 k2 c2,.int .i64 e2]),(w.heap.size+1,92,#[.bool n3,.slice a3 k3 c3,.int .i64 e3,.bool n4,.slice a4 k4 c4,.int .i64 e4]),(w.heap.size+1+1,92,#[.bool false,.slice none 0 0,.int .i64 0,.bool false,.slice none 0 0,.int .i64 0]),(g3,42,#[.bool n1,.slice a1 k1 c1,.int .i64 e1,.bool n2,.slice a2 k2 c2,.int .i64 e2]),(g41,42,#[.bool n2,.slice a2 k2 c2,.int .i64 e2]),(g51,42,#[.bool n3,.slice a3 k3 c3,.int .i64 e3,.bool n4,.slice a4 k4 c4,.int .i64 e4])]):=Fx.front (cs:=[(g610,42,#[.bool n3,.slice a3 k3 c3,.int .i64 e3]),(g710,42,#[.bool p10n,.slice b10 f10 d10,.int .i64 p10e])]) F22.out
 have N23:Hid (Rn [(w.heap.size,92,#[.bool n1,.slice a1 k1 c1,.int .i64 e1,.bool n2,.slice a2 k2 c2,.int .i64 e2]),(w.heap.size+1,92,#[.bool n3,.slice a3 k3 c3,.int .i64 e3,.bool n4,.slice a4 k4 c4,.int .i64 e4]),(w.heap.size+1+1,92,#[.bool false,.slice none 0 0,.int .i64 0,.bool false,.slice none 0 0,.int .i64 0]),(g3,42,#[.bool n1,.slice a1 k1 c1,.int .i64 e1,.bool n2,.slice a2 k2 c2,.int .i64 e2]),(g41,42,#[.bool n2,.slice a2 k2 c2,.int .i64 e2]),(g51,42,#[.bool n3,.slice a3 k3 c3,.int .i64 e3,.bool n4,.slice a4 k4 c4,.int .i64 e4])] v3):=Rn.front (cs:=[(g610,42,#[.bool n3,.slice a3 k3 c3,.int .i64 e3]),(g710,42,#[.bool p10n,.slice b10 f10 d10,.int .i64 p10e])]) N22.out
 have X23:=X22
 have Y23:=Y22
 have P23:=P22
 have Q23:=Q22
 have R23:=R22
 have Z0023:=Z0022
 have Z0123:=Z0122
 have Z1023:=Z1022
 clear F22 X22 Y22 P22 Q22 N22 R22 Z0022 Z0122 Z1022
 have c0_23:=F23.out.c6 0 rfl
 have c1_23:=F23.out.c6 1 rfl
 have c2_23:=F23.out.c6 2 rfl
 have c3_23:=F23.out.c6 3 rfl
 have c4_23:=F23.out.c3 4 rfl
 have c5_23:=F23.out.c6 5 rfl
 go_wp2
 rw [rounds_succ]
 go_upto_region 10 with (fail)
 clear c0_23 c1_23 c2_23 c3_23 c4_23 c5_23
 have F24:=h_ (F23.out.new 42 #[.bool n4,.slice a4 k4 c4,.int .i64 e4] rfl)
 have X24:=h_ (X23.out.alloc (.cells #[.bool n4,.slice a4 k4 c4,.int .i64 e4] 42))
 have Y24:=h_ (Y23.out.alloc (.cells #[.bool n4,.slice a4 k4 c4,.int .i64 e4] 42))
 have P24:=h_ (P23.out.alloc (.cells #[.bool n4,.slice a4 k4 c4,.int .i64 e4] 42))
 have Q24:=h_ (Q23.out.alloc (.cells #[.bool n4,.slice a4 k4 c4,.int .i64 e4] 42))
 have N24:=h_ (N23.out.new R23.out 42 #[.bool n4,.slice a4 k4 c4,.int .i64 e4])
 have R24:=h_ (R23.out.alloc (.cells #[.bool n4,.slice a4 k4 c4,.int .i64 e4] 42))
 have Z0024:=h_ (Z0023.out.alloc (.cells #[.bool n4,.slice a4 k4 c4,.int .i64 e4] 42))
 have Z0124:=h_ (Z0123.out.alloc (.cells #[.bool n4,.slice a4 k4 c4,.int .i64 e4] 42))
 have Z1024:=h_ (Z1023.out.alloc (.cells #[.bool n4,.slice a4 k4 c4,.int .i64 e4] 42))
 clear F23 X23 Y23 P23 Q23 N23 R23 Z0023 Z0123 Z1023
 obtain ⟨g611,hg611⟩:∃ g,g=(World.heap W22).size:=⟨_,rfl⟩
 rw [← hg611] at F24 N24 ⊢
 clear hg611
 simp only [List.nil_append,List.cons_append] at F24 N24
 generalize World.alloc W22 _=W24 at F24 X24 Y24 P24 Q24 R24 Z0024 Z0124 Z1024 ⊢
 have c0_24:=F24.out.c6 0 rfl
 have c1_24:=F24.out.c6 1 rfl
 have c2_24:=F24.out.c6 2 rfl
 have c3_24:=F24.out.c6 3 rfl
 have c4_24:=F24.out.c3 4 rfl
 have c5_24:=F24.out.c6 5 rfl
 have c6_24:=F24.out.c3 6 rfl
 go_wp2_with fail
 clear c0_24 c1_24 c2_24 c3_24 c4_24 c5_24 c6_24
 refine (M11.out _ _ _ Y24.out Q24.out).mono ?_
 rintro q w25 ⟨u,rfl,hu,hb⟩
 have F25:=h_ (F24.out.call hb)
 have X25:=h_ (X24.out.below hb)
 have Y25:=h_ (Y24.out.below hb)
 have P25:=h_ (P24.out.below hb)
 have Q25:=h_ (Q24.out.below hb)
 have N25:=h_ (N24.out)
 have R25:=h_ (R24.out.call hb)
 have Z0025:=h_ (Z0024.out.below hb)
 have Z0125:=h_ (Z0124.out.below hb)
 have Z1025:=h_ (Z1024.out.below hb)
 clear F24 X24 Y24 P24 Q24 N24 R24 Z0024 Z0124 Z1024
 have Z1125:=h_ (hu)
 clear hb
 have c0_25:=F25.out.c6 0 rfl
 have c1_25:=F25.out.c6 1 rfl
 have c2_25:=F25.out.c6 2 rfl
 have c3_25:=F25.out.c6 3 rfl
 have c4_25:=F25.out.c3 4 rfl
 have c5_25:=F25.out.c6 5 rfl
 have c6_25:=F25.out.c3 6 rfl
 obtain ⟨b11,f11,d11,rfl⟩:=Z1125.out.fm
 go_upto_region 13 with (fail)
 clear c0_25 c1_25 c2_25 c3_25 c4_25 c5_25 c6_25
 have F26:=h_ (F25.out.new 42 #[.bool p11n,.slice b11 f11 d11,.int .i64 p11e] rfl)
 have X26:=h_ (X25.out.alloc (.cells #[.bool p11n,.slice b11 f11 d11,.int .i64 p11e] 42))
 have Y26:=h_ (Y25.out.alloc (.cells #[.bool p11n,.slice b11 f11 d11,.int .i64 p11e] 42))
 have P26:=h_ (P25.out.alloc (.cells #[.bool p11n,.slice b11 f11 d11,.int .i64 p11e] 42))
 have Q26:=h_ (Q25.out.alloc (.cells #[.bool p11n,.slice b11 f11 d11,.int .i64 p11e] 42))
 have N26:=h_ (N25.out.new R25.out 42 #[.bool p11n,.slice b11 f11 d11,.int .i64 p11e])
 have R26:=h_ (R25.out.alloc (.cells #[.bool p11n,.slice b11 f11 d11,.int .i64 p11e] 42))
 have Z0026:=h_ (Z0025.out.alloc (.cells #[.bool p11n,.slice b11 f11 d11,.int .i64 p11e] 42))
 have Z0126:=h_ (Z0125.out.alloc (.cells #[.bool p11n,.slice b11 f11 d11,.int .i64 p11e] 42))
 have Z1026:=h_ (Z1025.out.alloc (.cells #[.bool p11n,.slice b11 f11 d11,.int .i64 p11e] 42))
 have Z1126:=h_ (Z1125.out.alloc (.cells #[.bool p11n,.slice b11 f11 d11,.int .i64 p11e] 42))
 clear F25 X25 Y25 P25 Q25 N25 R25 Z0025 Z0125 Z1025 Z1125
 obtain ⟨g711,hg711⟩:∃ g,g=(World.heap w25).size:=⟨_,rfl⟩
 rw [← hg711] at F26 N26 ⊢
 clear hg711
 simp only [List.nil_append,List.cons_append] at F26 N26
 generalize World.alloc w25 _=W26 at F26 X26 Y26 P26 Q26 R26 Z0026 Z0126 Z1026 Z1126 ⊢
 have c0_26:=F26.out.c6 0 rfl
 have c1_26:=F26.out.c6 1 rfl
 have c2_26:=F26.out.c6 2 rfl
 have c3_26:=F26.out.c6 3 rfl
 have c4_26:=F26.out.c3 4 rfl
 have c5_26:=F26.out.c6 5 rfl
 have c6_26:=F26.out.c3 6 rfl
 have c7_26:=F26.out.c3 7 rfl
 go_wp2_with (at_builtin; refine wpList_app3 rfl (.tmp 52) (.tmp 54) 234 rfl Tryz.underlying234 info42 F26.out R26.out N26.out rfl 1 _ _ _ rfl (by simp [Value.oneCell']) rfl (by decide) ?_)
 clear c0_26 c1_26 c2_26 c3_26 c4_26 c5_26 c6_26 c7_26
 intro v4 W27 hF hR hN hK
 have F27:=h_ hF
 have R27:Hid (Rw w W27 v4 4 [.bool p00n,.slice b00 f00 d00,.int .i64 p00e,.bool p01n,.slice b01 f01 d01,.int .i64 p01e,.bool p10n,.slice b10 f10 d10,.int .i64 p10e,.bool p11n,.slice b11 f11 d11,.int .i64 p11e]):=hR
 have N27:=h_ hN
 have X27:=h_ (X26.out.kp hK)
 have Y27:=h_ (Y26.out.kp hK)
 have P27:=h_ (P26.out.kp hK)
 have Q27:=h_ (Q26.out.kp hK)
 have Z0027:=h_ (Z0026.out.kp hK)
 have Z0127:=h_ (Z0126.out.kp hK)
 have Z1027:=h_ (Z1026.out.kp hK)
 have Z1127:=h_ (Z1126.out.kp hK)
 clear hF hR hN hK F26 X26 Y26 P26 Q26 N26 R26 Z0026 Z0126 Z1026 Z1126
 have F28:Hid (Fx w W27 [(w.heap.size,92,#[.bool n1,.slice a1 k1 c1,.int .i64 e1,.bool n2,.slice a2 k2 c2,.int .i64 e2]),(w.heap.size+1,92,#[.bool n3,.slice a3 k3 c3,.int .i64 e3,.bool n4,.slice a4 k4 c4,.int .i64 e4]),(w.heap.size+1+1,92,#[.bool false,.slice none 0 0,.int .i64 0,.bool false,.slice none 0 0,.int .i64 0]),(g3,42,#[.bool n1,.slice a1 k1 c1,.int .i64 e1,.bool n2,.slice a2 k2 c2,.int .i64 e2]),(g41,42,#[.bool n2,.slice a2 k2 c2,.int .i64 e2]),(g51,42,#[.bool n3,.slice a3 k3 c3,.int .i64 e3,.bool n4,.slice a4 k4 c4,.int .i64 e4])]):=Fx.front (cs:=[(g611,42,#[.bool n4,.slice a4 k4 c4,.int .i64 e4]),(g711,42,#[.bool p11n,.slice b11 f11 d11,.int .i64 p11e])]) F27.out
 have N28:Hid (Rn [(w.heap.size,92,#[.bool n1,.slice a1 k1 c1,.int .i64 e1,.bool n2,.slice a2 k2 c2,.int .i64 e2]),(w.heap.size+1,92,#[.bool n3,.slice a3 k3 c3,.int .i64 e3,.bool n4,.slice a4 k4 c4,.int .i64 e4]),(w.heap.size+1+1,92,#[.bool false,.slice none 0 0,.int .i64 0,.bool false,.slice none 0 0,.int .i64 0]),(g3,42,#[.bool n1,.slice a1 k1 c1,.int .i64 e1,.bool n2,.slice a2 k2 c2,.int .i64 e2]),(g41,42,#[.bool n2,.slice a2 k2 c2,.int .i64 e2]),(g51,42,#[.bool n3,.slice a3 k3 c3,.int .i64 e3,.bool n4,.slice a4 k4 c4,.int .i64 e4])] v4):=Rn.front (cs:=[(g611,42,#[.bool n4,.slice a4 k4 c4,.int .i64 e4]),(g711,42,#[.bool p11n,.slice b11 f11 d11,.int .i64 p11e])]) N27.out
 have X28:=X27
 have Y28:=Y27
 have P28:=P27
 have Q28:=Q27
 have R28:=R27
 have Z0028:=Z0027
 have Z0128:=Z0127
 have Z1028:=Z1027
 have Z1128:=Z1127
 clear F27 X27 Y27 P27 Q27 N27 R27 Z0027 Z0127 Z1027 Z1127
 have c0_28:=F28.out.c6 0 rfl
 have c1_28:=F28.out.c6 1 rfl
 have c2_28:=F28.out.c6 2 rfl
 have c3_28:=F28.out.c6 3 rfl
 have c4_28:=F28.out.c3 4 rfl
 have c5_28:=F28.out.c6 5 rfl
 go_wp2
 rw [rounds_succ]
 go_wp2
 clear c0_28 c1_28 c2_28 c3_28 c4_28 c5_28
 have F29:Hid (Fx w W27 [(w.heap.size,92,#[.bool n1,.slice a1 k1 c1,.int .i64 e1,.bool n2,.slice a2 k2 c2,.int .i64 e2]),(w.heap.size+1,92,#[.bool n3,.slice a3 k3 c3,.int .i64 e3,.bool n4,.slice a4 k4 c4,.int .i64 e4]),(w.heap.size+1+1,92,#[.bool false,.slice none 0 0,.int .i64 0,.bool false,.slice none 0 0,.int .i64 0]),(g3,42,#[.bool n1,.slice a1 k1 c1,.int .i64 e1,.bool n2,.slice a2 k2 c2,.int .i64 e2])]):=Fx.front (cs:=[(g41,42,#[.bool n2,.slice a2 k2 c2,.int .i64 e2]),(g51,42,#[.bool n3,.slice a3 k3 c3,.int .i64 e3,.bool n4,.slice a4 k4 c4,.int .i64 e4])]) F28.out
 have N29:Hid (Rn [(w.heap.size,92,#[.bool n1,.slice a1 k1 c1,.int .i64 e1,.bool n2,.slice a2 k2 c2,.int .i64 e2]),(w.heap.size+1,92,#[.bool n3,.slice a3 k3 c3,.int .i64 e3,.bool n4,.slice a4 k4 c4,.int .i64 e4]),(w.heap.size+1+1,92,#[.bool false,.slice none 0 0,.int .i64 0,.bool false,.slice none 0 0,.int .i64 0]),(g3,42,#[.bool n1,.slice a1 k1 c1,.int .i64 e1,.bool n2,.slice a2 k2 c2,.int .i64 e2])] v4):=Rn.front (cs:=[(g41,42,#[.bool n2,.slice a2 k2 c2,.int .i64 e2]),(g51,42,#[.bool n3,.slice a3 k3 c3,.int .i64 e3,.bool n4,.slice a4 k4 c4,.int .i64 e4])]) N28.out
 have X29:=X28
 have Y29:=Y28
 have P29:=P28
 have Q29:=Q28
 have R29:=R28
 have Z0029:=Z0028
 have Z0129:=Z0128
 have Z1029:=Z1028
 have Z1129:=Z1128
 clear F28 X28 Y28 P28 Q28 N28 R28 Z0028 Z0128 Z1028 Z1128
 have c0_29:=F29.out.c6 0 rfl
 have c1_29:=F29.out.c6 1 rfl
 have c2_29:=F29.out.c6 2 rfl
 have c3_29:=F29.out.c6 3 rfl
 rw [rounds_succ]
 go_wp2_with fail
 have L29:Hid (Q4 W27 v4 ⟨p00n,p00m,p00e⟩ ⟨p01n,p01m,p01e⟩ ⟨p10n,p10m,p10e⟩ ⟨p11n,p11m,p11e⟩):=Q4.of_rw (p:=⟨p00n,p00m,p00e⟩) (q:=⟨p01n,p01m,p01e⟩) (r:=⟨p10n,p10m,p10e⟩) (s:=⟨p11n,p11m,p11e⟩) R29.out Z0029.out Z0129.out Z1029.out Z1129.out
 clear R29 N29 Z0029 Z0129 Z1029 Z1129 X29 Y29 P29 Q29
 clear c0_29 c1_29 c2_29 c3_29
 refine (CMN.out _ _ L29.out).mono ?_
 rintro q w30 ⟨u,rfl,hu,hb⟩
 have F30:=h_ (F29.out.call hb)
 have L30:=h_ (L29.out.below hb)
 clear F29 L29
 have A30:=h_ (hu)
 clear hb
 have c0_30:=F30.out.c6 0 rfl
 have c1_30:=F30.out.c6 1 rfl
 have c2_30:=F30.out.c6 2 rfl
 have c3_30:=F30.out.c6 3 rfl
 obtain ⟨x5,y5,z5,rfl⟩:=A30.out.fm
 go_wp2_with fail
 clear c0_30 c1_30 c2_30 c3_30
 refine (CMX.out _ _ L30.out).mono ?_
 rintro q w31 ⟨u,rfl,hu,hb⟩
 have F31:=h_ (F30.out.call hb)
 have L31:=h_ (L30.out.below hb)
 have A31:=h_ (A30.out.below hb)
 clear F30 L30 A30
 have B31:=h_ (hu)
 clear hb
 have c0_31:=F31.out.c6 0 rfl
 have c1_31:=F31.out.c6 1 rfl
 have c2_31:=F31.out.c6 2 rfl
 have c3_31:=F31.out.c6 3 rfl
 obtain ⟨x6,y6,z6,rfl⟩:=B31.out.fm
 go_wp2
 obtain ⟨f0,p0⟩:=F31.out.s6 2 rfl (.bool mnn) (.slice x5 y5 z5) (.int .i64 mne) (.bool mxn) (.slice x6 y6 z6) (.int .i64 mxe) rfl rfl rfl rfl rfl rfl
 have p:=p0
 have f:=f0
 clear f0 p0
 generalize (World.setCell (World.setCell (World.setCell (World.setCell (World.setCell (World.setCell _ _ _) _ _) _ _) _ _) _ _) _ _)=W at f p ⊢
 have g2:=f.c6 2 rfl
 refine bodyPost_ret (v:=.tuple #[.agg #[.bool mnn,.slice x5 y5 z5,.int .i64 mne,.bool mxn,.slice x6 y6 z6,.int .i64 mxe],.int .i64 0]) (by simp [results,Tryz.results158,go_sem,g2]) rfl ?_
 exact ⟨_,rfl,⟨_,_,_,_,_,_,rfl,A31.out.kp p,B31.out.kp p⟩,f.b⟩
end Go.Proofs.YtobpioceopfkpaaGreatDoor
