/-
  Lemmas for WholeTurned and WholeGrows and WholeRises, part 33 of 36: what the program's functions do, and plain facts; without conditions.
-/
import Derived.Test.YtobpioceopfkpaaGreatDoorM32
import Derived.LoopN
import Derived.BigRegion
set_option maxRecDepth 100000
set_option maxHeartbeats 4000000
namespace Go.Proofs.YtobpioceopfkpaaGreatDoor
open Go.RowKit
theorem Do1_g {PP:Nat→Int→Bool→Prop} {QI:In→Prop} {w:World} {g1 g2:Nat} {u:Array Value} {x y:Dn} {N b:Nat} {z tt sg:Int} (hb1:Blk w g1 58 u) (hb2:Blk w g2 3 #[.int .i64 sg]) (hu:Ag w (.agg u) x y N z tt)
  (ct:∀ w,Ag w (.agg u) x y N z tt→Calls Tryz.prog 45 #[.agg u,.int .i64 sg,.int .i64 (b:Int)] w (RetTry PP QI w)) :
  Calls Tryz.prog 44 #[.int .i64 (b:Int),.pointer (some ⟨g1,0,none⟩),.pointer (some ⟨g2,0,none⟩)] w (RetTry PP QI w):=by
 have CT:=h_ ct
 have HU:=h_ hu
 obtain ⟨a1,k1,c1,a2,k2,c2,he,hx,hy⟩:=hu
 obtain ⟨xn,xm,xe⟩:=x
 obtain ⟨yn,ym,ye⟩:=y
 simp only [Value.agg.injEq] at he
 subst he
 obtain ⟨bq,hbq⟩:∃ q:Int,q=(b:Int):=⟨_,rfl⟩
 rw [← hbq] at CT ⊢
 have H1:=h_ hb1
 have H2:=h_ hb2
 have F0:=h_ (Fz.one w 94 #[.int .u64 0,.int .u8 0,.int .i64 0,.bool false,.slice none 0 0,.int .i64 0,.bool false,.slice none 0 0,.int .i64 0])
 have B1:=h_ (hb1.alloc (.cells #[.int .u64 0,.int .u8 0,.int .i64 0,.bool false,.slice none 0 0,.int .i64 0,.bool false,.slice none 0 0,.int .i64 0] 94))
 have B2:=h_ (hb2.alloc (.cells #[.int .u64 0,.int .u8 0,.int .i64 0,.bool false,.slice none 0 0,.int .i64 0,.bool false,.slice none 0 0,.int .i64 0] 94))
 have U0:=h_ (HU.out.alloc (.cells #[.int .u64 0,.int .u8 0,.int .i64 0,.bool false,.slice none 0 0,.int .i64 0,.bool false,.slice none 0 0,.int .i64 0] 94))
 clear hb1 hb2 hx hy HU H1 H2 ct hbq
 go_enter Tryz.func44,Tryz.ntmps44
 go_upto_region 1 with (fail)
 generalize World.alloc _ _=w0 at F0 B1 B2 U0 ⊢
 have d0:w0.cell? ⟨g1,0,none⟩=some (.bool xn):=B1.out.at 0 _ rfl
 have d1:w0.cell? ⟨g1,1,none⟩=some (.slice a1 k1 c1):=B1.out.at 1 _ rfl
 have d2:w0.cell? ⟨g1,2,none⟩=some (.int .i64 xe):=B1.out.at 2 _ rfl
 have d3:w0.cell? ⟨g1,3,none⟩=some (.bool yn):=B1.out.at 3 _ rfl
 have d4:w0.cell? ⟨g1,4,none⟩=some (.slice a2 k2 c2):=B1.out.at 4 _ rfl
 have d5:w0.cell? ⟨g1,5,none⟩=some (.int .i64 ye):=B1.out.at 5 _ rfl
 have d6:w0.cell? ⟨g1,6,none⟩=some (.int .u64 (N:Int)):=B1.out.at 6 _ rfl
 have d7:w0.cell? ⟨g1,7,none⟩=some (.bool false):=B1.out.at 7 _ rfl
 have d8:w0.cell? ⟨g1,8,none⟩=some (.int .i64 z):=B1.out.at 8 _ rfl
 have d9:w0.cell? ⟨g1,9,none⟩=some (.int .i64 64):=B1.out.at 9 _ rfl
 have d10:w0.cell? ⟨g1,10,none⟩=some (.int .i64 tt):=B1.out.at 10 _ rfl
 have d11:w0.cell? ⟨g2,0,none⟩=some (.int .i64 sg):=B2.out.at 0 _ rfl
 go_wp2_with fail
 refine (CT.out _ U0.out).mono ?_
 rintro q w1 ⟨B,f,ok,n1,s1,l1,d1,e1,n2,s2,l2,d2,e2,rfl,hp,hi,hb⟩
 have F1:=h_ (F0.out.call hb)
 clear hb
 have c0:=F1.out.c9 0 rfl
 have HP:=h_ hp
 clear hp
 obtain ⟨B',hB'⟩:∃ q:Int,q=(B:Int):=⟨_,rfl⟩
 rw [← hB']
 have HI:=h_ hi
 have HB:=h_ hB'.symm
 clear hi hB'
 go_wp2
 have F:=F1.out.s9 0 rfl ((.int .u64 B')) (.int .u8 f) (.int .i64 0) (.bool n1) (.slice s1 l1 d1) (.int .i64 e1) (.bool n2) (.slice s2 l2 d2) (.int .i64 e2)
 simp only [List.set_cons_zero] at F
 have p:=(F1.out.box 0 _ _ _ rfl).kp9 rfl rfl rfl rfl rfl rfl rfl (.int .i64 0) (.bool n1) (.slice s1 l1 d1) (.int .i64 e1) (.bool n2) (.slice s2 l2 d2) (.int .i64 e2)
 have HI2:Hid (ok=false→B=0∧f=0∧∃ I,QI I∧Iv (World.setCell (World.setCell (World.setCell (World.setCell (World.setCell (World.setCell (World.setCell (World.setCell (World.setCell w1 ⟨w.heap.size,0,none⟩ ((.int .u64 B'))) ⟨w.heap.size,1,none⟩ (.int .u8 f)) ⟨w.heap.size,2,none⟩ (.int .i64 0)) ⟨w.heap.size,3,none⟩ (.bool n1)) ⟨w.heap.size,4,none⟩ (.slice s1 l1 d1)) ⟨w.heap.size,5,none⟩ (.int .i64 e1)) ⟨w.heap.size,6,none⟩ (.bool n2)) ⟨w.heap.size,7,none⟩ (.slice s2 l2 d2)) ⟨w.heap.size,8,none⟩ (.int .i64 e2)) (.agg #[.bool n1,.slice s1 l1 d1,.int .i64 e1,.bool n2,.slice s2 l2 d2,.int .i64 e2]) I):=fun hk=>by
  obtain ⟨h1,h2,I,h3,h4⟩:=HI.out hk
  have hB:=HB.out
  rw [h1] at hB
  have hB:B'=0:=hB.symm
  subst hB h2
  exact ⟨h1,rfl,_,h3,h4.kp p⟩
 clear HI
 generalize (World.setCell (World.setCell (World.setCell (World.setCell (World.setCell (World.setCell (World.setCell (World.setCell (World.setCell _ _ _) _ _) _ _) _ _) _ _) _ _) _ _) _ _) _ _)=W at F HI2 ⊢
 have g1':=F.c9 0 rfl
 refine bodyPost_ret (v:=.tuple #[.agg #[(.int .u64 B'),.int .u8 f,.int .i64 0,.bool n1,.slice s1 l1 d1,.int .i64 e1,.bool n2,.slice s2 l2 d2,.int .i64 e2],.bool ok]) (by simp [results,Tryz.results44,go_sem,g1']) rfl ?_
 have hB:=HB.out
 subst hB
 exact ⟨B,f,ok,_,_,_,_,_,_,_,_,_,_,rfl,HP.out,HI2.out,F.b⟩
def RetRunG (PP:Nat→Int→Bool→Prop) (QI:In→Prop) (w:World) (e:Ending) (w':World):Prop:=∃ (B:Nat) (f:Int) (ok:Bool) (n1:Bool) (s1:Option Addr) (l1 d1:Nat) (e1:Int) (n2:Bool) (s2:Option Addr) (l2 d2:Nat) (e2 bits tries:Int),
 e=.returned (.tuple #[.agg #[.int .u64 (B:Int),.int .u8 f,.int .i64 0,.bool n1,.slice s1 l1 d1,.int .i64 e1,.bool n2,.slice s2 l2 d2,.int .i64 e2,.int .i64 bits,.int .i64 tries,.int .i64 (if ok then 0 else 2)],.int .i64 0])∧PP B f ok∧(ok=false→B=0∧f=0∧∃ I,QI I∧Iv w' (.agg #[.bool n1,.slice s1 l1 d1,.int .i64 e1,.bool n2,.slice s2 l2 d2,.int .i64 e2]) I)∧Below w.heap.size w w'
theorem Fz.front2 {w0 w:World} {a b c:Nat × TypeId × Array Value} (h:Fz w0 w [a,b,c]):Fz w0 w [a,b]:=by
 have key:∀ (i:Nat) x,[a,b][i]?=some x→[a,b,c][i]?=some x:=fun i x hi=>by
  rw [show [a,b,c]=[a,b] ++ [c] from rfl,List.getElem?_append_left (List.getElem?_eq_some_iff.1 hi).1]; exact hi
 exact ⟨h.b,fun i g t c hi=>h.box i g t c (key i _ hi),fun i g t c hi=>h.low i g t c (key i _ hi),fun i j g t c g' t' c' hij hi hj=>h.asc i j g t c g' t' c' hij (key i _ hi) (key j _ hj)⟩
theorem Fz.c12a {w0 w:World} {bs:List (Nat × TypeId × Array Value)} (h:Fz w0 w bs) (i:Nat) {g:Nat} {t:TypeId} {x0 x1 x2 x3 x4 x5 x6 x7 x8 x9 x10 x11:Value} (hi:bs[i]?=some (g,t,#[x0,x1,x2,x3,x4,x5,x6,x7,x8,x9,x10,x11])) :
  (w.cell? ⟨g,0,none⟩=some x0∧w.cell? ⟨g,1,none⟩=some x1∧w.cell? ⟨g,2,none⟩=some x2∧w.cell? ⟨g,3,none⟩=some x3∧w.cell? ⟨g,4,none⟩=some x4∧w.cell? ⟨g,5,none⟩=some x5∧w.cell? ⟨g,6,none⟩=some x6∧w.cell? ⟨g,7,none⟩=some x7∧w.cell? ⟨g,8,none⟩=some x8∧w.cell? ⟨g,9,none⟩=some x9∧w.cell? ⟨g,10,none⟩=some x10∧w.cell? ⟨g,11,none⟩=some x11)∧w.frozen? ⟨g,0,none⟩=false∧w.frozen? ⟨g,1,none⟩=false∧w.frozen? ⟨g,2,none⟩=false∧w.frozen? ⟨g,3,none⟩=false∧w.frozen? ⟨g,4,none⟩=false∧w.frozen? ⟨g,5,none⟩=false∧w.frozen? ⟨g,6,none⟩=false∧w.frozen? ⟨g,7,none⟩=false∧w.frozen? ⟨g,8,none⟩=false∧w.frozen? ⟨g,9,none⟩=false∧w.frozen? ⟨g,10,none⟩=false∧w.frozen? ⟨g,11,none⟩=false:=by
 have k:=h.box i _ _ _ hi
 exact ⟨⟨k.at 0 x0 rfl,k.at 1 x1 rfl,k.at 2 x2 rfl,k.at 3 x3 rfl,k.at 4 x4 rfl,k.at 5 x5 rfl,k.at 6 x6 rfl,k.at 7 x7 rfl,k.at 8 x8 rfl,k.at 9 x9 rfl,k.at 10 x10 rfl,k.at 11 x11 rfl⟩,k.frozen 0,k.frozen 1,k.frozen 2,k.frozen 3,k.frozen 4,k.frozen 5,k.frozen 6,k.frozen 7,k.frozen 8,k.frozen 9,k.frozen 10,k.frozen 11⟩
theorem Go_n {FF:Prop} {PP:Nat→Int→Bool→Prop} {QI:In→Prop} {w:World} {g cap n:Nat} (hn:n=4 ∨ n=5) (hc:∀ j,j < n→w.cell? ⟨g,j,none⟩=some (.int .i64 ((64 * 2^j:Nat):Int))) (p1 p2:Addr)
  (hc1:∀ w':World,Below w.heap.size w w'→Calls Tryz.prog 44 #[.int .i64 64,.pointer (some p1),.pointer (some p2)] w' (RetTry PP QI w')) (hf:∀ B f,PP B f false→FF)
  (hcl:FF→∀ w':World,Below w.heap.size w w'→∀ b:Nat,64≤b→b≤64 * 2^(n - 1)→Calls Tryz.prog 44 #[.int .i64 (b:Int),.pointer (some p1),.pointer (some p2)] w' (RetTry PP QI w')) :
  Calls Tryz.prog 43 #[.slice (some ⟨g,0,none⟩) n cap,.pointer none,.func (.func 44) #[] #[.pointer (some p1),.pointer (some p2)]] w (RetRunG PP QI w):=by
 have HN:=h_ hn
 have D4:Hid (n=5→w.cell? ⟨g,4,none⟩=some (.int .i64 1024)∧(FF→∀ w':World,Below w.heap.size w w'→Calls Tryz.prog 44 #[.int .i64 1024,.pointer (some p1),.pointer (some p2)] w' (RetTry PP QI w'))):=fun h=>⟨hc 4 (by omega),fun f w' hb=>hcl f w' hb 1024 (by decide) (by rw [h]; decide)⟩
 have hp:64 * 2^3≤64 * 2^(n - 1):=Nat.mul_le_mul_left _ (Nat.pow_le_pow_right (by decide) (by omega))
 have HFF:=h_ hf
 have HC0:Hid (w.cell? ⟨g,0,none⟩=some (.int .i64 64)):=hc 0 (by omega)
 have CL0:=h_ hc1
 have HC1:Hid (w.cell? ⟨g,1,none⟩=some (.int .i64 128)):=hc 1 (by omega)
 have CL1:Hid (FF→∀ w':World,Below w.heap.size w w'→Calls Tryz.prog 44 #[.int .i64 128,.pointer (some p1),.pointer (some p2)] w' (RetTry PP QI w')):=fun f w' hb=>hcl f w' hb 128 (by decide) (by omega)
 have HC2:Hid (w.cell? ⟨g,2,none⟩=some (.int .i64 256)):=hc 2 (by omega)
 have CL2:Hid (FF→∀ w':World,Below w.heap.size w w'→Calls Tryz.prog 44 #[.int .i64 256,.pointer (some p1),.pointer (some p2)] w' (RetTry PP QI w')):=fun f w' hb=>hcl f w' hb 256 (by decide) (by omega)
 have HC3:Hid (w.cell? ⟨g,3,none⟩=some (.int .i64 512)):=hc 3 (by omega)
 have CL3:Hid (FF→∀ w':World,Below w.heap.size w w'→Calls Tryz.prog 44 #[.int .i64 512,.pointer (some p1),.pointer (some p2)] w' (RetTry PP QI w')):=fun f w' hb=>hcl f w' hb 512 (by decide) (by omega)
 have t0:decide ((0:Int) < (n:Int))=true:=decide_eq_true (by omega)
 have u0:decide (0 < n)=true:=decide_eq_true (by omega)
 have v0:0 < n:=by omega
 have t1:decide ((1:Int) < (n:Int))=true:=decide_eq_true (by omega)
 have u1:decide (1 < n)=true:=decide_eq_true (by omega)
 have v1:1 < n:=by omega
 have t2:decide ((2:Int) < (n:Int))=true:=decide_eq_true (by omega)
 have u2:decide (2 < n)=true:=decide_eq_true (by omega)
 have v2:2 < n:=by omega
 have t3:decide ((3:Int) < (n:Int))=true:=decide_eq_true (by omega)
 have u3:decide (3 < n)=true:=decide_eq_true (by omega)
 have v3:3 < n:=by omega
 have hfn:=fun W=>func102 (.func 44) (.pointer (some p1)) (.pointer (some p2)) W
 clear hcl hc hc1 hf hp hn
 go_enter Tryz.func43,Tryz.ntmps43
 have F0:=h_ (Fz.two w 97 #[.int .u64 0,.int .u8 0,.int .i64 0,.bool false,.slice none 0 0,.int .i64 0,.bool false,.slice none 0 0,.int .i64 0,.int .i64 0,.int .i64 0,.int .i64 0] 97 #[.int .u64 0,.int .u8 0,.int .i64 0,.bool false,.slice none 0 0,.int .i64 0,.bool false,.slice none 0 0,.int .i64 0,.int .i64 0,.int .i64 0,.int .i64 0])
 go_upto_region 2 with (fail)
 generalize World.alloc (World.alloc _ _) _=w0 at F0 ⊢
 have c11:w0.cell? ⟨w.heap.size+1,11,none⟩=some (.int .i64 0):=(F0.out.box 1 _ _ _ rfl).at 11 _ rfl
 have f11:w0.frozen? ⟨w.heap.size+1,11,none⟩=false:=(F0.out.box 1 _ _ _ rfl).frozen 11
 go_upto_region 5 with (fail)
 clear c11 f11
 have f:=F0.out.s12_11 1 rfl (.int .i64 2)
 simp only [List.set_cons_zero,List.set_cons_succ] at f
 generalize World.setCell _ _ _=w1 at f ⊢
 have F1:=h_ f
 clear f F0
 go_wp2
 refine wp_loop_rounds 6 ?_
 rw [rounds_succ]
 have x0:=cell_below F1.out.b (Nat.le_refl _) HC0.out
 go_wp2_with fail
 clear x0
 refine (CL0.out _ F1.out.b).mono ?_
 rintro q w2 ⟨B0,f0,ok0,n10,s10,l10,d10,e10,n20,s20,l20,d20,e20,rfl,hp,hi,hb⟩
 have F2:=h_ (F1.out.call hb)
 clear hb F1
 cases ok0
 case true =>
  have HP:=h_ hp
  obtain ⟨B',hB'⟩:∃ q:Int,q=(B0:Int):=⟨_,rfl⟩
  rw [← hB']
  have HB:=h_ hB'.symm
  clear hp hi hB'
  go_upto_region 11 with (fail)
  have F3:=h_ (F2.out.new 94 #[(.int .u64 B'),.int .u8 f0,.int .i64 0,.bool n10,.slice s10 l10 d10,.int .i64 e10,.bool n20,.slice s20 l20 d20,.int .i64 e20])
  obtain ⟨g1,hg1⟩:∃ g,g=(World.heap w2).size:=⟨_,rfl⟩
  rw [← hg1] at F3 ⊢
  clear hg1 F2
  simp only [List.nil_append,List.cons_append] at F3
  generalize World.alloc w2 _=w3 at F3 ⊢
  have ee:=F3.out.c9 2 rfl
  have c:=F3.out.c12a 1 rfl
  go_upto_region 12 with (fail)
  clear ee
  clear c
  have F3:=h_ F3.out.front2
  have f:=F3.out.s12_0 1 rfl ((.int .u64 B')) (.int .u8 f0) (.int .i64 0) (.bool n10) (.slice s10 l10 d10) (.int .i64 e10) (.bool n20) (.slice s20 l20 d20) (.int .i64 e20) (.int .i64 64)
  simp only [List.set_cons_zero,List.set_cons_succ] at f
  generalize (World.setCell (World.setCell (World.setCell (World.setCell (World.setCell (World.setCell (World.setCell (World.setCell (World.setCell (World.setCell _ _ _) _ _) _ _) _ _) _ _) _ _) _ _) _ _) _ _) _ _)=w4 at f ⊢
  have F4:=h_ f
  clear f F3
  have c10:w4.cell? ⟨w.heap.size+1,10,none⟩=some (.int .i64 0):=(F4.out.box 1 _ _ _ rfl).at 10 _ rfl
  have f10:w4.frozen? ⟨w.heap.size+1,10,none⟩=false:=(F4.out.box 1 _ _ _ rfl).frozen 10
  go_upto_region 13 with (fail)
  clear c10 f10
  have f:=F4.out.s12_10 1 rfl (.int .i64 1)
  simp only [List.set_cons_zero,List.set_cons_succ] at f
  generalize World.setCell _ _ _=w5 at f ⊢
  have F5:=h_ f
  clear f F4
  have c11:w5.cell? ⟨w.heap.size+1,11,none⟩=some (.int .i64 2):=(F5.out.box 1 _ _ _ rfl).at 11 _ rfl
  have f11:w5.frozen? ⟨w.heap.size+1,11,none⟩=false:=(F5.out.box 1 _ _ _ rfl).frozen 11
  go_upto_region 16 with (fail)
  clear c11 f11
  have f:=F5.out.s12_11 1 rfl (.int .i64 0)
  simp only [List.set_cons_zero,List.set_cons_succ] at f
  generalize World.setCell _ _ _=w6 at f ⊢
  have F6:=h_ f
  clear f F5
  have c:=F6.out.c12a 1 rfl
  have ee:=F6.out.c12a 0 rfl
  go_wp2
  clear c
  clear ee
  have f:=F6.out.s12 0 rfl ((.int .u64 B')) (.int .u8 f0) (.int .i64 0) (.bool n10) (.slice s10 l10 d10) (.int .i64 e10) (.bool n20) (.slice s20 l20 d20) (.int .i64 e20) (.int .i64 64) (.int .i64 1) (.int .i64 0)
  simp only [List.set_cons_zero] at f
  generalize (World.setCell (World.setCell (World.setCell (World.setCell (World.setCell (World.setCell (World.setCell (World.setCell (World.setCell (World.setCell (World.setCell (World.setCell _ _ _) _ _) _ _) _ _) _ _) _ _) _ _) _ _) _ _) _ _) _ _) _ _)=W at f ⊢
  have c:=f.c12a 0 rfl
  refine bodyPost_ret (v:=.tuple #[.agg #[(.int .u64 B'),.int .u8 f0,.int .i64 0,.bool n10,.slice s10 l10 d10,.int .i64 e10,.bool n20,.slice s20 l20 d20,.int .i64 e20,.int .i64 64,.int .i64 1,.int .i64 0],.int .i64 0]) (by simp [results,Tryz.results43,go_sem,c]) rfl ?_
  have hB:=HB.out
  subst hB
  exact ⟨B0,f0,true,_,_,_,_,_,_,_,_,_,_,_,_,rfl,HP.out,nofun,f.b⟩
 case false =>
  obtain ⟨h1,h2,I,hq,hI⟩:=hi rfl
  subst h1 h2
  have HX:=h_ (HFF.out _ _ hp)
  have HP:=h_ hp
  have HQ:=h_ hq
  have HI:=h_ hI
  clear hp hi hq hI
  have hz:((0:Nat):Int)=0:=rfl
  rw [hz]
  clear hz
  go_upto_region 11 with (fail)
  have F3:=h_ (F2.out.new 94 #[.int .u64 0,.int .u8 0,.int .i64 0,.bool n10,.slice s10 l10 d10,.int .i64 e10,.bool n20,.slice s20 l20 d20,.int .i64 e20])
  have HI:=h_ (HI.out.alloc (.cells #[.int .u64 0,.int .u8 0,.int .i64 0,.bool n10,.slice s10 l10 d10,.int .i64 e10,.bool n20,.slice s20 l20 d20,.int .i64 e20] 94))
  obtain ⟨g1,hg1⟩:∃ g,g=(World.heap w2).size:=⟨_,rfl⟩
  rw [← hg1] at F3 ⊢
  clear hg1 F2
  simp only [List.nil_append,List.cons_append] at F3
  generalize World.alloc w2 _=w3 at F3 HI ⊢
  have ee:=F3.out.c9 2 rfl
  have c:=F3.out.c12a 1 rfl
  go_upto_region 12 with (fail)
  clear ee
  clear c
  have F3:=h_ F3.out.front2
  have HI:=h_ (HI.out.kp ((F3.out.box 1 _ _ _ rfl).kp10 rfl rfl rfl rfl rfl rfl rfl rfl (.int .i64 0) (.bool n10) (.slice s10 l10 d10) (.int .i64 e10) (.bool n20) (.slice s20 l20 d20) (.int .i64 e20) (.int .i64 64)))
  have f:=F3.out.s12_0 1 rfl (.int .u64 0) (.int .u8 0) (.int .i64 0) (.bool n10) (.slice s10 l10 d10) (.int .i64 e10) (.bool n20) (.slice s20 l20 d20) (.int .i64 e20) (.int .i64 64)
  simp only [List.set_cons_zero,List.set_cons_succ] at f
  generalize (World.setCell (World.setCell (World.setCell (World.setCell (World.setCell (World.setCell (World.setCell (World.setCell (World.setCell (World.setCell _ _ _) _ _) _ _) _ _) _ _) _ _) _ _) _ _) _ _) _ _)=w4 at f HI ⊢
  have F4:=h_ f
  clear f F3
  have c10:w4.cell? ⟨w.heap.size+1,10,none⟩=some (.int .i64 0):=(F4.out.box 1 _ _ _ rfl).at 10 _ rfl
  have f10:w4.frozen? ⟨w.heap.size+1,10,none⟩=false:=(F4.out.box 1 _ _ _ rfl).frozen 10
  go_upto_region 13 with (fail)
  clear c10 f10
  have HI:=h_ (HI.out.kp (Kp.setnl (i:=10) (x:=.int .i64 0) (F4.out.box 1 _ _ _ rfl) rfl rfl (.int .i64 1)))
  have f:=F4.out.s12_10 1 rfl (.int .i64 1)
  simp only [List.set_cons_zero,List.set_cons_succ] at f
  generalize World.setCell _ _ _=w5 at f HI ⊢
  have F5:=h_ f
  clear f F4
  go_wp2
  clear HP HQ HI
  rw [rounds_succ]
  have x0:=cell_below F5.out.b (Nat.le_refl _) HC1.out
  go_wp2_with fail
  clear x0
  refine (CL1.out HX.out _ F5.out.b).mono ?_
  rintro q w6 ⟨B1,f1,ok1,n11,s11,l11,d11,e11,n21,s21,l21,d21,e21,rfl,hp,hi,hb⟩
  have F6:=h_ (F5.out.call hb)
  clear hb F5
  cases ok1
  case true =>
   have HP:=h_ hp
   obtain ⟨B',hB'⟩:∃ q:Int,q=(B1:Int):=⟨_,rfl⟩
   rw [← hB']
   have HB:=h_ hB'.symm
   clear hp hi hB'
   go_upto_region 11 with (fail)
   have F7:=h_ (F6.out.new 94 #[(.int .u64 B'),.int .u8 f1,.int .i64 0,.bool n11,.slice s11 l11 d11,.int .i64 e11,.bool n21,.slice s21 l21 d21,.int .i64 e21])
   obtain ⟨g2,hg1⟩:∃ g,g=(World.heap w6).size:=⟨_,rfl⟩
   rw [← hg1] at F7 ⊢
   clear hg1 F6
   simp only [List.nil_append,List.cons_append] at F7
   generalize World.alloc w6 _=w7 at F7 ⊢
   have ee:=F7.out.c9 2 rfl
   have c:=F7.out.c12a 1 rfl
   go_upto_region 12 with (fail)
   clear ee
   clear c
   have F7:=h_ F7.out.front2
   have f:=F7.out.s12_0 1 rfl ((.int .u64 B')) (.int .u8 f1) (.int .i64 0) (.bool n11) (.slice s11 l11 d11) (.int .i64 e11) (.bool n21) (.slice s21 l21 d21) (.int .i64 e21) (.int .i64 128)
   simp only [List.set_cons_zero,List.set_cons_succ] at f
   generalize (World.setCell (World.setCell (World.setCell (World.setCell (World.setCell (World.setCell (World.setCell (World.setCell (World.setCell (World.setCell _ _ _) _ _) _ _) _ _) _ _) _ _) _ _) _ _) _ _) _ _)=w8 at f ⊢
   have F8:=h_ f
   clear f F7
   have c10:w8.cell? ⟨w.heap.size+1,10,none⟩=some (.int .i64 1):=(F8.out.box 1 _ _ _ rfl).at 10 _ rfl
   have f10:w8.frozen? ⟨w.heap.size+1,10,none⟩=false:=(F8.out.box 1 _ _ _ rfl).frozen 10
   go_upto_region 13 with (fail)
   clear c10 f10
   have f:=F8.out.s12_10 1 rfl (.int .i64 2)
   simp only [List.set_cons_zero,List.set_cons_succ] at f
   generalize World.setCell _ _ _=w9 at f ⊢
   have F9:=h_ f
   clear f F8
   have c11:w9.cell? ⟨w.heap.size+1,11,none⟩=some (.int .i64 2):=(F9.out.box 1 _ _ _ rfl).at 11 _ rfl
   have f11:w9.frozen? ⟨w.heap.size+1,11,none⟩=false:=(F9.out.box 1 _ _ _ rfl).frozen 11
   go_upto_region 16 with (fail)
   clear c11 f11
   have f:=F9.out.s12_11 1 rfl (.int .i64 0)
   simp only [List.set_cons_zero,List.set_cons_succ] at f
   generalize World.setCell _ _ _=w10 at f ⊢
   have F10:=h_ f
   clear f F9
   have c:=F10.out.c12a 1 rfl
   have ee:=F10.out.c12a 0 rfl
   go_wp2
   clear c
   clear ee
   have f:=F10.out.s12 0 rfl ((.int .u64 B')) (.int .u8 f1) (.int .i64 0) (.bool n11) (.slice s11 l11 d11) (.int .i64 e11) (.bool n21) (.slice s21 l21 d21) (.int .i64 e21) (.int .i64 128) (.int .i64 2) (.int .i64 0)
   simp only [List.set_cons_zero] at f
   generalize (World.setCell (World.setCell (World.setCell (World.setCell (World.setCell (World.setCell (World.setCell (World.setCell (World.setCell (World.setCell (World.setCell (World.setCell _ _ _) _ _) _ _) _ _) _ _) _ _) _ _) _ _) _ _) _ _) _ _) _ _)=W at f ⊢
   have c:=f.c12a 0 rfl
   refine bodyPost_ret (v:=.tuple #[.agg #[(.int .u64 B'),.int .u8 f1,.int .i64 0,.bool n11,.slice s11 l11 d11,.int .i64 e11,.bool n21,.slice s21 l21 d21,.int .i64 e21,.int .i64 128,.int .i64 2,.int .i64 0],.int .i64 0]) (by simp [results,Tryz.results43,go_sem,c]) rfl ?_
   have hB:=HB.out
   subst hB
   exact ⟨B1,f1,true,_,_,_,_,_,_,_,_,_,_,_,_,rfl,HP.out,nofun,f.b⟩
  case false =>
   obtain ⟨h1,h2,I,hq,hI⟩:=hi rfl
   subst h1 h2
   have HP:=h_ hp
   have HQ:=h_ hq
   have HI:=h_ hI
   clear hp hi hq hI
   have hz:((0:Nat):Int)=0:=rfl
   rw [hz]
   clear hz
   go_upto_region 11 with (fail)
   have F7:=h_ (F6.out.new 94 #[.int .u64 0,.int .u8 0,.int .i64 0,.bool n11,.slice s11 l11 d11,.int .i64 e11,.bool n21,.slice s21 l21 d21,.int .i64 e21])
   have HI:=h_ (HI.out.alloc (.cells #[.int .u64 0,.int .u8 0,.int .i64 0,.bool n11,.slice s11 l11 d11,.int .i64 e11,.bool n21,.slice s21 l21 d21,.int .i64 e21] 94))
   obtain ⟨g2,hg1⟩:∃ g,g=(World.heap w6).size:=⟨_,rfl⟩
   rw [← hg1] at F7 ⊢
   clear hg1 F6
   simp only [List.nil_append,List.cons_append] at F7
   generalize World.alloc w6 _=w7 at F7 HI ⊢
   have ee:=F7.out.c9 2 rfl
   have c:=F7.out.c12a 1 rfl
   go_upto_region 12 with (fail)
   clear ee
   clear c
   have F7:=h_ F7.out.front2
   have HI:=h_ (HI.out.kp ((F7.out.box 1 _ _ _ rfl).kp10 rfl rfl rfl rfl rfl rfl rfl rfl (.int .i64 0) (.bool n11) (.slice s11 l11 d11) (.int .i64 e11) (.bool n21) (.slice s21 l21 d21) (.int .i64 e21) (.int .i64 128)))
   have f:=F7.out.s12_0 1 rfl (.int .u64 0) (.int .u8 0) (.int .i64 0) (.bool n11) (.slice s11 l11 d11) (.int .i64 e11) (.bool n21) (.slice s21 l21 d21) (.int .i64 e21) (.int .i64 128)
   simp only [List.set_cons_zero,List.set_cons_succ] at f
   generalize (World.setCell (World.setCell (World.setCell (World.setCell (World.setCell (World.setCell (World.setCell (World.setCell (World.setCell (World.setCell _ _ _) _ _) _ _) _ _) _ _) _ _) _ _) _ _) _ _) _ _)=w8 at f HI ⊢
   have F8:=h_ f
   clear f F7
   have c10:w8.cell? ⟨w.heap.size+1,10,none⟩=some (.int .i64 1):=(F8.out.box 1 _ _ _ rfl).at 10 _ rfl
   have f10:w8.frozen? ⟨w.heap.size+1,10,none⟩=false:=(F8.out.box 1 _ _ _ rfl).frozen 10
   go_upto_region 13 with (fail)
   clear c10 f10
   have HI:=h_ (HI.out.kp (Kp.setnl (i:=10) (x:=.int .i64 1) (F8.out.box 1 _ _ _ rfl) rfl rfl (.int .i64 2)))
   have f:=F8.out.s12_10 1 rfl (.int .i64 2)
   simp only [List.set_cons_zero,List.set_cons_succ] at f
   generalize World.setCell _ _ _=w9 at f HI ⊢
   have F9:=h_ f
   clear f F8
   go_wp2
   clear HP HQ HI
   rw [rounds_succ]
   have x0:=cell_below F9.out.b (Nat.le_refl _) HC2.out
   go_wp2_with fail
   clear x0
   refine (CL2.out HX.out _ F9.out.b).mono ?_
   rintro q w10 ⟨B2,f2,ok2,n12,s12,l12,d12,e12,n22,s22,l22,d22,e22,rfl,hp,hi,hb⟩
   have F10:=h_ (F9.out.call hb)
   clear hb F9
   cases ok2
   case true =>
    have HP:=h_ hp
    obtain ⟨B',hB'⟩:∃ q:Int,q=(B2:Int):=⟨_,rfl⟩
    rw [← hB']
    have HB:=h_ hB'.symm
    clear hp hi hB'
    go_upto_region 11 with (fail)
    have F11:=h_ (F10.out.new 94 #[(.int .u64 B'),.int .u8 f2,.int .i64 0,.bool n12,.slice s12 l12 d12,.int .i64 e12,.bool n22,.slice s22 l22 d22,.int .i64 e22])
    obtain ⟨g3,hg1⟩:∃ g,g=(World.heap w10).size:=⟨_,rfl⟩
    rw [← hg1] at F11 ⊢
    clear hg1 F10
    simp only [List.nil_append,List.cons_append] at F11
    generalize World.alloc w10 _=w11 at F11 ⊢
    have ee:=F11.out.c9 2 rfl
    have c:=F11.out.c12a 1 rfl
    go_upto_region 12 with (fail)
    clear ee
    clear c
    have F11:=h_ F11.out.front2
    have f:=F11.out.s12_0 1 rfl ((.int .u64 B')) (.int .u8 f2) (.int .i64 0) (.bool n12) (.slice s12 l12 d12) (.int .i64 e12) (.bool n22) (.slice s22 l22 d22) (.int .i64 e22) (.int .i64 256)
    simp only [List.set_cons_zero,List.set_cons_succ] at f
    generalize (World.setCell (World.setCell (World.setCell (World.setCell (World.setCell (World.setCell (World.setCell (World.setCell (World.setCell (World.setCell _ _ _) _ _) _ _) _ _) _ _) _ _) _ _) _ _) _ _) _ _)=w12 at f ⊢
    have F12:=h_ f
    clear f F11
    have c10:w12.cell? ⟨w.heap.size+1,10,none⟩=some (.int .i64 2):=(F12.out.box 1 _ _ _ rfl).at 10 _ rfl
    have f10:w12.frozen? ⟨w.heap.size+1,10,none⟩=false:=(F12.out.box 1 _ _ _ rfl).frozen 10
    go_upto_region 13 with (fail)
    clear c10 f10
    have f:=F12.out.s12_10 1 rfl (.int .i64 3)
    simp only [List.set_cons_zero,List.set_cons_succ] at f
    generalize World.setCell _ _ _=w13 at f ⊢
    have F13:=h_ f
    clear f F12
    have c11:w13.cell? ⟨w.heap.size+1,11,none⟩=some (.int .i64 2):=(F13.out.box 1 _ _ _ rfl).at 11 _ rfl
    have f11:w13.frozen? ⟨w.heap.size+1,11,none⟩=false:=(F13.out.box 1 _ _ _ rfl).frozen 11
    go_upto_region 16 with (fail)
    clear c11 f11
    have f:=F13.out.s12_11 1 rfl (.int .i64 0)
    simp only [List.set_cons_zero,List.set_cons_succ] at f
    generalize World.setCell _ _ _=w14 at f ⊢
    have F14:=h_ f
    clear f F13
    have c:=F14.out.c12a 1 rfl
    have ee:=F14.out.c12a 0 rfl
    go_wp2
    clear c
    clear ee
    have f:=F14.out.s12 0 rfl ((.int .u64 B')) (.int .u8 f2) (.int .i64 0) (.bool n12) (.slice s12 l12 d12) (.int .i64 e12) (.bool n22) (.slice s22 l22 d22) (.int .i64 e22) (.int .i64 256) (.int .i64 3) (.int .i64 0)
    simp only [List.set_cons_zero] at f
    generalize (World.setCell (World.setCell (World.setCell (World.setCell (World.setCell (World.setCell (World.setCell (World.setCell (World.setCell (World.setCell (World.setCell (World.setCell _ _ _) _ _) _ _) _ _) _ _) _ _) _ _) _ _) _ _) _ _) _ _) _ _)=W at f ⊢
    have c:=f.c12a 0 rfl
    refine bodyPost_ret (v:=.tuple #[.agg #[(.int .u64 B'),.int .u8 f2,.int .i64 0,.bool n12,.slice s12 l12 d12,.int .i64 e12,.bool n22,.slice s22 l22 d22,.int .i64 e22,.int .i64 256,.int .i64 3,.int .i64 0],.int .i64 0]) (by simp [results,Tryz.results43,go_sem,c]) rfl ?_
    have hB:=HB.out
    subst hB
    exact ⟨B2,f2,true,_,_,_,_,_,_,_,_,_,_,_,_,rfl,HP.out,nofun,f.b⟩
   case false =>
    obtain ⟨h1,h2,I,hq,hI⟩:=hi rfl
    subst h1 h2
    have HP:=h_ hp
    have HQ:=h_ hq
    have HI:=h_ hI
    clear hp hi hq hI
    have hz:((0:Nat):Int)=0:=rfl
    rw [hz]
    clear hz
    go_upto_region 11 with (fail)
    have F11:=h_ (F10.out.new 94 #[.int .u64 0,.int .u8 0,.int .i64 0,.bool n12,.slice s12 l12 d12,.int .i64 e12,.bool n22,.slice s22 l22 d22,.int .i64 e22])
    have HI:=h_ (HI.out.alloc (.cells #[.int .u64 0,.int .u8 0,.int .i64 0,.bool n12,.slice s12 l12 d12,.int .i64 e12,.bool n22,.slice s22 l22 d22,.int .i64 e22] 94))
    obtain ⟨g3,hg1⟩:∃ g,g=(World.heap w10).size:=⟨_,rfl⟩
    rw [← hg1] at F11 ⊢
    clear hg1 F10
    simp only [List.nil_append,List.cons_append] at F11
    generalize World.alloc w10 _=w11 at F11 HI ⊢
    have ee:=F11.out.c9 2 rfl
    have c:=F11.out.c12a 1 rfl
    go_upto_region 12 with (fail)
    clear ee
    clear c
    have F11:=h_ F11.out.front2
    have HI:=h_ (HI.out.kp ((F11.out.box 1 _ _ _ rfl).kp10 rfl rfl rfl rfl rfl rfl rfl rfl (.int .i64 0) (.bool n12) (.slice s12 l12 d12) (.int .i64 e12) (.bool n22) (.slice s22 l22 d22) (.int .i64 e22) (.int .i64 256)))
    have f:=F11.out.s12_0 1 rfl (.int .u64 0) (.int .u8 0) (.int .i64 0) (.bool n12) (.slice s12 l12 d12) (.int .i64 e12) (.bool n22) (.slice s22 l22 d22) (.int .i64 e22) (.int .i64 256)
    simp only [List.set_cons_zero,List.set_cons_succ] at f
    generalize (World.setCell (World.setCell (World.setCell (World.setCell (World.setCell (World.setCell (World.setCell (World.setCell (World.setCell (World.setCell _ _ _) _ _) _ _) _ _) _ _) _ _) _ _) _ _) _ _) _ _)=w12 at f HI ⊢
    have F12:=h_ f
    clear f F11
    have c10:w12.cell? ⟨w.heap.size+1,10,none⟩=some (.int .i64 2):=(F12.out.box 1 _ _ _ rfl).at 10 _ rfl
    have f10:w12.frozen? ⟨w.heap.size+1,10,none⟩=false:=(F12.out.box 1 _ _ _ rfl).frozen 10
    go_upto_region 13 with (fail)
    clear c10 f10
    have HI:=h_ (HI.out.kp (Kp.setnl (i:=10) (x:=.int .i64 2) (F12.out.box 1 _ _ _ rfl) rfl rfl (.int .i64 3)))
    have f:=F12.out.s12_10 1 rfl (.int .i64 3)
    simp only [List.set_cons_zero,List.set_cons_succ] at f
    generalize World.setCell _ _ _=w13 at f HI ⊢
    have F13:=h_ f
    clear f F12
    go_wp2
    clear HP HQ HI
    rw [rounds_succ]
    have x0:=cell_below F13.out.b (Nat.le_refl _) HC3.out
    go_wp2_with fail
    clear x0
    refine (CL3.out HX.out _ F13.out.b).mono ?_
    rintro q w14 ⟨B3,f3,ok3,n13,s13,l13,d13,e13,n23,s23,l23,d23,e23,rfl,hp,hi,hb⟩
    have F14:=h_ (F13.out.call hb)
    clear hb F13
    cases ok3
    case true =>
     have HP:=h_ hp
     obtain ⟨B',hB'⟩:∃ q:Int,q=(B3:Int):=⟨_,rfl⟩
     rw [← hB']
     have HB:=h_ hB'.symm
     clear hp hi hB'
     go_upto_region 11 with (fail)
     have F15:=h_ (F14.out.new 94 #[(.int .u64 B'),.int .u8 f3,.int .i64 0,.bool n13,.slice s13 l13 d13,.int .i64 e13,.bool n23,.slice s23 l23 d23,.int .i64 e23])
     obtain ⟨g4,hg1⟩:∃ g,g=(World.heap w14).size:=⟨_,rfl⟩
     rw [← hg1] at F15 ⊢
     clear hg1 F14
     simp only [List.nil_append,List.cons_append] at F15
     generalize World.alloc w14 _=w15 at F15 ⊢
     have ee:=F15.out.c9 2 rfl
     have c:=F15.out.c12a 1 rfl
     go_upto_region 12 with (fail)
     clear ee
     clear c
     have F15:=h_ F15.out.front2
     have f:=F15.out.s12_0 1 rfl ((.int .u64 B')) (.int .u8 f3) (.int .i64 0) (.bool n13) (.slice s13 l13 d13) (.int .i64 e13) (.bool n23) (.slice s23 l23 d23) (.int .i64 e23) (.int .i64 512)
     simp only [List.set_cons_zero,List.set_cons_succ] at f
     generalize (World.setCell (World.setCell (World.setCell (World.setCell (World.setCell (World.setCell (World.setCell (World.setCell (World.setCell (World.setCell _ _ _) _ _) _ _) _ _) _ _) _ _) _ _) _ _) _ _) _ _)=w16 at f ⊢
     have F16:=h_ f
     clear f F15
     have c10:w16.cell? ⟨w.heap.size+1,10,none⟩=some (.int .i64 3):=(F16.out.box 1 _ _ _ rfl).at 10 _ rfl
     have f10:w16.frozen? ⟨w.heap.size+1,10,none⟩=false:=(F16.out.box 1 _ _ _ rfl).frozen 10
     go_upto_region 13 with (fail)
     clear c10 f10
     have f:=F16.out.s12_10 1 rfl (.int .i64 4)
     simp only [List.set_cons_zero,List.set_cons_succ] at f
     generalize World.setCell _ _ _=w17 at f ⊢
     have F17:=h_ f
     clear f F16
     have c11:w17.cell? ⟨w.heap.size+1,11,none⟩=some (.int .i64 2):=(F17.out.box 1 _ _ _ rfl).at 11 _ rfl
     have f11:w17.frozen? ⟨w.heap.size+1,11,none⟩=false:=(F17.out.box 1 _ _ _ rfl).frozen 11
     go_upto_region 16 with (fail)
     clear c11 f11
     have f:=F17.out.s12_11 1 rfl (.int .i64 0)
     simp only [List.set_cons_zero,List.set_cons_succ] at f
     generalize World.setCell _ _ _=w18 at f ⊢
     have F18:=h_ f
     clear f F17
     have c:=F18.out.c12a 1 rfl
     have ee:=F18.out.c12a 0 rfl
     go_wp2
     clear c
     clear ee
     have f:=F18.out.s12 0 rfl ((.int .u64 B')) (.int .u8 f3) (.int .i64 0) (.bool n13) (.slice s13 l13 d13) (.int .i64 e13) (.bool n23) (.slice s23 l23 d23) (.int .i64 e23) (.int .i64 512) (.int .i64 4) (.int .i64 0)
     simp only [List.set_cons_zero] at f
     generalize (World.setCell (World.setCell (World.setCell (World.setCell (World.setCell (World.setCell (World.setCell (World.setCell (World.setCell (World.setCell (World.setCell (World.setCell _ _ _) _ _) _ _) _ _) _ _) _ _) _ _) _ _) _ _) _ _) _ _) _ _)=W at f ⊢
     have c:=f.c12a 0 rfl
     refine bodyPost_ret (v:=.tuple #[.agg #[(.int .u64 B'),.int .u8 f3,.int .i64 0,.bool n13,.slice s13 l13 d13,.int .i64 e13,.bool n23,.slice s23 l23 d23,.int .i64 e23,.int .i64 512,.int .i64 4,.int .i64 0],.int .i64 0]) (by simp [results,Tryz.results43,go_sem,c]) rfl ?_
     have hB:=HB.out
     subst hB
     exact ⟨B3,f3,true,_,_,_,_,_,_,_,_,_,_,_,_,rfl,HP.out,nofun,f.b⟩
    case false =>
     obtain ⟨h1,h2,I,hq,hI⟩:=hi rfl
     subst h1 h2
     have HP:=h_ hp
     have HQ:=h_ hq
     have HI:=h_ hI
     clear hp hi hq hI
     have hz:((0:Nat):Int)=0:=rfl
     rw [hz]
     clear hz
     go_upto_region 11 with (fail)
     have F15:=h_ (F14.out.new 94 #[.int .u64 0,.int .u8 0,.int .i64 0,.bool n13,.slice s13 l13 d13,.int .i64 e13,.bool n23,.slice s23 l23 d23,.int .i64 e23])
     have HI:=h_ (HI.out.alloc (.cells #[.int .u64 0,.int .u8 0,.int .i64 0,.bool n13,.slice s13 l13 d13,.int .i64 e13,.bool n23,.slice s23 l23 d23,.int .i64 e23] 94))
     obtain ⟨g4,hg1⟩:∃ g,g=(World.heap w14).size:=⟨_,rfl⟩
     rw [← hg1] at F15 ⊢
     clear hg1 F14
     simp only [List.nil_append,List.cons_append] at F15
     generalize World.alloc w14 _=w15 at F15 HI ⊢
     have ee:=F15.out.c9 2 rfl
     have c:=F15.out.c12a 1 rfl
     go_upto_region 12 with (fail)
     clear ee
     clear c
     have F15:=h_ F15.out.front2
     have HI:=h_ (HI.out.kp ((F15.out.box 1 _ _ _ rfl).kp10 rfl rfl rfl rfl rfl rfl rfl rfl (.int .i64 0) (.bool n13) (.slice s13 l13 d13) (.int .i64 e13) (.bool n23) (.slice s23 l23 d23) (.int .i64 e23) (.int .i64 512)))
     have f:=F15.out.s12_0 1 rfl (.int .u64 0) (.int .u8 0) (.int .i64 0) (.bool n13) (.slice s13 l13 d13) (.int .i64 e13) (.bool n23) (.slice s23 l23 d23) (.int .i64 e23) (.int .i64 512)
     simp only [List.set_cons_zero,List.set_cons_succ] at f
     generalize (World.setCell (World.setCell (World.setCell (World.setCell (World.setCell (World.setCell (World.setCell (World.setCell (World.setCell (World.setCell _ _ _) _ _) _ _) _ _) _ _) _ _) _ _) _ _) _ _) _ _)=w16 at f HI ⊢
     have F16:=h_ f
     clear f F15
     have c10:w16.cell? ⟨w.heap.size+1,10,none⟩=some (.int .i64 3):=(F16.out.box 1 _ _ _ rfl).at 10 _ rfl
     have f10:w16.frozen? ⟨w.heap.size+1,10,none⟩=false:=(F16.out.box 1 _ _ _ rfl).frozen 10
     go_upto_region 13 with (fail)
     clear c10 f10
     have HI:=h_ (HI.out.kp (Kp.setnl (i:=10) (x:=.int .i64 3) (F16.out.box 1 _ _ _ rfl) rfl rfl (.int .i64 4)))
     have f:=F16.out.s12_10 1 rfl (.int .i64 4)
     simp only [List.set_cons_zero,List.set_cons_succ] at f
     generalize World.setCell _ _ _=w17 at f HI ⊢
     have F17:=h_ f
     clear f F16
     go_wp2
     rcases HN.out with rfl | rfl
     case inl =>
      rw [rounds_succ]
      go_upto_region 16 with (fail)
      have c:=F17.out.c12a 1 rfl
      have ee:=F17.out.c12a 0 rfl
      go_wp2
      clear c
      clear ee
      have HI:=h_ (HI.out.kp ((F17.out.box 0 _ _ _ rfl).kp12 rfl rfl rfl rfl rfl rfl rfl rfl rfl rfl (.int .i64 0) (.bool n13) (.slice s13 l13 d13) (.int .i64 e13) (.bool n23) (.slice s23 l23 d23) (.int .i64 e23) (.int .i64 512) (.int .i64 4) (.int .i64 2)))
      have f:=F17.out.s12 0 rfl (.int .u64 0) (.int .u8 0) (.int .i64 0) (.bool n13) (.slice s13 l13 d13) (.int .i64 e13) (.bool n23) (.slice s23 l23 d23) (.int .i64 e23) (.int .i64 512) (.int .i64 4) (.int .i64 2)
      simp only [List.set_cons_zero] at f
      generalize (World.setCell (World.setCell (World.setCell (World.setCell (World.setCell (World.setCell (World.setCell (World.setCell (World.setCell (World.setCell (World.setCell (World.setCell _ _ _) _ _) _ _) _ _) _ _) _ _) _ _) _ _) _ _) _ _) _ _) _ _)=W at f HI ⊢
      have c:=f.c12a 0 rfl
      refine bodyPost_ret (v:=.tuple #[.agg #[.int .u64 0,.int .u8 0,.int .i64 0,.bool n13,.slice s13 l13 d13,.int .i64 e13,.bool n23,.slice s23 l23 d23,.int .i64 e23,.int .i64 512,.int .i64 4,.int .i64 2],.int .i64 0]) (by simp [results,Tryz.results43,go_sem,c]) rfl ?_
      exact ⟨0,0,false,_,_,_,_,_,_,_,_,_,_,_,_,rfl,HP.out,fun _=>⟨rfl,rfl,_,HQ.out,HI.out⟩,f.b⟩
     case inr =>
      clear HP HQ HI
      obtain ⟨hc4,cl4⟩:=D4.out rfl
      have HC4:=h_ hc4
      have CL4:=h_ cl4
      clear D4 hc4 cl4
      rw [rounds_succ]
      have x0:=cell_below F17.out.b (Nat.le_refl _) HC4.out
      go_wp2_with fail
      clear x0
      refine (CL4.out HX.out _ F17.out.b).mono ?_
      rintro q w18 ⟨B4,f4,ok4,n14,s14,l14,d14,e14,n24,s24,l24,d24,e24,rfl,hp,hi,hb⟩
      have F18:=h_ (F17.out.call hb)
      clear hb F17
      cases ok4
      case true =>
       have HP:=h_ hp
       obtain ⟨B',hB'⟩:∃ q:Int,q=(B4:Int):=⟨_,rfl⟩
       rw [← hB']
       have HB:=h_ hB'.symm
       clear hp hi hB'
       go_upto_region 11 with (fail)
       have F19:=h_ (F18.out.new 94 #[(.int .u64 B'),.int .u8 f4,.int .i64 0,.bool n14,.slice s14 l14 d14,.int .i64 e14,.bool n24,.slice s24 l24 d24,.int .i64 e24])
       obtain ⟨g5,hg1⟩:∃ g,g=(World.heap w18).size:=⟨_,rfl⟩
       rw [← hg1] at F19 ⊢
       clear hg1 F18
       simp only [List.nil_append,List.cons_append] at F19
       generalize World.alloc w18 _=w19 at F19 ⊢
       have ee:=F19.out.c9 2 rfl
       have c:=F19.out.c12a 1 rfl
       go_upto_region 12 with (fail)
       clear ee
       clear c
       have F19:=h_ F19.out.front2
       have f:=F19.out.s12_0 1 rfl ((.int .u64 B')) (.int .u8 f4) (.int .i64 0) (.bool n14) (.slice s14 l14 d14) (.int .i64 e14) (.bool n24) (.slice s24 l24 d24) (.int .i64 e24) (.int .i64 1024)
       simp only [List.set_cons_zero,List.set_cons_succ] at f
       generalize (World.setCell (World.setCell (World.setCell (World.setCell (World.setCell (World.setCell (World.setCell (World.setCell (World.setCell (World.setCell _ _ _) _ _) _ _) _ _) _ _) _ _) _ _) _ _) _ _) _ _)=w20 at f ⊢
       have F20:=h_ f
       clear f F19
       have c10:w20.cell? ⟨w.heap.size+1,10,none⟩=some (.int .i64 4):=(F20.out.box 1 _ _ _ rfl).at 10 _ rfl
       have f10:w20.frozen? ⟨w.heap.size+1,10,none⟩=false:=(F20.out.box 1 _ _ _ rfl).frozen 10
       go_upto_region 13 with (fail)
       clear c10 f10
       have f:=F20.out.s12_10 1 rfl (.int .i64 5)
       simp only [List.set_cons_zero,List.set_cons_succ] at f
       generalize World.setCell _ _ _=w21 at f ⊢
       have F21:=h_ f
       clear f F20
       have c11:w21.cell? ⟨w.heap.size+1,11,none⟩=some (.int .i64 2):=(F21.out.box 1 _ _ _ rfl).at 11 _ rfl
       have f11:w21.frozen? ⟨w.heap.size+1,11,none⟩=false:=(F21.out.box 1 _ _ _ rfl).frozen 11
       go_upto_region 16 with (fail)
       clear c11 f11
       have f:=F21.out.s12_11 1 rfl (.int .i64 0)
       simp only [List.set_cons_zero,List.set_cons_succ] at f
       generalize World.setCell _ _ _=w22 at f ⊢
       have F22:=h_ f
       clear f F21
       have c:=F22.out.c12a 1 rfl
       have ee:=F22.out.c12a 0 rfl
       go_wp2
       clear c
       clear ee
       have f:=F22.out.s12 0 rfl ((.int .u64 B')) (.int .u8 f4) (.int .i64 0) (.bool n14) (.slice s14 l14 d14) (.int .i64 e14) (.bool n24) (.slice s24 l24 d24) (.int .i64 e24) (.int .i64 1024) (.int .i64 5) (.int .i64 0)
       simp only [List.set_cons_zero] at f
       generalize (World.setCell (World.setCell (World.setCell (World.setCell (World.setCell (World.setCell (World.setCell (World.setCell (World.setCell (World.setCell (World.setCell (World.setCell _ _ _) _ _) _ _) _ _) _ _) _ _) _ _) _ _) _ _) _ _) _ _) _ _)=W at f ⊢
       have c:=f.c12a 0 rfl
       refine bodyPost_ret (v:=.tuple #[.agg #[(.int .u64 B'),.int .u8 f4,.int .i64 0,.bool n14,.slice s14 l14 d14,.int .i64 e14,.bool n24,.slice s24 l24 d24,.int .i64 e24,.int .i64 1024,.int .i64 5,.int .i64 0],.int .i64 0]) (by simp [results,Tryz.results43,go_sem,c]) rfl ?_
       have hB:=HB.out
       subst hB
       exact ⟨B4,f4,true,_,_,_,_,_,_,_,_,_,_,_,_,rfl,HP.out,nofun,f.b⟩
      case false =>
       obtain ⟨h1,h2,I,hq,hI⟩:=hi rfl
       subst h1 h2
       have HP:=h_ hp
       have HQ:=h_ hq
       have HI:=h_ hI
       clear hp hi hq hI
       have hz:((0:Nat):Int)=0:=rfl
       rw [hz]
       clear hz
       go_upto_region 11 with (fail)
       have F19:=h_ (F18.out.new 94 #[.int .u64 0,.int .u8 0,.int .i64 0,.bool n14,.slice s14 l14 d14,.int .i64 e14,.bool n24,.slice s24 l24 d24,.int .i64 e24])
       have HI:=h_ (HI.out.alloc (.cells #[.int .u64 0,.int .u8 0,.int .i64 0,.bool n14,.slice s14 l14 d14,.int .i64 e14,.bool n24,.slice s24 l24 d24,.int .i64 e24] 94))
       obtain ⟨g5,hg1⟩:∃ g,g=(World.heap w18).size:=⟨_,rfl⟩
       rw [← hg1] at F19 ⊢
       clear hg1 F18
       simp only [List.nil_append,List.cons_append] at F19
       generalize World.alloc w18 _=w19 at F19 HI ⊢
       have ee:=F19.out.c9 2 rfl
       have c:=F19.out.c12a 1 rfl
       go_upto_region 12 with (fail)
       clear ee
       clear c
       have F19:=h_ F19.out.front2
       have HI:=h_ (HI.out.kp ((F19.out.box 1 _ _ _ rfl).kp10 rfl rfl rfl rfl rfl rfl rfl rfl (.int .i64 0) (.bool n14) (.slice s14 l14 d14) (.int .i64 e14) (.bool n24) (.slice s24 l24 d24) (.int .i64 e24) (.int .i64 1024)))
       have f:=F19.out.s12_0 1 rfl (.int .u64 0) (.int .u8 0) (.int .i64 0) (.bool n14) (.slice s14 l14 d14) (.int .i64 e14) (.bool n24) (.slice s24 l24 d24) (.int .i64 e24) (.int .i64 1024)
       simp only [List.set_cons_zero,List.set_cons_succ] at f
       generalize (World.setCell (World.setCell (World.setCell (World.setCell (World.setCell (World.setCell (World.setCell (World.setCell (World.setCell (World.setCell _ _ _) _ _) _ _) _ _) _ _) _ _) _ _) _ _) _ _) _ _)=w20 at f HI ⊢
       have F20:=h_ f
       clear f F19
       have c10:w20.cell? ⟨w.heap.size+1,10,none⟩=some (.int .i64 4):=(F20.out.box 1 _ _ _ rfl).at 10 _ rfl
       have f10:w20.frozen? ⟨w.heap.size+1,10,none⟩=false:=(F20.out.box 1 _ _ _ rfl).frozen 10
       go_upto_region 13 with (fail)
       clear c10 f10
       have HI:=h_ (HI.out.kp (Kp.setnl (i:=10) (x:=.int .i64 4) (F20.out.box 1 _ _ _ rfl) rfl rfl (.int .i64 5)))
       have f:=F20.out.s12_10 1 rfl (.int .i64 5)
       simp only [List.set_cons_zero,List.set_cons_succ] at f
       generalize World.setCell _ _ _=w21 at f HI ⊢
       have F21:=h_ f
       clear f F20
       go_wp2
       rw [rounds_succ]
       go_upto_region 16 with (fail)
       have c:=F21.out.c12a 1 rfl
       have ee:=F21.out.c12a 0 rfl
       go_wp2
       clear c
       clear ee
       have HI:=h_ (HI.out.kp ((F21.out.box 0 _ _ _ rfl).kp12 rfl rfl rfl rfl rfl rfl rfl rfl rfl rfl (.int .i64 0) (.bool n14) (.slice s14 l14 d14) (.int .i64 e14) (.bool n24) (.slice s24 l24 d24) (.int .i64 e24) (.int .i64 1024) (.int .i64 5) (.int .i64 2)))
       have f:=F21.out.s12 0 rfl (.int .u64 0) (.int .u8 0) (.int .i64 0) (.bool n14) (.slice s14 l14 d14) (.int .i64 e14) (.bool n24) (.slice s24 l24 d24) (.int .i64 e24) (.int .i64 1024) (.int .i64 5) (.int .i64 2)
       simp only [List.set_cons_zero] at f
       generalize (World.setCell (World.setCell (World.setCell (World.setCell (World.setCell (World.setCell (World.setCell (World.setCell (World.setCell (World.setCell (World.setCell (World.setCell _ _ _) _ _) _ _) _ _) _ _) _ _) _ _) _ _) _ _) _ _) _ _) _ _)=W at f HI ⊢
       have c:=f.c12a 0 rfl
       refine bodyPost_ret (v:=.tuple #[.agg #[.int .u64 0,.int .u8 0,.int .i64 0,.bool n14,.slice s14 l14 d14,.int .i64 e14,.bool n24,.slice s24 l24 d24,.int .i64 e24,.int .i64 1024,.int .i64 5,.int .i64 2],.int .i64 0]) (by simp [results,Tryz.results43,go_sem,c]) rfl ?_
       exact ⟨0,0,false,_,_,_,_,_,_,_,_,_,_,_,_,rfl,HP.out,fun _=>⟨rfl,rfl,_,HQ.out,HI.out⟩,f.b⟩
theorem Fz.c12 {w0 w:World} {bs:List (Nat × TypeId × Array Value)} (h:Fz w0 w bs) (i:Nat) {g:Nat} {t:TypeId} {x0 x1 x2 x3 x4 x5 x6 x7 x8 x9 x10 x11:Value} (hi:bs[i]?=some (g,t,#[x0,x1,x2,x3,x4,x5,x6,x7,x8,x9,x10,x11])) :
  (w.cell? ⟨g,0,none⟩=some x0∧w.cell? ⟨g,1,none⟩=some x1∧w.cell? ⟨g,2,none⟩=some x2∧w.cell? ⟨g,10,none⟩=some x10∧w.cell? ⟨g,11,none⟩=some x11)∧w.frozen? ⟨g,0,none⟩=false:=by
 have k:=h.box i _ _ _ hi
 exact ⟨⟨k.at 0 x0 rfl,k.at 1 x1 rfl,k.at 2 x2 rfl,k.at 10 x10 rfl,k.at 11 x11 rfl⟩,k.frozen 0⟩
end Go.Proofs.YtobpioceopfkpaaGreatDoor
