/-
  Lemmas for WholeTurned and WholeGrows and WholeRises, part 12 of 36: what the program's functions do, and plain facts; without conditions.
-/
import Derived.Test.YtobpioceopfkpaaGreatDoorM11
import Derived.Deep.RegionHeld3
set_option maxRecDepth 100000
set_option maxHeartbeats 4000000
namespace Go.Proofs.YtobpioceopfkpaaGreatDoor
open Go.RowKit
def lessD (x m:Dn):Dn:=if CmpD x m < 0 then x else m
def moreD (x m:Dn):Dn:=if 0 < CmpD x m then x else m
def min4 (a b c d:Dn):Dn:=lessD d (lessD c (lessD b a))
def max4 (a b c d:Dn):Dn:=moreD d (moreD c (moreD b a))
def Q4 (w:World) (v:Value) (p q r s:Dn):Prop:=∃ g cap a1 k1 c1 a2 k2 c2 a3 k3 c3 a4 k4 c4,v=.slice (some ⟨g,0,none⟩) 4 cap ∧
 (w.cell? ⟨g,0,none⟩=some (.bool p.neg)∧w.cell? ⟨g,1,none⟩=some (.slice a1 k1 c1)∧w.cell? ⟨g,2,none⟩=some (.int .i64 p.e)) ∧
 (w.cell? ⟨g,3,none⟩=some (.bool q.neg)∧w.cell? ⟨g,4,none⟩=some (.slice a2 k2 c2)∧w.cell? ⟨g,5,none⟩=some (.int .i64 q.e)) ∧
 (w.cell? ⟨g,6,none⟩=some (.bool r.neg)∧w.cell? ⟨g,7,none⟩=some (.slice a3 k3 c3)∧w.cell? ⟨g,8,none⟩=some (.int .i64 r.e)) ∧
 (w.cell? ⟨g,9,none⟩=some (.bool s.neg)∧w.cell? ⟨g,10,none⟩=some (.slice a4 k4 c4)∧w.cell? ⟨g,11,none⟩=some (.int .i64 s.e)) ∧
 Cy w (.agg #[.bool p.neg,.slice a1 k1 c1,.int .i64 p.e]) p∧Cy w (.agg #[.bool q.neg,.slice a2 k2 c2,.int .i64 q.e]) q ∧
 Cy w (.agg #[.bool r.neg,.slice a3 k3 c3,.int .i64 r.e]) r∧Cy w (.agg #[.bool s.neg,.slice a4 k4 c4,.int .i64 s.e]) s
theorem cells_below {w0 w:World} (hb:Below w0.heap.size w0 w) {g a b c:Nat} {x y z:Value} (h:w0.cell? ⟨g,a,none⟩=some x∧w0.cell? ⟨g,b,none⟩=some y∧w0.cell? ⟨g,c,none⟩=some z) :
  w.cell? ⟨g,a,none⟩=some x∧w.cell? ⟨g,b,none⟩=some y∧w.cell? ⟨g,c,none⟩=some z :=
 ⟨cell_below hb (Nat.le_refl _) h.1,cell_below hb (Nat.le_refl _) h.2.1,cell_below hb (Nat.le_refl _) h.2.2⟩
def minK (p q r s:Dn):Nat→Dn
 | 0=>p
 | 1=>p
 | 2=>lessD q p
 | 3=>lessD r (lessD q p)
 | _=>min4 p q r s
def maxK (p q r s:Dn):Nat→Dn
 | 0=>p
 | 1=>p
 | 2=>moreD q p
 | 3=>moreD r (moreD q p)
 | _=>max4 p q r s
theorem Min4_r {w:World} {u:Value} {p q r s:Dn} (hu:Q4 w u p q r s):Calls Tryz.prog 179 #[u,.func (.func 17) #[] #[]] w (RetC (min4 p q r s) w):=by
 obtain ⟨g,cap,a1,k1,c1,a2,k2,c2,a3,k3,c3,a4,k4,c4,rfl,h1,h2,h3,h4,y1,y2,y3,y4⟩:=hu
 have H1:=h_ h1
 have H2:=h_ h2
 have H3:=h_ h3
 have H4:=h_ h4
 have Y1:=h_ y1
 have Y2:=h_ y2
 have Y3:=h_ y3
 have Y4:=h_ y4
 have K1:Hid (minK p q r s 1=p):=rfl
 have K2:Hid (minK p q r s 2=lessD q (minK p q r s 1)):=rfl
 have K3:Hid (minK p q r s 3=lessD r (minK p q r s 2)):=rfl
 have K4:Hid (minK p q r s 4=lessD s (minK p q r s 3)):=rfl
 have KE:Hid (minK p q r s 4=min4 p q r s):=rfl
 generalize min4 p q r s=R at *
 generalize minK p q r s=f at *
 clear h1 h2 h3 h4 y1 y2 y3 y4
 obtain ⟨pn,pm,pe⟩:=p
 obtain ⟨qn,qm,qe⟩:=q
 obtain ⟨rn,rm,re⟩:=r
 obtain ⟨sn,sm,se⟩:=s
 obtain ⟨zn,zm,ze⟩:=R
 simp only at H1 H2 H3 H4 Y1 Y2 Y3 Y4
 go_enter Tryz.func179,Tryz.ntmps179
 have F0:=h_ (Fx.one w 42 #[.bool false,.slice none 0 0,.int .i64 0] rfl)
 go_upto_region 3 with (fail)
 generalize World.alloc _ _=w0 at F0 ⊢
 have c0_0:=F0.out.c3 0 rfl
 have x1:=cells_below F0.out.b H1.out
 go_wp2
 clear x1
 clear c0_0
 have F1:=h_ (F0.out.new 42 #[.bool pn,.slice a1 k1 c1,.int .i64 pe] rfl)
 clear F0
 obtain ⟨g5,hg5⟩:∃ g,g=(World.heap w0).size:=⟨_,rfl⟩
 rw [← hg5] at F1 ⊢
 clear hg5
 simp only [List.nil_append,List.cons_append] at F1
 generalize World.alloc w0 _=W1 at F1 ⊢
 have c0_1:=F1.out.c3 0 rfl
 have c1_1:=F1.out.c3 1 rfl
 have M1:=h_ (Cy.below Y1.out F1.out.b)
 go_loopw [6] (fun iv wr=>∃ (k:Nat) (mn:Bool) (mm:Nat) (me:Int) (a:Option Addr) (k' c:Nat),iv=.int .i64 (k:Int)∧1≤k∧k≤4∧Hid (Fx w wr [(w.heap.size,42,#[.bool false,.slice none 0 0,.int .i64 0]),(g5,42,#[.bool mn,.slice a k' c,.int .i64 me])])∧Hid (Cy wr (.agg #[.bool mn,.slice a k' c,.int .i64 me]) ⟨mn,mm,me⟩)∧Hid (f k=⟨mn,mm,me⟩)) (fun i _=>(5 - intOf i).toNat)
 case atStart=>exact ⟨1,_,_,_,_,_,_,rfl,by decide,by decide,F1,M1,K1⟩
 case round =>
  clear c0_1 c1_1
  clear F1 M1 K1
  obtain ⟨k,mn,mm,me,a,k',c,rfl,hk1,hk2,hF,hM,hE⟩:=hrel
  rcases (by omega:k=1 ∨ k=2 ∨ k=3 ∨ k=4) with rfl | rfl | rfl | rfl
  ·have HN:Hid (f 2=lessD ⟨qn,qm,qe⟩ ⟨mn,mm,me⟩):=by have h:=K2.out; rw [hE.out] at h; exact h
   have CC:=h_ (fun w u v (h:Cy w u ⟨qn,qm,qe⟩) (k:Cy w v ⟨mn,mm,me⟩)=>Cmp_d h.ry k.ry)
   have HL:Hid (lessD ⟨qn,qm,qe⟩ ⟨mn,mm,me⟩=if CmpD ⟨qn,qm,qe⟩ ⟨mn,mm,me⟩ < 0 then ⟨qn,qm,qe⟩ else ⟨mn,mm,me⟩):=rfl
   generalize CmpD ⟨qn,qm,qe⟩ ⟨mn,mm,me⟩=cc at *
   clear hE hk1 hk2
   have x1:=cells_below hF.out.b H2.out
   have b1:=hF.out.c3 1 rfl
   go_upto_region 7 with (fail)
   clear x1 b1
   have FC:=h_ (And.intro (cells_below hF.out.b H2.out) (hF.out.c3 1 rfl).1)
   have FX:=h_ (Cy.below Y2.out hF.out.b)
   go_region_held3 (fun w'=>(w'.cell? ⟨g,3,none⟩=some (.bool qn)∧w'.cell? ⟨g,4,none⟩=some (.slice a2 k2 c2)∧w'.cell? ⟨g,5,none⟩=some (.int .i64 qe))∧(w'.cell? ⟨g5,0,none⟩=some (.bool mn)∧w'.cell? ⟨g5,1,none⟩=some (.slice a k' c)∧w'.cell? ⟨g5,2,none⟩=some (.int .i64 me))) (first | exact FC.out) (first | (go_at_call 17; (with_reducible refine (CC.out _ _ _ (FX.out.drew) (hM.out.drew)).mono ?_); rintro qq ww1 ⟨rfl,hb⟩; have G1:=h_ (hF.out.drew.call hb); have M1:=h_ (hM.out.drew.below hb); have X1:=h_ (FX.out.drew.below hb); have FC:=h_ (And.intro (cells_below G1.out.b H2.out) (G1.out.c3 1 rfl).1); clear hb))
   have x1:=cells_below G1.out.b H2.out
   have b1:=G1.out.c3 1 rfl
   by_cases hc:cc < 0
   ·have z1:decide (cc < 0)=true:=decide_eq_true hc
    have HN2:Hid (f 2=⟨qn,qm,qe⟩):=HN.out.trans (HL.out.trans (if_pos hc))
    have hc2:¬ 0≤cc:=by omega
    clear HN HL
    go_wp2_with fail
    obtain ⟨f1,p1⟩:=G1.out.s3 1 rfl (.bool qn) (.slice a2 k2 c2) (.int .i64 qe) rfl rfl rfl
    clear x1 b1
    generalize World.setCell (World.setCell (World.setCell _ _ _) _ _) _ _=W at f1 p1 ⊢
    have F1:=h_ f1
    have X2:=h_ (X1.out.kp p1)
    clear f1 p1
    go_roundw
    case rel=>exact ⟨2,_,_,_,_,_,_,rfl,by decide,by decide,F1,X2,HN2⟩
    case measure=>simp [intOf]
   ·have z1:decide (cc < 0)=false:=decide_eq_false hc
    have HN2:Hid (f 2=⟨mn,mm,me⟩):=HN.out.trans (HL.out.trans (if_neg hc))
    have hc2:0≤cc:=by omega
    clear HN HL
    go_wp2_with fail
    go_roundw
    case rel=>exact ⟨2,_,_,_,_,_,_,rfl,by decide,by decide,G1,M1,HN2⟩
    case measure=>simp [intOf]
  ·have HN:Hid (f 3=lessD ⟨rn,rm,re⟩ ⟨mn,mm,me⟩):=by have h:=K3.out; rw [hE.out] at h; exact h
   have CC:=h_ (fun w u v (h:Cy w u ⟨rn,rm,re⟩) (k:Cy w v ⟨mn,mm,me⟩)=>Cmp_d h.ry k.ry)
   have HL:Hid (lessD ⟨rn,rm,re⟩ ⟨mn,mm,me⟩=if CmpD ⟨rn,rm,re⟩ ⟨mn,mm,me⟩ < 0 then ⟨rn,rm,re⟩ else ⟨mn,mm,me⟩):=rfl
   generalize CmpD ⟨rn,rm,re⟩ ⟨mn,mm,me⟩=cc at *
   clear hE hk1 hk2
   have x1:=cells_below hF.out.b H3.out
   have b1:=hF.out.c3 1 rfl
   go_upto_region 7 with (fail)
   clear x1 b1
   have FC:=h_ (And.intro (cells_below hF.out.b H3.out) (hF.out.c3 1 rfl).1)
   have FX:=h_ (Cy.below Y3.out hF.out.b)
   go_region_held3 (fun w'=>(w'.cell? ⟨g,6,none⟩=some (.bool rn)∧w'.cell? ⟨g,7,none⟩=some (.slice a3 k3 c3)∧w'.cell? ⟨g,8,none⟩=some (.int .i64 re))∧(w'.cell? ⟨g5,0,none⟩=some (.bool mn)∧w'.cell? ⟨g5,1,none⟩=some (.slice a k' c)∧w'.cell? ⟨g5,2,none⟩=some (.int .i64 me))) (first | exact FC.out) (first | (go_at_call 17; (with_reducible refine (CC.out _ _ _ (FX.out.drew) (hM.out.drew)).mono ?_); rintro qq ww1 ⟨rfl,hb⟩; have G1:=h_ (hF.out.drew.call hb); have M1:=h_ (hM.out.drew.below hb); have X1:=h_ (FX.out.drew.below hb); have FC:=h_ (And.intro (cells_below G1.out.b H3.out) (G1.out.c3 1 rfl).1); clear hb))
   have x1:=cells_below G1.out.b H3.out
   have b1:=G1.out.c3 1 rfl
   by_cases hc:cc < 0
   ·have z1:decide (cc < 0)=true:=decide_eq_true hc
    have HN2:Hid (f 3=⟨rn,rm,re⟩):=HN.out.trans (HL.out.trans (if_pos hc))
    have hc2:¬ 0≤cc:=by omega
    clear HN HL
    go_wp2_with fail
    obtain ⟨f1,p1⟩:=G1.out.s3 1 rfl (.bool rn) (.slice a3 k3 c3) (.int .i64 re) rfl rfl rfl
    clear x1 b1
    generalize World.setCell (World.setCell (World.setCell _ _ _) _ _) _ _=W at f1 p1 ⊢
    have F1:=h_ f1
    have X2:=h_ (X1.out.kp p1)
    clear f1 p1
    go_roundw
    case rel=>exact ⟨3,_,_,_,_,_,_,rfl,by decide,by decide,F1,X2,HN2⟩
    case measure=>simp [intOf]
   ·have z1:decide (cc < 0)=false:=decide_eq_false hc
    have HN2:Hid (f 3=⟨mn,mm,me⟩):=HN.out.trans (HL.out.trans (if_neg hc))
    have hc2:0≤cc:=by omega
    clear HN HL
    go_wp2_with fail
    go_roundw
    case rel=>exact ⟨3,_,_,_,_,_,_,rfl,by decide,by decide,G1,M1,HN2⟩
    case measure=>simp [intOf]
  ·have HN:Hid (f 4=lessD ⟨sn,sm,se⟩ ⟨mn,mm,me⟩):=by have h:=K4.out; rw [hE.out] at h; exact h
   have CC:=h_ (fun w u v (h:Cy w u ⟨sn,sm,se⟩) (k:Cy w v ⟨mn,mm,me⟩)=>Cmp_d h.ry k.ry)
   have HL:Hid (lessD ⟨sn,sm,se⟩ ⟨mn,mm,me⟩=if CmpD ⟨sn,sm,se⟩ ⟨mn,mm,me⟩ < 0 then ⟨sn,sm,se⟩ else ⟨mn,mm,me⟩):=rfl
   generalize CmpD ⟨sn,sm,se⟩ ⟨mn,mm,me⟩=cc at *
   clear hE hk1 hk2
   have x1:=cells_below hF.out.b H4.out
   have b1:=hF.out.c3 1 rfl
   go_upto_region 7 with (fail)
   clear x1 b1
   have FC:=h_ (And.intro (cells_below hF.out.b H4.out) (hF.out.c3 1 rfl).1)
   have FX:=h_ (Cy.below Y4.out hF.out.b)
   go_region_held3 (fun w'=>(w'.cell? ⟨g,9,none⟩=some (.bool sn)∧w'.cell? ⟨g,10,none⟩=some (.slice a4 k4 c4)∧w'.cell? ⟨g,11,none⟩=some (.int .i64 se))∧(w'.cell? ⟨g5,0,none⟩=some (.bool mn)∧w'.cell? ⟨g5,1,none⟩=some (.slice a k' c)∧w'.cell? ⟨g5,2,none⟩=some (.int .i64 me))) (first | exact FC.out) (first | (go_at_call 17; (with_reducible refine (CC.out _ _ _ (FX.out.drew) (hM.out.drew)).mono ?_); rintro qq ww1 ⟨rfl,hb⟩; have G1:=h_ (hF.out.drew.call hb); have M1:=h_ (hM.out.drew.below hb); have X1:=h_ (FX.out.drew.below hb); have FC:=h_ (And.intro (cells_below G1.out.b H4.out) (G1.out.c3 1 rfl).1); clear hb))
   have x1:=cells_below G1.out.b H4.out
   have b1:=G1.out.c3 1 rfl
   by_cases hc:cc < 0
   ·have z1:decide (cc < 0)=true:=decide_eq_true hc
    have HN2:Hid (f 4=⟨sn,sm,se⟩):=HN.out.trans (HL.out.trans (if_pos hc))
    have hc2:¬ 0≤cc:=by omega
    clear HN HL
    go_wp2_with fail
    obtain ⟨f1,p1⟩:=G1.out.s3 1 rfl (.bool sn) (.slice a4 k4 c4) (.int .i64 se) rfl rfl rfl
    clear x1 b1
    generalize World.setCell (World.setCell (World.setCell _ _ _) _ _) _ _=W at f1 p1 ⊢
    have F1:=h_ f1
    have X2:=h_ (X1.out.kp p1)
    clear f1 p1
    go_roundw
    case rel=>exact ⟨4,_,_,_,_,_,_,rfl,by decide,by decide,F1,X2,HN2⟩
    case measure=>simp [intOf]
   ·have z1:decide (cc < 0)=false:=decide_eq_false hc
    have HN2:Hid (f 4=⟨mn,mm,me⟩):=HN.out.trans (HL.out.trans (if_neg hc))
    have hc2:0≤cc:=by omega
    clear HN HL
    go_wp2_with fail
    go_roundw
    case rel=>exact ⟨4,_,_,_,_,_,_,rfl,by decide,by decide,G1,M1,HN2⟩
    case measure=>simp [intOf]
  ·have HN:=h_ (KE.out.symm.trans hE.out)
   clear hE hk1 hk2 KE K2 K3 K4
   have b0:=hF.out.c3 0 rfl
   have b1:=hF.out.c3 1 rfl
   go_wp2
   obtain ⟨f0,p0⟩:=hF.out.s3 0 rfl (.bool mn) (.slice a k' c) (.int .i64 me) rfl rfl rfl
   have p:=p0
   have f:=f0
   clear f0 p0
   generalize (World.setCell (World.setCell (World.setCell _ _ _) _ _) _ _)=W at f p ⊢
   have g0:=f.c3 0 rfl
   refine bodyPost_ret (v:=.agg #[.bool mn,.slice a k' c,.int .i64 me]) (by simp [results,Tryz.results179,go_sem,g0]) rfl ?_
   rw [HN.out]
   exact ⟨_,rfl,hM.out.kp p,f.b⟩
theorem Max4_r {w:World} {u:Value} {p q r s:Dn} (hu:Q4 w u p q r s):Calls Tryz.prog 180 #[u,.func (.func 17) #[] #[]] w (RetC (max4 p q r s) w):=by
 obtain ⟨g,cap,a1,k1,c1,a2,k2,c2,a3,k3,c3,a4,k4,c4,rfl,h1,h2,h3,h4,y1,y2,y3,y4⟩:=hu
 have H1:=h_ h1
 have H2:=h_ h2
 have H3:=h_ h3
 have H4:=h_ h4
 have Y1:=h_ y1
 have Y2:=h_ y2
 have Y3:=h_ y3
 have Y4:=h_ y4
 have K1:Hid (maxK p q r s 1=p):=rfl
 have K2:Hid (maxK p q r s 2=moreD q (maxK p q r s 1)):=rfl
 have K3:Hid (maxK p q r s 3=moreD r (maxK p q r s 2)):=rfl
 have K4:Hid (maxK p q r s 4=moreD s (maxK p q r s 3)):=rfl
 have KE:Hid (maxK p q r s 4=max4 p q r s):=rfl
 generalize max4 p q r s=R at *
 generalize maxK p q r s=f at *
 clear h1 h2 h3 h4 y1 y2 y3 y4
 obtain ⟨pn,pm,pe⟩:=p
 obtain ⟨qn,qm,qe⟩:=q
 obtain ⟨rn,rm,re⟩:=r
 obtain ⟨sn,sm,se⟩:=s
 obtain ⟨zn,zm,ze⟩:=R
 simp only at H1 H2 H3 H4 Y1 Y2 Y3 Y4
 go_enter Tryz.func180,Tryz.ntmps180
 have F0:=h_ (Fx.one w 42 #[.bool false,.slice none 0 0,.int .i64 0] rfl)
 go_upto_region 3 with (fail)
 generalize World.alloc _ _=w0 at F0 ⊢
 have c0_0:=F0.out.c3 0 rfl
 have x1:=cells_below F0.out.b H1.out
 go_wp2
 clear x1
 clear c0_0
 have F1:=h_ (F0.out.new 42 #[.bool pn,.slice a1 k1 c1,.int .i64 pe] rfl)
 clear F0
 obtain ⟨g5,hg5⟩:∃ g,g=(World.heap w0).size:=⟨_,rfl⟩
 rw [← hg5] at F1 ⊢
 clear hg5
 simp only [List.nil_append,List.cons_append] at F1
 generalize World.alloc w0 _=W1 at F1 ⊢
 have c0_1:=F1.out.c3 0 rfl
 have c1_1:=F1.out.c3 1 rfl
 have M1:=h_ (Cy.below Y1.out F1.out.b)
 go_loopw [6] (fun iv wr=>∃ (k:Nat) (mn:Bool) (mm:Nat) (me:Int) (a:Option Addr) (k' c:Nat),iv=.int .i64 (k:Int)∧1≤k∧k≤4∧Hid (Fx w wr [(w.heap.size,42,#[.bool false,.slice none 0 0,.int .i64 0]),(g5,42,#[.bool mn,.slice a k' c,.int .i64 me])])∧Hid (Cy wr (.agg #[.bool mn,.slice a k' c,.int .i64 me]) ⟨mn,mm,me⟩)∧Hid (f k=⟨mn,mm,me⟩)) (fun i _=>(5 - intOf i).toNat)
 case atStart=>exact ⟨1,_,_,_,_,_,_,rfl,by decide,by decide,F1,M1,K1⟩
 case round =>
  clear c0_1 c1_1
  clear F1 M1 K1
  obtain ⟨k,mn,mm,me,a,k',c,rfl,hk1,hk2,hF,hM,hE⟩:=hrel
  rcases (by omega:k=1 ∨ k=2 ∨ k=3 ∨ k=4) with rfl | rfl | rfl | rfl
  ·have HN:Hid (f 2=moreD ⟨qn,qm,qe⟩ ⟨mn,mm,me⟩):=by have h:=K2.out; rw [hE.out] at h; exact h
   have CC:=h_ (fun w u v (h:Cy w u ⟨qn,qm,qe⟩) (k:Cy w v ⟨mn,mm,me⟩)=>Cmp_d h.ry k.ry)
   have HL:Hid (moreD ⟨qn,qm,qe⟩ ⟨mn,mm,me⟩=if 0 < CmpD ⟨qn,qm,qe⟩ ⟨mn,mm,me⟩ then ⟨qn,qm,qe⟩ else ⟨mn,mm,me⟩):=rfl
   generalize CmpD ⟨qn,qm,qe⟩ ⟨mn,mm,me⟩=cc at *
   clear hE hk1 hk2
   have x1:=cells_below hF.out.b H2.out
   have b1:=hF.out.c3 1 rfl
   go_upto_region 7 with (fail)
   clear x1 b1
   have FC:=h_ (And.intro (cells_below hF.out.b H2.out) (hF.out.c3 1 rfl).1)
   have FX:=h_ (Cy.below Y2.out hF.out.b)
   go_region_held3 (fun w'=>(w'.cell? ⟨g,3,none⟩=some (.bool qn)∧w'.cell? ⟨g,4,none⟩=some (.slice a2 k2 c2)∧w'.cell? ⟨g,5,none⟩=some (.int .i64 qe))∧(w'.cell? ⟨g5,0,none⟩=some (.bool mn)∧w'.cell? ⟨g5,1,none⟩=some (.slice a k' c)∧w'.cell? ⟨g5,2,none⟩=some (.int .i64 me))) (first | exact FC.out) (first | (go_at_call 17; (with_reducible refine (CC.out _ _ _ (FX.out.drew) (hM.out.drew)).mono ?_); rintro qq ww1 ⟨rfl,hb⟩; have G1:=h_ (hF.out.drew.call hb); have M1:=h_ (hM.out.drew.below hb); have X1:=h_ (FX.out.drew.below hb); have FC:=h_ (And.intro (cells_below G1.out.b H2.out) (G1.out.c3 1 rfl).1); clear hb))
   have x1:=cells_below G1.out.b H2.out
   have b1:=G1.out.c3 1 rfl
   by_cases hc:0 < cc
   ·have z1:decide (0 < cc)=true:=decide_eq_true hc
    have HN2:Hid (f 2=⟨qn,qm,qe⟩):=HN.out.trans (HL.out.trans (if_pos hc))
    have hc2:¬ cc≤0:=by omega
    clear HN HL
    go_wp2_with fail
    obtain ⟨f1,p1⟩:=G1.out.s3 1 rfl (.bool qn) (.slice a2 k2 c2) (.int .i64 qe) rfl rfl rfl
    clear x1 b1
    generalize World.setCell (World.setCell (World.setCell _ _ _) _ _) _ _=W at f1 p1 ⊢
    have F1:=h_ f1
    have X2:=h_ (X1.out.kp p1)
    clear f1 p1
    go_roundw
    case rel=>exact ⟨2,_,_,_,_,_,_,rfl,by decide,by decide,F1,X2,HN2⟩
    case measure=>simp [intOf]
   ·have z1:decide (0 < cc)=false:=decide_eq_false hc
    have HN2:Hid (f 2=⟨mn,mm,me⟩):=HN.out.trans (HL.out.trans (if_neg hc))
    have hc2:cc≤0:=by omega
    clear HN HL
    go_wp2_with fail
    go_roundw
    case rel=>exact ⟨2,_,_,_,_,_,_,rfl,by decide,by decide,G1,M1,HN2⟩
    case measure=>simp [intOf]
  ·have HN:Hid (f 3=moreD ⟨rn,rm,re⟩ ⟨mn,mm,me⟩):=by have h:=K3.out; rw [hE.out] at h; exact h
   have CC:=h_ (fun w u v (h:Cy w u ⟨rn,rm,re⟩) (k:Cy w v ⟨mn,mm,me⟩)=>Cmp_d h.ry k.ry)
   have HL:Hid (moreD ⟨rn,rm,re⟩ ⟨mn,mm,me⟩=if 0 < CmpD ⟨rn,rm,re⟩ ⟨mn,mm,me⟩ then ⟨rn,rm,re⟩ else ⟨mn,mm,me⟩):=rfl
   generalize CmpD ⟨rn,rm,re⟩ ⟨mn,mm,me⟩=cc at *
   clear hE hk1 hk2
   have x1:=cells_below hF.out.b H3.out
   have b1:=hF.out.c3 1 rfl
   go_upto_region 7 with (fail)
   clear x1 b1
   have FC:=h_ (And.intro (cells_below hF.out.b H3.out) (hF.out.c3 1 rfl).1)
   have FX:=h_ (Cy.below Y3.out hF.out.b)
   go_region_held3 (fun w'=>(w'.cell? ⟨g,6,none⟩=some (.bool rn)∧w'.cell? ⟨g,7,none⟩=some (.slice a3 k3 c3)∧w'.cell? ⟨g,8,none⟩=some (.int .i64 re))∧(w'.cell? ⟨g5,0,none⟩=some (.bool mn)∧w'.cell? ⟨g5,1,none⟩=some (.slice a k' c)∧w'.cell? ⟨g5,2,none⟩=some (.int .i64 me))) (first | exact FC.out) (first | (go_at_call 17; (with_reducible refine (CC.out _ _ _ (FX.out.drew) (hM.out.drew)).mono ?_); rintro qq ww1 ⟨rfl,hb⟩; have G1:=h_ (hF.out.drew.call hb); have M1:=h_ (hM.out.drew.below hb); have X1:=h_ (FX.out.drew.below hb); have FC:=h_ (And.intro (cells_below G1.out.b H3.out) (G1.out.c3 1 rfl).1); clear hb))
   have x1:=cells_below G1.out.b H3.out
   have b1:=G1.out.c3 1 rfl
   by_cases hc:0 < cc
   ·have z1:decide (0 < cc)=true:=decide_eq_true hc
    have HN2:Hid (f 3=⟨rn,rm,re⟩):=HN.out.trans (HL.out.trans (if_pos hc))
    have hc2:¬ cc≤0:=by omega
    clear HN HL
    go_wp2_with fail
    obtain ⟨f1,p1⟩:=G1.out.s3 1 rfl (.bool rn) (.slice a3 k3 c3) (.int .i64 re) rfl rfl rfl
    clear x1 b1
    generalize World.setCell (World.setCell (World.setCell _ _ _) _ _) _ _=W at f1 p1 ⊢
    have F1:=h_ f1
    have X2:=h_ (X1.out.kp p1)
    clear f1 p1
    go_roundw
    case rel=>exact ⟨3,_,_,_,_,_,_,rfl,by decide,by decide,F1,X2,HN2⟩
    case measure=>simp [intOf]
   ·have z1:decide (0 < cc)=false:=decide_eq_false hc
    have HN2:Hid (f 3=⟨mn,mm,me⟩):=HN.out.trans (HL.out.trans (if_neg hc))
    have hc2:cc≤0:=by omega
    clear HN HL
    go_wp2_with fail
    go_roundw
    case rel=>exact ⟨3,_,_,_,_,_,_,rfl,by decide,by decide,G1,M1,HN2⟩
    case measure=>simp [intOf]
  ·have HN:Hid (f 4=moreD ⟨sn,sm,se⟩ ⟨mn,mm,me⟩):=by have h:=K4.out; rw [hE.out] at h; exact h
   have CC:=h_ (fun w u v (h:Cy w u ⟨sn,sm,se⟩) (k:Cy w v ⟨mn,mm,me⟩)=>Cmp_d h.ry k.ry)
   have HL:Hid (moreD ⟨sn,sm,se⟩ ⟨mn,mm,me⟩=if 0 < CmpD ⟨sn,sm,se⟩ ⟨mn,mm,me⟩ then ⟨sn,sm,se⟩ else ⟨mn,mm,me⟩):=rfl
   generalize CmpD ⟨sn,sm,se⟩ ⟨mn,mm,me⟩=cc at *
   clear hE hk1 hk2
   have x1:=cells_below hF.out.b H4.out
   have b1:=hF.out.c3 1 rfl
   go_upto_region 7 with (fail)
   clear x1 b1
   have FC:=h_ (And.intro (cells_below hF.out.b H4.out) (hF.out.c3 1 rfl).1)
   have FX:=h_ (Cy.below Y4.out hF.out.b)
   go_region_held3 (fun w'=>(w'.cell? ⟨g,9,none⟩=some (.bool sn)∧w'.cell? ⟨g,10,none⟩=some (.slice a4 k4 c4)∧w'.cell? ⟨g,11,none⟩=some (.int .i64 se))∧(w'.cell? ⟨g5,0,none⟩=some (.bool mn)∧w'.cell? ⟨g5,1,none⟩=some (.slice a k' c)∧w'.cell? ⟨g5,2,none⟩=some (.int .i64 me))) (first | exact FC.out) (first | (go_at_call 17; (with_reducible refine (CC.out _ _ _ (FX.out.drew) (hM.out.drew)).mono ?_); rintro qq ww1 ⟨rfl,hb⟩; have G1:=h_ (hF.out.drew.call hb); have M1:=h_ (hM.out.drew.below hb); have X1:=h_ (FX.out.drew.below hb); have FC:=h_ (And.intro (cells_below G1.out.b H4.out) (G1.out.c3 1 rfl).1); clear hb))
   have x1:=cells_below G1.out.b H4.out
   have b1:=G1.out.c3 1 rfl
   by_cases hc:0 < cc
   ·have z1:decide (0 < cc)=true:=decide_eq_true hc
    have HN2:Hid (f 4=⟨sn,sm,se⟩):=HN.out.trans (HL.out.trans (if_pos hc))
    have hc2:¬ cc≤0:=by omega
    clear HN HL
    go_wp2_with fail
    obtain ⟨f1,p1⟩:=G1.out.s3 1 rfl (.bool sn) (.slice a4 k4 c4) (.int .i64 se) rfl rfl rfl
    clear x1 b1
    generalize World.setCell (World.setCell (World.setCell _ _ _) _ _) _ _=W at f1 p1 ⊢
    have F1:=h_ f1
    have X2:=h_ (X1.out.kp p1)
    clear f1 p1
    go_roundw
    case rel=>exact ⟨4,_,_,_,_,_,_,rfl,by decide,by decide,F1,X2,HN2⟩
    case measure=>simp [intOf]
   ·have z1:decide (0 < cc)=false:=decide_eq_false hc
    have HN2:Hid (f 4=⟨mn,mm,me⟩):=HN.out.trans (HL.out.trans (if_neg hc))
    have hc2:cc≤0:=by omega
    clear HN HL
    go_wp2_with fail
    go_roundw
    case rel=>exact ⟨4,_,_,_,_,_,_,rfl,by decide,by decide,G1,M1,HN2⟩
    case measure=>simp [intOf]
  ·have HN:=h_ (KE.out.symm.trans hE.out)
   clear hE hk1 hk2 KE K2 K3 K4
   have b0:=hF.out.c3 0 rfl
   have b1:=hF.out.c3 1 rfl
   go_wp2
   obtain ⟨f0,p0⟩:=hF.out.s3 0 rfl (.bool mn) (.slice a k' c) (.int .i64 me) rfl rfl rfl
   have p:=p0
   have f:=f0
   clear f0 p0
   generalize (World.setCell (World.setCell (World.setCell _ _ _) _ _) _ _)=W at f p ⊢
   have g0:=f.c3 0 rfl
   refine bodyPost_ret (v:=.agg #[.bool mn,.slice a k' c,.int .i64 me]) (by simp [results,Tryz.results180,go_sem,g0]) rfl ?_
   rw [HN.out]
   exact ⟨_,rfl,hM.out.kp p,f.b⟩
end Go.Proofs.YtobpioceopfkpaaGreatDoor
