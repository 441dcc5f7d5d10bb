/-
  Lemmas for WholeCompare (part 15); without conditions.
-/
import Derived.Test.YtobpioceopfkpaaGreatDoorM11
set_option maxRecDepth 100000
set_option maxHeartbeats 4000000
namespace Go.Proofs.YtobpioceopfkpaaGreatDoor
open Go.RowKit
open World (setCell alloc drew)
open List (set_cons_zero set_cons_succ setIfInBounds_toArray cons_append nil_append)
abbrev Lc(w:World)(b o m:Nat):Prop:=w.cell? ⟨b,o,none⟩=some (.int .u64 (m:Int))
theorem Lc.below{w w':World}{b o m:Nat}(h:Lc w b o m)(hb:Below w.heap.size w w'):Lc w' b o m:=Qj hb (Nat.le_refl _) h
theorem Lc.drew{w:World}{b o m:Nat}(h:Lc w b o m):Lc w.drew b o m:=h
def Yk(w:World)(v:Value)(y:Dn):Prop:=∃a k c,v=.agg #[.bool y.neg,.slice a k c,.int .i64 y.e,.int .u64 1]/\Cy w (.agg #[.bool y.neg,.slice a k c,.int .i64 y.e]) y
theorem Yk.below{w w':World}{v:Value}{y:Dn}(h:Yk w v y)(hb:Below w.heap.size w w'):Yk w' v y:=by obtain⟨a,k,c,h1,h2⟩:=h;exact⟨a,k,c,h1,h2.below hb⟩
theorem Yk.fm{w:World}{v:Value}{n:Bool}{m:Nat}{e:Int}(h:Yk w v ⟨n,m,e⟩):∃a k c,v=.agg #[.bool n,.slice a k c,.int .i64 e,.int .u64 1]/\Cy w (.agg #[.bool n,.slice a k c,.int .i64 e]) ⟨n,m,e⟩:=h
theorem Kp.same{w:World}{g i:Nat}{t:TypeId}{cs:Array Value}{x:Value}(h:Qi w g t cs)(hx:cs[i]?=some x):Kp w (w.setCell ⟨g,i,none⟩ x):=by
 intro b o k z hk hc;by_cases he:(⟨b,o,none⟩:Addr)=⟨g,i,none⟩
 .injection he with e1 e2;subst e1 e2;have h1:=h.at o x hx;rw[hc]at h1;have:=Option.some.inj h1;subst this;have h2:=(h.set o (.int k z)).at o (.int k z) (by
   have hl:o<cs.size:=(Array.getElem?_eq_some_iff.1 hx).1;simp[hl])
  exact h2
 .rw[World.cell?_setCell_other _ _ _ _ (fun h=>he h.symm)];exact hc
theorem Kp.setnl{w:World}{g i:Nat}{t:TypeId}{cs:Array Value}{x:Value}(h:Qi w g t cs)(hx:cs[i]?=some x)(hn:Zt x=true)(u:Value):Kp w (w.setCell ⟨g,i,none⟩ u):=Kp.set h hx (Ih hn) u
theorem Kp.s4same{w:World}{g:Nat}{t:TypeId}{x0 x1 x2 x3:Value}(h:Qi w g t #[x0,x1,x2,x3])(h0:Zt x0=true)(h1:Zt x1=true)(h2:Zt x2=true){y:Value}(hy:x3=y){a b c:Value} :
  Kp w ((((w.setCell ⟨g,0,none⟩ a).setCell ⟨g,1,none⟩ b).setCell ⟨g,2,none⟩ c).setCell ⟨g,3,none⟩ y):=by
 subst hy;have k1:=h.set 0 a;have k2:=k1.set 1 b;have k3:=k2.set 2 c;exact(((Kp.setnl (i:=0) h rfl h0 a).trans (Kp.setnl (i:=1) (x:=x1) k1 rfl h1 b)).trans (Kp.setnl (i:=2) (x:=x2) k2 rfl h2 c)).trans (Kp.same (i:=3) k3 rfl)
theorem Cc{w:World}{u:Value}{y:Dn}(hu:Yk w u y)(sd:Sd y)(h0:y.m≠0)(hb:bl (Qa y).m<=60):Calls Tryz.prog 114 #[u] w fun e w'=>∃r,e=.returned r/\Yk w' r (Qa y)/\Below w.heap.size w w':=by
 have CA:=h_ (fun w u (h:Cy w u y)=>Xr h.ry sd);have bd:=sd.bare;have hm0:(Qa y).m≠0:=fun h=>h0 (Jq.1 h);obtain⟨a1,k1,c1,rfl,hx⟩:=hu;have HT:=h_ hx.tab;generalize Qa y=D at *
 obtain⟨n,m,e⟩:=D;simp only at hm0 hb bd;have hs:Qe ⟨n,m,e⟩≠0:=by unfold Qe;rw[if_neg hm0];show(if n=true then(-1:Int)else 1)≠0;cases n<;>decide
 have CS:=h_ (fun w u (h:Cy w u ⟨n,m,e⟩)=>Jn h.ry);generalize Qe ⟨n,m,e⟩=sg at *
 have z1:(sg==0)=false:=beq_eq_false_iff_ne.2 hs;have hm64:m<18446744073709551616:=Nat.lt_of_lt_of_le (Zb m) (Nat.le_trans (Nat.pow_le_pow_right (by decide) (show bl m<=64 by omega)) (by decide));have CD:Qb (∀w,Calls Tryz.prog 148 #[.int .u64 0,.int .u64 (m:Int),.int .u64 1] w fun e w'=>e=.returned (.tuple #[.int .u64 (m:Int),.int .u64 0])/\Below w.heap.size w w'):=by intro w;have h:=Fh 0 m 1 (by decide) (by decide) hm64 w;simpa[Nat.mod_one]using h
 have HX:=h_ hx;have HM:=h_ hm0;have HM64:=h_ hm64;have HB:=h_ hb;have BD:=h_ bd;clear hx sd h0 hb bd hm0 hs hm64;go_enter Tryz.func114,Tryz.ntmps114;have F0:=h_ (Fz.two w 56 #[.bool y.neg,.slice a1 k1 c1,.int .i64 y.e,.int .u64 1] 56 #[.bool false,.slice none 0 0,.int .i64 0,.int .u64 0]);have X0:=h_ ((HX.o.alloc (.cells #[.bool y.neg,.slice a1 k1 c1,.int .i64 y.e,.int .u64 1] 56)).alloc (.cells #[.bool false,.slice none 0 0,.int .i64 0,.int .u64 0] 56));go_upto_region 1 with(fail)
 generalize alloc (alloc _ _) _=w0 at F0 X0 |-;have c0_0:=F0.o.c4 0 rfl;have c1_0:=F0.o.c4 1 rfl;go_wp2_with fail;refine(CA.o _ _ X0.o).mono ?_;rintro q w1 ⟨u,rfl,hu,hb⟩;have F1:=h_ (F0.o.call hb);have X1:=h_ (X0.o.below hb);have U1:=h_ (hu);clear hb;have c0_1:=F1.o.c4 0 rfl;have c1_1:=F1.o.c4 1 rfl;obtain⟨a3,k3,c3,rfl⟩:=U1.o.fm;go_upto_region 2 with(fail)
 have F2:=h_ (F1.o.new 42 #[.bool n,.slice a3 k3 c3,.int .i64 e]);have U2:=h_ (U1.o.alloc (.cells #[.bool n,.slice a3 k3 c3,.int .i64 e] 42));obtain⟨g1,hg1⟩:∃g,g=(World.heap w1).size:=⟨_,rfl⟩
 rw[<-hg1]at F2 |-;clear hg1;simp only[nil_append,cons_append]at F2;generalize alloc w1 _=W2 at F2 U2 |-;have c0_2:=F2.o.c4 0 rfl;have c1_2:=F2.o.c4 1 rfl;have c2_2:=F2.o.c3 2 rfl;go_wp2_with fail;refine(CS.o _ _ U2.o).mono ?_;rintro q w3 ⟨rfl,hb⟩;have F3:=h_ (F2.o.call hb);have U3:=h_ (U2.o.below hb);clear hb;have c0_3:=F3.o.c4 0 rfl;have c1_3:=F3.o.c4 1 rfl;have c2_3:=F3.o.c3 2 rfl;obtain⟨rfl,b3,off3,rfl,x1⟩:=U3.o.dm.one HM.o HM64.o;go_wp2;have L3:Qb (Lc _ b3 off3 m):=x1;clear x1;refine wp_loop_rounds 1 ?_;rw[rounds_succ];go_wp2;refine wp_loop_rounds 2 ?_;rw[rounds_succ];go_upto_region 11 with(fail)
 have FCD:=h_ (And.intro ((F3.o.drew).c3 2 rfl).1 ((L3.o.drew)))
 go_region_held3 (fun w'=>(w'.cell? ⟨g1,0,none⟩=some (.bool n)/\w'.cell? ⟨g1,1,none⟩=some (.slice (some ⟨b3,off3,none⟩) 1 c3)/\w'.cell? ⟨g1,2,none⟩=some (.int .i64 e))/\w'.cell? ⟨b3,off3,none⟩=some (.int .u64 (m:Int))) (first|with_reducible exact FCD.o|with_reducible exact FC.o) (first|(go_at_call 148;(with_reducible refine(CD.o _).mono ?_);rintro q ww4 ⟨rfl,hb⟩;have F4:=h_ ((F3.o.drew).call hb);have U4:=h_ ((U3.o.drew).below hb);have L4:=h_ ((L3.o.drew).below hb);have FC:=h_ (And.intro (F4.o.c3 2 rfl).1 (L4.o));have c0_4:=F4.o.c4 0 rfl;have c1_4:=F4.o.c4 1 rfl;have c2_4:=F4.o.c3 2 rfl;clear hb))
 go_wp2;rw[rounds_succ];go_wp2;refine wp_loop_rounds 1 ?_;rw[rounds_succ];go_wp2_with (refine Jb (w0:=ww4) rfl (.tmp 77) 40 rfl ww4.heap.size 22 (.int .u64 0) 8 Tryz.underlying40 Tryz.info22 rfl (by decide) _ _ 1 rfl rfl (by decide) (Below.refl _ _) (Nat.le_refl _) ?_)
 intro wm ho1 hb1 hB1;have hc0:=(F4.o.call hb1).c3 2 rfl;have hl0:wm.cell? ⟨b3,off3,none⟩=some (.int .u64 (m:Int)):=L4.o.below hb1;obtain⟨gN,hgN⟩:∃g,g=(World.heap ww4).size:=⟨_,rfl⟩
 have HGN:=h_ hgN;rw[<-hgN]at ho1 |-;have HB1:=h_ hb1;have HBS:=h_ hB1;clear hgN hb1 hB1;go_wp2;refine wp_loop_rounds 2 ?_;rw[rounds_succ];go_wp2_with fail;refine(CD.o _).mono ?_;rintro q wq ⟨rfl,hb⟩;clear hc0 hl0;have ho2:=h_ (Up ho1.o hb);have hf0:=ho2.o.frozenAt 0;have hcc:wq.cell? ⟨gN,0,none⟩=some (.int .u64 0):=by rw[ho2.o.cellAt 0 (by decide)];rfl
 have HBX:Qb (Below ww4.heap.size ww4 (wq.setCell ⟨gN,0,none⟩ (.int .u64 (m:Int)))):=((HB1.o.trans (hb.mono HBS.o)).setCell (by rw[HGN.o];exact Nat.le_refl _) _)
 have HOX:=h_ (ho2.o.stored 0 (.int .u64 (m:Int))).1;have hc0:=(F4.o.call (HB1.o.trans (hb.mono HBS.o))).c3 2 rfl;clear hb;go_wp2;rw[rounds_succ];go_upto_region 19 with(fail)
 clear hc0 hf0 hcc;generalize setCell _ _ _=wS at HBX HOX |-;have F5:=h_ (F4.o.call HBX.o);have T5:=h_ (HT.o.below F5.o.b);have S5:=h_ (Vr (Qr.of_own (L:=[m]) HOX.o T5.o (by intro x hx;simp at hx;rw[hx];exact HM64.o)));clear F4 U4 L4 HBX HOX HB1 HBS HGN ho1 ho2;have CBR:=h_ (fun w (h:Rd w (.slice (some ⟨gN,0,none⟩) 1 1) m)=>Kt h);have c0_5:=F5.o.c4 0 rfl;have c1_5:=F5.o.c4 1 rfl;have c2_5:=F5.o.c3 2 rfl;have FCD:=h_ (((F5.o.drew).c3 2 rfl).1)
 go_region_held3 (fun w'=>(w'.cell? ⟨g1,0,none⟩=some (.bool n)/\w'.cell? ⟨g1,1,none⟩=some (.slice (some ⟨b3,off3,none⟩) 1 c3)/\w'.cell? ⟨g1,2,none⟩=some (.int .i64 e))) (first|with_reducible exact FCD.o|with_reducible exact FC.o|exact((F6.o.s4 1 rfl (.bool n) (.slice b5 f5 d5) (.int .i64 e) (.int .u64 1)).c3 2 rfl).1) (first|(go_at_call 70;(with_reducible refine(CBR.o _ (S5.o.drew)).mono ?_);rintro q ww6 ⟨u5,rfl,hu,hb⟩;have F6:=h_ ((F5.o.drew).call hb);have S6:=h_ ((S5.o.drew).below hb);have R6:=h_ (hu);obtain⟨b5,f5,d5,rfl⟩:=R6.o.form;have FC:=h_ ((F6.o.c3 2 rfl).1);have c0_6:=F6.o.c4 0 rfl;have c1_6:=F6.o.c4 1 rfl;have c2_6:=F6.o.c3 2 rfl;clear hb))
 go_wp2;have hw1:IntKind.u64.wrap 1=1:=rfl;rw[hw1];clear hw1;have f:=F6.o.s4 1 rfl (.bool n) (.slice b5 f5 d5) (.int .i64 e) (.int .u64 1);have hcy:=(Cy.mk (n:=n) (e:=e) R6.o (by have:=HB.o;omega) (by have:=BD.o;omega)).setz HT.o f.b (F6.o.box 1 _ _ _ rfl) rfl (fun k _ hk=>(((Below.heap_setCell _ _ _ k hk).trans (Below.heap_setCell _ _ _ k hk)).trans (Below.heap_setCell _ _ _ k hk)).trans (Below.heap_setCell _ _ _ k hk));generalize setCell (setCell (setCell (setCell _ _ _) _ _) _ _) _ _=W at f hcy |-;have g1':=f.c4 1 rfl;refine bodyPost_ret (v:=.agg #[.bool n,.slice b5 f5 d5,.int .i64 e,.int .u64 1]) (by simp[results,Tryz.results114,go_sem,g1']) rfl ?_;exact⟨_,rfl,⟨_,_,_,rfl,hcy⟩,f.b⟩
theorem Yk.alloc{w:World}{v:Value}{y:Dn}(h:Yk w v y)(o:Obj):Yk (w.alloc o) v y:=by obtain⟨a,k,c,h1,h2⟩:=h;exact⟨a,k,c,h1,h2.alloc o⟩
theorem Qkr{w:World}{u:Value}{y:Dn}(hu:Cy w u y)(sd:Sd y)(he:(Qa y).e < -62):Calls Tryz.prog 115 #[u] w fun e w'=>e=.returned (.tuple #[.agg #[.int .i64 0,.int .i64 0],.bool false])/\Below w.heap.size w w':=by
 have CA:=h_ (fun w u (h:Cy w u y)=>Xr h.ry sd);obtain⟨a1,k1,c1,rfl⟩:=hu.form;have HX:=h_ hu;generalize Qa y=D at *
 obtain⟨n,m,e⟩:=D;simp only at he;have z1:decide (e < -62)=true:=decide_eq_true he;clear hu sd he;go_enter Tryz.func115,Tryz.ntmps115;have F0:=h_ (Fx.two w 42 #[.bool y.neg,.slice a1 k1 c1,.int .i64 y.e] 133 #[.int .i64 0,.int .i64 0] rfl rfl);have X0:=h_ ((HX.o.alloc (.cells #[.bool y.neg,.slice a1 k1 c1,.int .i64 y.e] 42)).alloc (.cells #[.int .i64 0,.int .i64 0] 133));go_upto_region 1 with(fail)
 generalize alloc (alloc _ _) _=w0 at F0 X0 |-;have c0_0:=F0.o.c3 0 rfl;have c1_0:=F0.o.c2 1 rfl;go_wp2_with fail;refine(CA.o _ _ X0.o).mono ?_;rintro q w1 ⟨u,rfl,hu,hb⟩;have F1:=h_ (F0.o.call hb);have X1:=h_ (X0.o.below hb);have U1:=h_ (hu);have c0_1:=F1.o.c3 0 rfl;have c1_1:=F1.o.c2 1 rfl;obtain⟨a3,k3,c3,rfl⟩:=U1.o.fm;go_upto_region 2 with(fail)
 obtain⟨f,p⟩:=F1.o.s3 0 rfl (.bool n) (.slice a3 k3 c3) (.int .i64 e) rfl rfl rfl;generalize setCell _ _ _=W at f p |-;have F2:=h_ (f);have U2:=h_ (U1.o.kp p);simp only[set_cons_zero]at F2;have c0_2:=F2.o.c3 0 rfl;have c1_2:=F2.o.c2 1 rfl;go_wp2;obtain⟨f0,p0⟩:=F2.o.s2 1 rfl (.int .i64 0) (.int .i64 0) rfl rfl;have p:=p0;have f:=f0;generalize setCell _ _ _=W at f p |-;have g1:=f.c2 1 rfl;refine bodyPost_ret (v:=.tuple #[.agg #[.int .i64 0,.int .i64 0],.bool false]) (by simp[results,Tryz.results115,go_sem,g1]) rfl ?_;exact⟨rfl,f.b⟩
def Qe1(q:Nat)(w:World)(e:Ending)(w':World):Prop:=∃g c,e=.returned (.slice (some ⟨g,0,none⟩) 1 c)/\w.heap.size<=g/\J2 q w e w'
theorem Qg2{q:Nat}{b off c:Nat}{w:World}(h:Qr w (.slice (some ⟨b,off,none⟩) 1 c) [q])(hq:q≠0):Calls Tryz.prog 109 #[.slice (some ⟨b,off,none⟩) 1 c] w (Qe1 q w):=by
 have q40:∀(w:World) (a:Option Addr) (n c n' c':Nat),(binOp .eql 40 (.slice a n c) (.slice none n' c')).run Tryz.prog w=.ok (.bool a.isNone) w:=fun w a n c n' c'=>Lib.run_eql_slice_nil w _ _ a n c n' c' Tryz.underlying40;obtain⟨t,hL,hd,hcap⟩:=h;obtain⟨a',c',he,hcell⟩:=hL.form;injection he with e1 ex e3;clear ex;subst e1 e3;have hc0:=Wl hcell 1 (Nat.le_refl _) (w':=w.alloc (.cells #[] 22)) (Kk _);have hb0:=(Below.refl w.heap.size w).alloc (Nat.le_refl _) (.cells #[] 22);have ho:=Pq w 22;have hlt:(Qz (List.take 1 [q])).length=1:=rfl;have HT:=h_ t;have HD:=h_ hd;clear hcell hL hd hcap t;go_enter Tryz.func109,Tryz.ntmps109;go_wp2_with (at_builtin;refine Wn rfl (.tmp 5) (.tmp 6) 40 rfl w.heap.size 22 (.int .u64 0) 8 Tryz.underlying40 Tryz.info22 rfl (by decide) _ 0 [] rfl _ 1 _ (Qz (List.take 1 [q])) rfl hlt hc0 (Ya _) ho hb0 hb0.size (by omega) ?_)
 intro v1 w1 ho1 hb1 _;have HG:Qb (Qr w1 v1 [q]):=by have h1:=ho1.o;exact Qr.of_own (by simpa using h1) (HT.o.below hb1) HD.o
 have HO:=h_ ho1.o;clear ho1 ho;go_wp2;go_ret;have HX:=HO.o;rcases HX.2 with⟨_,h0⟩|⟨g,cap,cur,rfl,hg,_⟩
 .cases h0
 .exact⟨g,cap,rfl,hg,_,rfl,⟨[q],HG.o,⟨HD.o,by simp[Qc],fun _=>by show 18446744073709551616^0<=q;rw[Nat.pow_zero];omega⟩⟩,hb1⟩
theorem Qi6{q:Nat}{b off c:Nat}{w:World}(h:Qr w (.slice (some ⟨b,off,none⟩) 1 c) [q])(hq:q≠0):Calls Tryz.prog 70 #[.slice (some ⟨b,off,none⟩) 1 c] w (Qe1 q w):=by
 have HR:=h_ h;obtain⟨a',c',he,hcell⟩:=h.sl.form;injection he with e1 ex e3;clear ex;subst e1 e3;have hcc:=h.cap.le;obtain⟨b',off',he,hc⟩:=hcell Nat.one_pos;injection he with he;injection he with e4 e5;subst e4 e5;have hc3:w.cell? ⟨b,off,none⟩=some (.int .u64 (q:Int)):=hc 0 q rfl;have e2:((q:Int)==0)=false:=by rw[beq_eq_false_iff_ne];omega
 have hc1:1<=c:=hcc;have CL:=h_ (fun w (h:Qr w (.slice (some ⟨b,off,none⟩) 1 c) [q])=>Qg2 h hq);clear h hcell hcc hc hq;go_enter Tryz.func70,Tryz.ntmps70;go_wp2;refine wp_loop_rounds 2 ?_;rw[rounds_succ];go_wp2_with fail;refine(CL.o _ HR.o).mono ?_;rintro e w1 ⟨g,c',rfl,hg,hd⟩;have HG:=h_ hg;have HU:=h_ hd;clear hg hd;go_wp2;go_ret;exact⟨_,_,rfl,HG.o,HU.o⟩
def Yn(w:World)(v:Value)(y:Dn)(N:Nat):Prop:=∃a k c,v=.agg #[.bool y.neg,.slice a k c,.int .i64 y.e,.int .u64 (N:Int)]/\Cy w (.agg #[.bool y.neg,.slice a k c,.int .i64 y.e]) y
theorem Yn.below{w w':World}{v:Value}{y:Dn}{N:Nat}(h:Yn w v y N)(hb:Below w.heap.size w w'):Yn w' v y N:=by obtain⟨a,k,c,h1,h2⟩:=h;exact⟨a,k,c,h1,h2.below hb⟩
theorem Yn.alloc{w:World}{v:Value}{y:Dn}{N:Nat}(h:Yn w v y N)(o:Obj):Yn (w.alloc o) v y N:=by obtain⟨a,k,c,h1,h2⟩:=h;exact⟨a,k,c,h1,h2.alloc o⟩
def Ym(B:Nat)(w:World)(v:Value)(y:Dn)(N:Nat):Prop:=∃b c,v=.agg #[.bool y.neg,.slice (some ⟨b,0,none⟩) 1 c,.int .i64 y.e,.int .u64 (N:Int)]/\B<=b/\Cy w (.agg #[.bool y.neg,.slice (some ⟨b,0,none⟩) 1 c,.int .i64 y.e]) y
theorem Fz.s3_2{w0 w:World}{bs:List (Nat×TypeId×Array Value)}(h:Fz w0 w bs)(i:Nat){g:Nat}{t:TypeId}{x0 x1 x2:Value}(hi:bs[i]?=some (g,t,#[x0,x1,x2]))(y:Value) :
  Fz w0 (w.setCell ⟨g,2,none⟩ y) (bs.set i (g,t,#[x0,x1,y])):=h.set i 2 hi y
structure Rs(n:Bool)(m E N:Nat)(y:Dn)(N':Nat):Prop where
 ng:y.neg=n
 e0:0<=y.e
 eE:y.e<=(E:Int)
 N0:0<N'
 NN:N'<=N
 m0:y.m≠0
 mm:y.m<=m
 od:m%2=1->y.m%2=1
 eq:m*2^E*N'=y.m*2^y.e.toNat*N
theorem Qin{n:Bool}{m E N nn ee g:Nat}(hm:m≠0)(h0:0<nn)(hN:nn<=N)(hE:ee<=E)(he:nn*2^(E-ee)=N)(hg:g=Nat.gcd nn m):Rs n m E N ⟨n,m/g,(ee:Int)⟩ (nn/g):=by
 have g0:0<g:=by rw[hg];exact Nat.gcd_pos_of_pos_left _ h0
 obtain⟨a,ha⟩:g∣nn:=hg▸Nat.gcd_dvd_left _ _;obtain⟨b,hb⟩:g∣m:=hg▸Nat.gcd_dvd_right _ _;have e1:nn/g=a:=by rw[ha,Nat.mul_div_cancel_left _ g0]
 have e2:m/g=b:=by rw[hb,Nat.mul_div_cancel_left _ g0]
 have a0:a≠0:=by rintro rfl;omega
 have b0:b≠0:=by rintro rfl;exact hm (by rw[hb];rfl)
 rw[e1,e2];refine⟨rfl,by show 0<=(ee:Int);omega,by show(ee:Int)<=E;omega,by omega,?_,b0,?_,?_,?_⟩
 .exact Nat.le_trans (by rw[ha];exact Nat.le_mul_of_pos_left _ g0) hN
 .show b<=m;rw[hb];exact Nat.le_mul_of_pos_left _ g0
 .intro h;show b%2=1;rw[hb,Nat.mul_mod]at h;rcases(by omega:b%2=0\/b%2=1)with h1|h1
  .rw[h1]at h;simp at h
  .exact h1
 .show m*2^E*a=b*2^(ee:Int).toNat*N;rw[Int.toNat_natCast,<-he,hb,ha];have hp:2^E=2^ee*2^(E-ee):=by rw[<-Nat.pow_add];congr 1;omega
  rw[hp];generalize 2^ee=p;generalize 2^(E-ee)=q;grind
theorem Qf6{w:World}{u:Value}{y:Dn}{N E:Nat}(hu:Yn w u y N)(sd:Sd y)(h0:y.m≠0)(hb:bl (Qa y).m<=60)(hE:(Qa y).e=(E:Int))(hN:0<N/\N<9223372036854775808):Calls Tryz.prog 114 #[u] w fun e w'=>∃r y' N',e=.returned r/\Ym w.heap.size w' r y' N'/\Rs (Qa y).neg (Qa y).m E N y' N'/\Below w.heap.size w w':=by
 have CA:=h_ (fun w u (h:Cy w u y)=>Xr h.ry sd);have bd:=sd.bare;have hm0:(Qa y).m≠0:=fun h=>h0 (Jq.1 h);obtain⟨a1,k1,c1,rfl,hx⟩:=hu;have HT:=h_ hx.tab;generalize Qa y=D at *
 obtain⟨n,m,e⟩:=D;simp only at hm0 hb bd hE;subst hE;have hs:Qe ⟨n,m,(E:Int)⟩≠0:=by unfold Qe;rw[if_neg hm0];show(if n=true then(-1:Int)else 1)≠0;cases n<;>decide
 have CS:=h_ (fun w u (h:Cy w u ⟨n,m,(E:Int)⟩)=>Jn h.ry);generalize Qe ⟨n,m,(E:Int)⟩=sg at *
 have z1:(sg==0)=false:=beq_eq_false_iff_ne.2 hs;have z2:((N:Int)==0)=false:=by rw[beq_eq_false_iff_ne];omega
 have z3:(N==0)=false:=by rw[beq_eq_false_iff_ne];omega
 have hm64:m<18446744073709551616:=Nat.lt_of_lt_of_le (Zb m) (Nat.le_trans (Nat.pow_le_pow_right (by decide) (show bl m<=64 by omega)) (by decide));have CD:Qb (∀w (k:Nat),0<k->k<18446744073709551616->Calls Tryz.prog 148 #[.int .u64 0,.int .u64 (m:Int),.int .u64 (k:Int)] w fun e w'=>e=.returned (.tuple #[.int .u64 ((m/k:Nat):Int),.int .u64 ((m%k:Nat):Int)])/\Below w.heap.size w w'):=by intro w k hk hk2;have h:=Fh 0 m k hk hk2 hm64 w;simpa using h
 have HX:=h_ hx;have HM:=h_ hm0;have HM64:=h_ hm64;have HB:=h_ hb;have BD:=h_ bd;have HN:=h_ hN;clear hx sd h0 hb bd hm0 hs hm64 hN;go_enter Tryz.func114,Tryz.ntmps114;have F0:=h_ (Fz.two w 56 #[.bool y.neg,.slice a1 k1 c1,.int .i64 y.e,.int .u64 (N:Int)] 56 #[.bool false,.slice none 0 0,.int .i64 0,.int .u64 0]);have X0:=h_ ((HX.o.alloc (.cells #[.bool y.neg,.slice a1 k1 c1,.int .i64 y.e,.int .u64 (N:Int)] 56)).alloc (.cells #[.bool false,.slice none 0 0,.int .i64 0,.int .u64 0] 56));go_upto_region 1 with(fail)
 generalize alloc (alloc _ _) _=w0 at F0 X0 |-;have c0_0:=F0.o.c4 0 rfl;have c1_0:=F0.o.c4 1 rfl;go_wp2_with fail;refine(CA.o _ _ X0.o).mono ?_;rintro q w1 ⟨u,rfl,hu,hb⟩;have F1:=h_ (F0.o.call hb);have X1:=h_ (X0.o.below hb);have U1:=h_ (hu);clear hb;have c0_1:=F1.o.c4 0 rfl;have c1_1:=F1.o.c4 1 rfl;obtain⟨a3,k3,c3,rfl⟩:=U1.o.fm;go_upto_region 2 with(fail)
 have F2:=h_ (F1.o.new 42 #[.bool n,.slice a3 k3 c3,.int .i64 (E:Int)]);have U2:=h_ (U1.o.alloc (.cells #[.bool n,.slice a3 k3 c3,.int .i64 (E:Int)] 42));obtain⟨g1,hg1⟩:∃g,g=(World.heap w1).size:=⟨_,rfl⟩
 rw[<-hg1]at F2 |-;clear hg1;simp only[nil_append,cons_append]at F2;generalize alloc w1 _=W2 at F2 U2 |-;have c0_2:=F2.o.c4 0 rfl;have c1_2:=F2.o.c4 1 rfl;have c2_2:=F2.o.c3 2 rfl;go_wp2_with fail;refine(CS.o _ _ U2.o).mono ?_;rintro q w3 ⟨rfl,hb⟩;have F3:=h_ (F2.o.call hb);have U3:=h_ (U2.o.below hb);clear hb;have c0_3:=F3.o.c4 0 rfl;have c1_3:=F3.o.c4 1 rfl;have c2_3:=F3.o.c3 2 rfl;obtain⟨rfl,b3,off3,rfl,x1⟩:=U3.o.dm.one HM.o HM64.o;go_wp2;have L3:Qb (Lc _ b3 off3 m):=x1;clear x1
 go_loopw [5] (fun t wr=>∃(nn ee:Nat),t=.int .u64 (nn:Int)/\Qb (0<nn/\nn<=N/\ee<=E/\nn*2^(E-ee)=N)/\Qb (Fz w wr [(w.heap.size,56,#[.bool y.neg,.slice a1 k1 c1,.int .i64 y.e,.int .u64 (N:Int)]),(w.heap.size+1,56,#[.bool false,.slice none 0 0,.int .i64 0,.int .u64 0]),(g1,42,#[.bool n,.slice (some ⟨b3,off3,none⟩) 1 c3,.int .i64 (ee:Int)])])/\Qb (Lc wr b3 off3 m)) (fun t _=>(intOf t).toNat)
 case atStart=>exact⟨N,E,rfl,⟨HN.o.1,Nat.le_refl _,Nat.le_refl _,by rw[Nat.sub_self,Nat.pow_zero,Nat.mul_one]⟩,F3,L3⟩
 case round =>
  obtain⟨nn,ee,rfl,hI,hF,hL⟩:=hrel;obtain⟨t,ht⟩:∃t,t=decide (nn%2=0):=⟨_,rfl⟩
  have t1:((nn:Int)%2==0)=t:=by rw[ht];by_cases h:nn%2=0<;>simp[h]<;>omega
  obtain⟨g,hg⟩:∃t,t=decide (0<ee):=⟨_,rfl⟩
  have t2:decide ((0:Int)<(ee:Int))=g:=by rw[hg];by_cases h:0<ee<;>simp[h]<;>omega
  have t3:decide (0<ee)=g:=hg.symm;have HTG:Qb ((t&&g)=true->nn%2=0/\0<ee):=by rw[ht,hg];simp[Qb]
  obtain⟨tg,htg⟩:∃b,b=(t&&g):=⟨_,rfl⟩
  rw[<-htg]at HTG;have HTT:=h_ htg;clear ht hg htg;have c2:=hF.o.c3 2 rfl;go_upto_region 5 with(fail)
  go_cut [40] (fun b wq=>b=.bool tg/\wq=wr)
  case first=>have htg:=HTT.o;cases t<;>cases g<;>(subst htg;go_wp2;go_meet;exact⟨rfl,rfl⟩)
  case rest =>
   obtain⟨rfl,rfl⟩:=hcut;clear HTT t1 t2 t3;cases tg
   case true =>
    obtain⟨h1,h2⟩:=HTG.o rfl;obtain⟨i0,i1,i2,i3⟩:=hI.o;obtain⟨j,rfl⟩:∃j,nn=2*j:=⟨nn/2,by omega⟩
    obtain⟨fe,rfl⟩:∃f,ee=f+1:=⟨ee-1,by omega⟩
    have HI:Qb (0<j/\j<=N/\fe<=E/\j*2^(E-fe)=N):=⟨by omega,by omega,by omega,by rw[show E-fe=E-(fe+1)+1 by omega,Nat.pow_succ,<-i3];generalize 2^(E-(fe+1))=q;grind⟩
    have q1:((2*j:Nat):Int)/2=(j:Int):=by omega
    have q2:IntKind.i64.wrap (((fe+1:Nat):Int)-1)=(fe:Int):=by have:=BD.o;rw[IntWalk.i64_in _ (by omega)];omega
    have q3:((2*j:Nat):Int).tdiv 2=(j:Int):=by rw[Int.tdiv_eq_ediv_of_nonneg (by omega)];exact q1
    have q4:IntKind.u64.wrap (j:Int)=(j:Int):=by have:=HN.o;rw[IntKind.wrap_u64];omega
    have q5:wrap64 (fe:Int)=(fe:Int):=by have:=BD.o;exact IntWalk.wrap64_in _ (by omega)
    clear h1 h2 i0 i1 i2 i3;go_upto_region 6 with(fail)
    have d2:=hF.o.drew.c3 2 rfl;go_region
    all_goals
     clear c2 d2
     try go_wp2
     have f:=(hF.o.s3_2 2 rfl (.int .i64 (fe:Int))).drew;have l:=Lc.drew (Kp.setnl (i:=2) (hF.o.box 2 _ _ _ rfl) rfl rfl (.int .i64 (fe:Int)) b3 off3 .u64 (m:Int) (.inr rfl) hL.o);simp only[set_cons_zero,set_cons_succ]at f;generalize drew (setCell _ _ _)=W at f l |-;go_roundw
     case rel=>exact⟨j,fe,rfl,HI,f,l⟩
     case measure=>have:=HI.o.1;simp only[intOf];omega
   case false =>
    obtain⟨i0,i1,i2,i3⟩:=hI.o;obtain⟨G,hG⟩:∃G,G=Nat.gcd nn m:=⟨_,rfl⟩
    have G0:0<G:=by rw[hG];exact Nat.gcd_pos_of_pos_left _ i0
    have Gm:m%G=0:=by rw[hG];exact Nat.mod_eq_zero_of_dvd (Nat.gcd_dvd_right _ _)
    have Gn:G<=nn:=by rw[hG];exact Nat.gcd_le_left _ i0
    have HLO:=h_ (Qin (n:=n) HM.o i0 i1 i2 i3 hG);have n63:nn<9223372036854775808:=by have:=HN.o;omega
    have CD1:=h_ (fun w=>CD.o w nn i0 (by omega));have CD2:=h_ (fun w=>CD.o w G G0 (by omega));rw[Gm]at CD2;obtain⟨r,hr⟩:∃r,r=m%nn:=⟨_,rfl⟩
    rw[<-hr]at CD1;have rn:r<nn:=hr▸Nat.mod_lt _ i0;have HGG:Qb (r<9223372036854775808/\nn<9223372036854775808/\Nat.gcd nn r=G):=⟨by omega,n63,by rw[hG,hr,Nat.gcd_rec nn m];exact Nat.gcd_comm _ _⟩
    have n1:((nn:Int)==0)=false:=by rw[beq_eq_false_iff_ne];omega
    have n2:¬(nn:Int)=0:=by omega
    have n3:¬nn=0:=by omega
    have n4:(nn==0)=false:=by rw[beq_eq_false_iff_ne];omega
    generalize m/nn=mq at *
    have HG0:=h_ (And.intro G0 Gn);have HI0:=h_ i0;clear HTG i0 i1 i2 i3 hG G0 Gm Gn hr rn hI n63;go_wp2;refine wp_loop_rounds 2 ?_;rw[rounds_succ];clear c2;have F7:=h_ hF.o;have L7:=h_ hL.o;clear hF hL;have c0_7:=F7.o.c4 0 rfl;have c1_7:=F7.o.c4 1 rfl;have c2_7:=F7.o.c3 2 rfl;go_upto_region 11 with(fail)
    have FCD:=h_ (And.intro ((F7.o.drew).c3 2 rfl).1 ((L7.o.drew)))
    go_region_held3 (fun w'=>(w'.cell? ⟨g1,0,none⟩=some (.bool n)/\w'.cell? ⟨g1,1,none⟩=some (.slice (some ⟨b3,off3,none⟩) 1 c3)/\w'.cell? ⟨g1,2,none⟩=some (.int .i64 (ee:Int)))/\w'.cell? ⟨b3,off3,none⟩=some (.int .u64 (m:Int))) (first|with_reducible exact FCD.o|with_reducible exact FC.o) (first|(go_at_call 148;(with_reducible refine(CD1.o _).mono ?_);rintro q ww8 ⟨rfl,hb⟩;have F8:=h_ ((F7.o.drew).call hb);have L8:=h_ ((L7.o.drew).below hb);have FC:=h_ (And.intro (F8.o.c3 2 rfl).1 (L8.o));have c0_8:=F8.o.c4 0 rfl;have c1_8:=F8.o.c4 1 rfl;have c2_8:=F8.o.c3 2 rfl;clear hb))
    go_wp2;rw[rounds_succ];go_wp2;clear n1 n2 n3 n4
    go_loopw [6,7] (fun ta tb wr=>∃(x yq:Nat),ta=.int .u64 (x:Int)/\tb=.int .u64 (yq:Int)/\Qb (yq<9223372036854775808/\x<9223372036854775808/\Nat.gcd x yq=G)/\Qb (Fz w wr [(w.heap.size,56,#[.bool y.neg,.slice a1 k1 c1,.int .i64 y.e,.int .u64 (N:Int)]),(w.heap.size+1,56,#[.bool false,.slice none 0 0,.int .i64 0,.int .u64 0]),(g1,42,#[.bool n,.slice (some ⟨b3,off3,none⟩) 1 c3,.int .i64 (ee:Int)])])/\Qb (Lc wr b3 off3 m)) (fun _ tb _=>(intOf tb).toNat)
    case atStart=>exact⟨nn,r,rfl,rfl,HGG,F8,L8⟩
    case round =>
     clear F8 L8 HGG;obtain⟨x,yy,rfl,rfl,hI,hF,hL⟩:=hrel;by_cases hy:yy=0
     case neg =>
      have t1:decide (0<(yy:Int))=true:=decide_eq_true (by omega);have t2:decide (0<yy)=true:=decide_eq_true (by omega);have t3:¬(yy:Int)=0:=by omega
      have t4:((yy:Int)==0)=false:=by rw[beq_eq_false_iff_ne];exact t3
      obtain⟨z,hz⟩:∃z,z=x%yy:=⟨_,rfl⟩
      have hzy:z<yy:=hz▸Nat.mod_lt _ (by omega);have t5:(x:Int).tmod (yy:Int)=(z:Int):=by rw[hz];rfl
      have t6:IntKind.u64.wrap (z:Int)=(z:Int):=by have:=hI.o.1;rw[IntKind.wrap_u64];omega
      have HI:Qb (z<9223372036854775808/\yy<9223372036854775808/\Nat.gcd yy z=G):=⟨by have:=hI.o.1;omega,hI.o.1,by rw[<-hI.o.2.2,hz,Nat.gcd_comm x yy,Nat.gcd_rec yy x];exact Nat.gcd_comm _ _⟩
      clear hI hy hz;go_wp2_with fail;go_quiet (fail);go_wp2;go_roundw
      case rel=>exact⟨yy,z,rfl,rfl,HI,hF.o.drewN _,hL⟩
      case measure=>simp only[intOf];omega
     case pos =>
      have hx:x=G:=by have:=hI.o.2.2;rw[hy,Nat.gcd_zero_right]at this;exact this
      have t1:decide (0<(yy:Int))=false:=decide_eq_false (by omega);have t2:decide (0<yy)=false:=decide_eq_false (by omega);clear hI;rw[hx];clear hy hx;have F9:=h_ hF.o;have L9:=h_ hL.o;clear hF hL;have c0_9:=F9.o.c4 0 rfl;have c1_9:=F9.o.c4 1 rfl;have c2_9:=F9.o.c3 2 rfl;obtain⟨q,hq⟩:∃q,q=m/G:=⟨_,rfl⟩
      rw[<-hq]at CD2 HLO;have q64:Qb (q<18446744073709551616):=by rw[hq];exact Nat.lt_of_le_of_lt (Nat.div_le_self _ _) HM64.o
      have q60:Qb (bl q<=60):=by rw[hq];exact Nat.le_trans (Zc (Nat.div_le_self _ _)) HB.o
      clear hq;go_wp2_with (refine Jb (w0:=wr) rfl (.tmp 77) 40 rfl wr.heap.size 22 (.int .u64 0) 8 Tryz.underlying40 Tryz.info22 rfl (by decide) _ _ 1 rfl rfl (by decide) (Below.refl _ _) (Nat.le_refl _) ?_)
      intro wm ho1 hb1 hB1;have hc0:=(F9.o.call hb1).c3 2 rfl;have hl0:wm.cell? ⟨b3,off3,none⟩=some (.int .u64 (m:Int)):=L9.o.below hb1;obtain⟨gN,hgN⟩:∃g,g=(World.heap wr).size:=⟨_,rfl⟩
      have HGN:=h_ hgN;rw[<-hgN]at ho1 |-;have HB1:=h_ hb1;have HBS:=h_ hB1;clear hgN hb1 hB1;go_wp2;refine wp_loop_rounds 2 ?_;rw[rounds_succ];go_wp2_with fail;refine(CD2.o _).mono ?_;rintro q' wq ⟨rfl,hb⟩;clear hc0 hl0;have ho2:=h_ (Up ho1.o hb);have hf0:=ho2.o.frozenAt 0;have hcc:wq.cell? ⟨gN,0,none⟩=some (.int .u64 0):=by rw[ho2.o.cellAt 0 (by decide)];rfl
      have HBX:Qb (Below wr.heap.size wr (wq.setCell ⟨gN,0,none⟩ (.int .u64 (q:Int)))):=((HB1.o.trans (hb.mono HBS.o)).setCell (by rw[HGN.o];exact Nat.le_refl _) _)
      have HOX:=h_ (ho2.o.stored 0 (.int .u64 (q:Int))).1;have hc0:=(F9.o.call (HB1.o.trans (hb.mono HBS.o))).c3 2 rfl;clear hb;go_wp2;rw[rounds_succ];go_upto_region 19 with(fail)
      clear hc0 hf0 hcc;generalize setCell _ _ _=wS at HBX HOX |-;have F10:=h_ (F9.o.call HBX.o);have T10:=h_ (HT.o.below F10.o.b);have S10:=h_ (Qr.of_own (L:=[q]) HOX.o T10.o (by intro x hx;simp at hx;rw[hx];exact q64.o));clear F9 L9 HBX HOX HB1 HBS HGN ho1 ho2;have CBR:=h_ (fun w (h:Qr w (.slice (some ⟨gN,0,none⟩) 1 1) [q])=>Qi6 h HLO.o.m0);obtain⟨M',hM'⟩:∃q,q=nn/G:=⟨_,rfl⟩
      have r1:(nn:Int)/(G:Int)=(M':Int):=by rw[hM'];exact(Int.natCast_ediv _ _).symm
      have r2:(nn:Int).tdiv (G:Int)=(M':Int):=by rw[hM'];exact(Int.ofNat_tdiv _ _).symm
      have r3:IntKind.u64.wrap (M':Int)=(M':Int):=by have h1:M'<=nn:=hM'▸Nat.div_le_self _ _;have:=HLO.o.NN;have:=HN.o;have:=HG0.o.2;rw[<-hM']at *;rw[IntKind.wrap_u64];omega
      have r4:((G:Int)==0)=false:=by have:=HG0.o.1;rw[beq_eq_false_iff_ne];omega
      have r5:¬(G:Int)=0:=by have:=HG0.o.1;omega
      have r6:¬G=0:=by have:=HG0.o.1;omega
      have r7:(G==0)=false:=by rw[beq_eq_false_iff_ne];exact r6
      rw[<-hM']at HLO;clear hM';have c0_10:=F10.o.c4 0 rfl;have c1_10:=F10.o.c4 1 rfl;have c2_10:=F10.o.c3 2 rfl;have FCD:=h_ (((F10.o.drew).c3 2 rfl).1)
      go_region_held3 (fun w'=>(w'.cell? ⟨g1,0,none⟩=some (.bool n)/\w'.cell? ⟨g1,1,none⟩=some (.slice (some ⟨b3,off3,none⟩) 1 c3)/\w'.cell? ⟨g1,2,none⟩=some (.int .i64 (ee:Int)))) (first|with_reducible exact FCD.o|with_reducible exact FC.o|exact((F11.o.s4 1 rfl (.bool n) (.slice (some ⟨b5,0,none⟩) 1 d5) (.int .i64 (ee:Int)) ((.int .u64 (M':Int)))).c3 2 rfl).1) (first|(go_at_call 70;(with_reducible refine(CBR.o _ (S10.o.drew)).mono ?_);rintro q ww11 ⟨b5,d5,rfl,hg5,u5,he5,hu,hb⟩;have F11:=h_ ((F10.o.drew).call hb);have S11:=h_ ((S10.o.drew).below hb);cases he5;have R11:=h_ (hu);have HG5:Qb (w.heap.size<=b5):=Nat.le_trans F10.o.drew.b.size hg5;have FC:=h_ ((F11.o.c3 2 rfl).1);have c0_11:=F11.o.c4 0 rfl;have c1_11:=F11.o.c4 1 rfl;have c2_11:=F11.o.c3 2 rfl;clear hb))
      go_wp2;have f:=F11.o.s4 1 rfl (.bool n) (.slice (some ⟨b5,0,none⟩) 1 d5) (.int .i64 (ee:Int)) (.int .u64 (M':Int));have hcy:=(Cy.mk (n:=n) (e:=(ee:Int)) R11.o (by have:=q60.o;omega) (by have:=BD.o;have:=HLO.o.eE;simp only at this;omega)).setz HT.o f.b (F11.o.box 1 _ _ _ rfl) rfl (fun k _ hk=>(((Below.heap_setCell _ _ _ k hk).trans (Below.heap_setCell _ _ _ k hk)).trans (Below.heap_setCell _ _ _ k hk)).trans (Below.heap_setCell _ _ _ k hk));generalize setCell (setCell (setCell (setCell _ _ _) _ _) _ _) _ _=W at f hcy |-;have g1':=f.c4 1 rfl;refine bodyPost_ret (v:=.agg #[.bool n,.slice (some ⟨b5,0,none⟩) 1 d5,.int .i64 (ee:Int),.int .u64 (M':Int)]) (by simp[results,Tryz.results114,go_sem,g1']) rfl ?_;exact⟨_,⟨n,q,(ee:Int)⟩,M',rfl,⟨_,_,rfl,HG5.o,hcy⟩,HLO.o,f.b⟩
def mz(K:Int)(d:Dn):Nat:=d.m*2^(d.e+K).toNat
def zv(K:Int)(d:Dn):Int:=if d.neg then -(mz K d:Int)else(mz K d:Int)
theorem G5{e:Int}(h:-2147483648<=e/\e<=2147483648):Ju e=e:=by unfold Ju;omega
theorem Vu{K:Int}{d:Dn}(_:0<=K)(h:-K<=d.e)(he:-2147483648<=d.e/\d.e<=2147483648):mz K (Qa d)=mz K d:=by
 by_cases h0:d.m=0
 .rw[Zg h0];simp[mz,h0]
 .rw[Zy h0];obtain⟨m,hm⟩:=Pl h0;unfold mz;simp only;rw[G5 he];generalize hl:lo d.m=l at *
  have e1:(d.e+(l:Int)+K).toNat=l+(d.e+K).toNat:=by omega
  rw[e1,Nat.pow_add,<-Nat.mul_assoc,hm,Nat.mul_div_cancel_left _ (Nat.two_pow_pos _),Nat.mul_comm (2*m+1)]
theorem Kx{K:Int}{d:Dn}(hK:0<=K)(h:-K<=d.e)(he:-2147483648<=d.e/\d.e<=2147483648):zv K (Qa d)=zv K d:=by
 unfold zv;rw[Vu hK h he];by_cases h0:d.m=0
 .have:mz K d=0:=by simp[mz,h0]
  rw[this];simp
 .rw[Zy h0]
theorem Ut{K:Int}{d:Dn}(hK:0<=K)(h:-K<=d.e)(he:-2147483648<=d.e/\d.e<=2147483648):-K<=(Qa d).e:=by
 by_cases h0:d.m=0
 .rw[Zg h0];simp;omega
 .rw[Zy h0];simp only;rw[G5 he];omega
theorem Vd{m:Nat}(h:m≠0)(k:Nat):bl (m*2^k)=bl m+k:=by have h1:2^k<=m*2^k:=Nat.le_mul_of_pos_left _ (by omega);rw[Ma k _ h1,Nat.mul_div_cancel _ (Nat.two_pow_pos _)];omega
theorem Cr{m n:Nat}(h:bl m<bl n):m<n:=by apply Nat.lt_of_not_le;intro hl;have:=Zc hl;omega
theorem Ny{m n:Nat}(h:m<n):Qm m n=-1:=by unfold Qm;rw[if_pos h]
theorem Nz{m n:Nat}(h:n<m):Qm m n=1:=by unfold Qm;rw[if_neg (by omega),if_pos h]
theorem Cm{m:Nat}:Qm m m=0:=by unfold Qm;rw[if_neg (by omega),if_neg (by omega)]
theorem Nx{m n:Nat}(k:Nat):Qm (m*2^k) (n*2^k)=Qm m n:=by
 rcases Nat.lt_trichotomy m n with h|h|h
 .rw[Ny h,Ny (Nat.mul_lt_mul_of_pos_right h (Nat.two_pow_pos _))]
 .subst h;rw[Cm,Cm]
 .rw[Nz h,Nz (Nat.mul_lt_mul_of_pos_right h (Nat.two_pow_pos _))]
theorem Qcr{K:Int}{A B:Dn}(hA:A.m≠0)(hB:B.m≠0)(ha:-K<=A.e)(hb:-K<=B.e):Tm A B=Qm (mz K A) (mz K B):=by
 unfold Tm mz;by_cases h:(bl A.m:Int)+A.e=(bl B.m:Int)+B.e
 .rw[if_pos h];unfold Xn;rcases Int.lt_trichotomy ((bl A.m:Int)-bl B.m) 0 with hn|hn|hn
  .rw[if_neg (by omega),if_pos (by omega)];have e1:(A.e+K).toNat=(-((bl A.m:Int)-bl B.m)).toNat+(B.e+K).toNat:=by omega
   rw[e1,Nat.pow_add,<-Nat.mul_assoc,Nx]
  .rw[if_pos (by omega),if_pos (by omega)];have e1:A.e=B.e:=by omega
   rw[e1,Nx]
  .rw[if_pos (by omega),if_neg (by omega)];have e1:(B.e+K).toNat=((bl A.m:Int)-bl B.m).toNat+(A.e+K).toNat:=by omega
   rw[e1,Nat.pow_add,<-Nat.mul_assoc,Nx]
 .rw[if_neg h];unfold Xb;have b1:=Vd hA (A.e+K).toNat
  have b2:=Vd hB (B.e+K).toNat
  by_cases h1:(bl A.m:Int)+A.e<(bl B.m:Int)+B.e
  .rw[if_pos h1,Ny (Cr (by omega))]
  .rw[if_neg h1,if_pos (by omega),Nz (Cr (by omega))]
theorem G3{K:Int}{d:Dn}:mz K d=0↔d.m=0:=by
 unfold mz;rw[Nat.mul_eq_zero];have:=Nat.two_pow_pos (d.e+K).toNat
 omega
theorem Cn{x y:Int}(h:x<y):Xb x y=-1:=by unfold Xb;rw[if_pos h]
theorem Co{x y:Int}(h:y<x):Xb x y=1:=by unfold Xb;rw[if_neg (by omega),if_pos h]
theorem Yv{K:Int}(d:Dn):Qe d=Xb (zv K d) 0:=by
 unfold Qe zv;by_cases h:d.m=0
 .rw[if_pos h,G3.2 h];simp[Xb]
 .have:0<mz K d:=Nat.pos_of_ne_zero (fun h'=>h (G3.1 h'));rw[if_neg h];cases d.neg
  .simp only[Bool.false_eq_true,if_false];rw[Co (by omega)]
  .simp only[if_true];rw[Cn (by omega)]
theorem Qhu{K:Int}{a b:Dn}(hK:0<=K)(ha:-K<=a.e)(hb:-K<=b.e)(ha2:-2147483648<=a.e/\a.e<=2147483648)(hb2:-2147483648<=b.e/\b.e<=2147483648):Qh a b=Xb (zv K a) (zv K b):=by
 unfold Qh;by_cases h:Qe a≠Qe b\/Qe a=0
 .rw[if_pos h,Yv (K:=K) a,Yv (K:=K) b];rw[Yv (K:=K) a,Yv (K:=K) b]at h;generalize zv K a=x at *
  generalize zv K b=y at *
  unfold Xb at *
  repeat' split
  all_goals first|rfl|omega|(exfalso;repeat' split at h)<;>omega
 .rw[if_neg h];have h1:Qe a=Qe b:=by apply Classical.byContradiction;intro h2;exact h (Or.inl h2)
  have h2:Qe a≠0:=fun h2=>h (Or.inr h2);have ma:a.m≠0:=fun h3=>h2 (by unfold Qe;rw[if_pos h3]);have mb:b.m≠0:=fun h3=>h2 (by rw[h1];unfold Qe;rw[if_pos h3]);unfold Uz;rw[Qcr (K:=K) (fun h=>ma (Jq.1 h)) (fun h=>mb (Jq.1 h)) (Ut hK ha ha2) (Ut hK hb hb2),Vu hK ha ha2,Vu hK hb hb2];unfold Qe at *
  rw[if_neg ma]at h1 ⊢;rw[if_neg mb]at h1;unfold zv;generalize mz K a=x at *
  generalize mz K b=y at *
  unfold Qm Xb;cases hna:a.neg<;>cases hnb:b.neg<;>simp[hna,hnb]at h1 ⊢<;>(repeat' split)<;>omega
theorem Qhn{w:World}{u:Value}{y:Dn}(hu:Cy w u y)(sd:Sd y)(he:-62<=(Qa y).e)(hn:62<(bl (Qa y).m:Int)+max (Qa y).e 0) :
  Calls Tryz.prog 115 #[u] w fun e w'=>e=.returned (.tuple #[.agg #[.int .i64 0,.int .i64 0],.bool false])/\Below w.heap.size w w':=by
 have CA:=h_ (fun w u (h:Cy w u y)=>Xr h.ry sd);have sb:=sd.bare;generalize Qa y=B at *
 obtain⟨n,m,e⟩:=B;simp only at he hn sb;obtain⟨p,hp⟩:∃p:Nat,max e 0=(p:Int):=⟨(max e 0).toNat,by omega⟩
 obtain⟨l,hl⟩:∃l:Nat,bl m=l:=⟨_,rfl⟩
 obtain⟨s,hs⟩:∃s:Nat,l+p=s:=⟨_,rfl⟩
 have CB:Qb (∀w u,Dg w u m->Calls Tryz.prog 36 #[u] w fun e w'=>e=.returned (.int .i64 (l:Int))/\Below w.heap.size w w'):=fun w u h=>by have:=Xh (h.rd (by omega));rw[hl]at this;exact this
 have hw:IntKind.i64.wrap ((l:Int)+(p:Int))=(s:Int):=by rw[<-hs];exact IntWalk.i64_in _ (by omega)
 have z1:decide (e < -62)=false:=decide_eq_false (by omega);have z2:decide ((62:Int)<(s:Int))=true:=decide_eq_true (by omega);have z3:decide (62<s)=true:=decide_eq_true (by omega);obtain⟨yn,ym,ye⟩:=y;obtain⟨a1,k1,c1,rfl⟩:=hu.fm;have HX:=h_ hu;clear hu sd sb he hn hl hs;go_enter Tryz.func115,Tryz.ntmps115;have F0:=h_ (Fx.two w 42 #[.bool yn,.slice a1 k1 c1,.int .i64 ye] 133 #[.int .i64 0,.int .i64 0] rfl rfl);have X0:=h_ ((HX.o.alloc (.cells #[.bool yn,.slice a1 k1 c1,.int .i64 ye] 42)).alloc (.cells #[.int .i64 0,.int .i64 0] 133));go_upto_region 1 with(fail)
 generalize alloc (alloc _ _) _=w0 at F0 X0 |-;have c0_0:=F0.o.c3 0 rfl;have c1_0:=F0.o.c2 1 rfl;go_wp2_with fail;refine(CA.o _ _ X0.o).mono ?_;rintro q w1 ⟨u,rfl,hu,hb⟩;have F1:=h_ (F0.o.call hb);have X1:=h_ (X0.o.below hb);have U1:=h_ (hu);have c0_1:=F1.o.c3 0 rfl;have c1_1:=F1.o.c2 1 rfl;obtain⟨a3,k3,c3,rfl⟩:=U1.o.fm;go_upto_region 2 with(fail)
 obtain⟨f,p⟩:=F1.o.s3 0 rfl (.bool n) (.slice a3 k3 c3) (.int .i64 e) rfl rfl rfl;generalize setCell _ _ _=W at f p |-;have F2:=h_ (f);have U2:=h_ (U1.o.kp p);simp only[set_cons_zero]at F2;have c0_2:=F2.o.c3 0 rfl;have c1_2:=F2.o.c2 1 rfl;go_upto_region 4 with(fail)
 have FCD:=h_ (((F2.o.drew).c3 0 rfl).1)
 go_region_held3 (fun w'=>(w'.cell? ⟨w.heap.size,0,none⟩=some (.bool n)/\w'.cell? ⟨w.heap.size,1,none⟩=some (.slice a3 k3 c3)/\w'.cell? ⟨w.heap.size,2,none⟩=some (.int .i64 e))) (first|with_reducible exact FCD.o|with_reducible exact FC.o) (first|(go_at_call 36;(with_reducible refine(CB.o _ _ (U2.o.drew).dm).mono ?_);rintro q ww3 ⟨rfl,hb⟩;have F3:=h_ ((F2.o.drew).call hb);have U3:=h_ ((U2.o.drew).below hb);have FC:=h_ ((F3.o.c3 0 rfl).1);have c0_3:=F3.o.c3 0 rfl;have c1_3:=F3.o.c2 1 rfl))
 all_goals
  go_wp2;obtain⟨f0,p0⟩:=F3.o.s2 1 rfl (.int .i64 0) (.int .i64 0) rfl rfl;have p:=p0;have f:=f0;generalize setCell _ _ _=W at f p |-;have g1:=f.c2 1 rfl;refine bodyPost_ret (v:=.tuple #[.agg #[.int .i64 0,.int .i64 0],.bool false]) (by simp[results,Tryz.results115,go_sem,g1]) rfl ?_;exact⟨rfl,f.b⟩
def Zr(y:Dn):Int:=if y.neg then -((y.m*2^(max y.e 0).toNat:Nat):Int)else((y.m*2^(max y.e 0).toNat:Nat):Int)
def Vs(y:Dn):Nat:=2^(max (-y.e) 0).toNat
theorem Qch{r:Nat}(h:r<=62):wrap64 ((2:Int)^r)=((2^r:Nat):Int):=by
 have h1:(2:Nat)^r<=2^62:=Nat.pow_le_pow_right (by decide) h;have h2:((2:Int)^r)=((2^r:Nat):Int):=by rw[Int.natCast_pow];rfl
 rw[h2];have h4:(2:Nat)^62=4611686018427387904:=by decide
 rw[h4]at h1;generalize 2^r=x at *
 exact IntWalk.wrap64_in (x:Int) (by omega)
theorem Qjj{w:World}{u:Value}{y:Dn}(hu:Cy w u y)(sd:Sd y)(he:-62<=(Qa y).e)(hn:(bl (Qa y).m:Int)+max (Qa y).e 0<=62) :
  Calls Tryz.prog 115 #[u] w fun e w'=>e=.returned (.tuple #[.agg #[.int .i64 (Zr (Qa y)),.int .i64 (Vs (Qa y):Nat)],.bool true])/\Below w.heap.size w w':=by
 have CA:=h_ (fun w u (h:Cy w u y)=>Xr h.ry sd);have sb:=sd.bare;generalize Qa y=B at *
 obtain⟨n,m,e⟩:=B;simp only at he hn sb;obtain⟨p,hp⟩:∃p:Nat,max e 0=(p:Int):=⟨(max e 0).toNat,by omega⟩
 obtain⟨l,hl⟩:∃l:Nat,bl m=l:=⟨_,rfl⟩
 obtain⟨s,hs⟩:∃s:Nat,l+p=s:=⟨_,rfl⟩
 have CB:Qb (∀w u,Dg w u m->Calls Tryz.prog 36 #[u] w fun e w'=>e=.returned (.int .i64 (l:Int))/\Below w.heap.size w w'):=fun w u h=>by have:=Xh (h.rd (by omega));rw[hl]at this;exact this
 have hw:IntKind.i64.wrap ((l:Int)+(p:Int))=(s:Int):=by rw[<-hs];exact IntWalk.i64_in _ (by omega)
 have z1:decide (e < -62)=false:=decide_eq_false (by omega);have z2:decide ((62:Int)<(s:Int))=false:=decide_eq_false (by omega);have z3:decide (62<s)=false:=decide_eq_false (by omega);have CL:Qb (∀w u,Dg w u m->Calls Tryz.prog 125 #[u,.int .i64 (p:Int)] w (Jp (m*2^p) 0 w)):=fun w u h=>Yh (h.rd (by omega)) p (by omega);obtain⟨q,hq⟩:∃q,m*2^p=q:=⟨_,rfl⟩
 rw[hq]at CL;have hq2:bl q<=62:=by
  rw[<-hq];by_cases h0:m=0
  .subst h0;rw[Nat.zero_mul];exact Nat.zero_le _
  .rw[Vd h0];omega
 have hq3:q<4611686018427387904:=Nat.lt_of_lt_of_le (Zb q) (Nat.le_trans (Nat.pow_le_pow_right (by decide) hq2) (by decide));have CM:Qb (∀w u,Dg w u q->Calls Tryz.prog 126 #[u] w fun e w'=>e=.returned (.tuple #[.int .u64 (q:Int),.bool true])/\Below w.heap.size w w'):=fun w u h=>by have:=Gy (h.rd (by omega));rw[if_pos (by omega),decide_eq_true (by omega)]at this;exact this
 obtain⟨r,hr⟩:∃r:Nat,max (-e) 0=(r:Int):=⟨(max (-e) 0).toNat,by omega⟩
 have hr62:r<=62:=by omega
 have hk:=Qch hr62;obtain⟨k,hkk⟩:∃k,2^r=k:=⟨_,rfl⟩
 rw[hkk]at hk;have hk2:wrap64 ((2:Int)^min r 64)=(k:Int):=by rw[Nat.min_eq_left (by omega)];exact hk
 have en:IntKind.i64.wrap (-e)=-e:=IntWalk.i64_in _ (by omega);have hmq:IntKind.i64.wrap (q:Int)=(q:Int):=IntWalk.i64_in _ (by omega);have hmq2:IntKind.i64.wrap (-(q:Int))=-(q:Int):=IntWalk.i64_in _ (by omega);have hr3:((r:Int).toNat)=r:=Int.toNat_natCast r;have hr4:¬(r:Int)<0:=by omega
 have e1:Zr ⟨n,m,e⟩=if n then -(q:Int)else(q:Int):=by unfold Zr;simp only;rw[hp,Int.toNat_natCast,hq]
 have e2:Vs ⟨n,m,e⟩=k:=by unfold Vs;simp only;rw[hr,Int.toNat_natCast,hkk]
 rw[e1,e2];obtain⟨yn,ym,ye⟩:=y;obtain⟨a1,k1,c1,rfl⟩:=hu.fm;have HX:=h_ hu;clear hu sd sb he hn hl hs hq hq2 hr62 hkk e1 e2;go_enter Tryz.func115,Tryz.ntmps115;have F0:=h_ (Fx.two w 42 #[.bool yn,.slice a1 k1 c1,.int .i64 ye] 133 #[.int .i64 0,.int .i64 0] rfl rfl);have X0:=h_ ((HX.o.alloc (.cells #[.bool yn,.slice a1 k1 c1,.int .i64 ye] 42)).alloc (.cells #[.int .i64 0,.int .i64 0] 133));go_upto_region 1 with(fail)
 generalize alloc (alloc _ _) _=w0 at F0 X0 |-;have c0_0:=F0.o.c3 0 rfl;have c1_0:=F0.o.c2 1 rfl;go_wp2_with fail;refine(CA.o _ _ X0.o).mono ?_;rintro q w1 ⟨u,rfl,hu,hb⟩;have F1:=h_ (F0.o.call hb);have X1:=h_ (X0.o.below hb);have U1:=h_ (hu);have c0_1:=F1.o.c3 0 rfl;have c1_1:=F1.o.c2 1 rfl;obtain⟨a3,k3,c3,rfl⟩:=U1.o.fm;go_upto_region 2 with(fail)
 obtain⟨f,p⟩:=F1.o.s3 0 rfl (.bool n) (.slice a3 k3 c3) (.int .i64 e) rfl rfl rfl;generalize setCell _ _ _=W at f p |-;have F2:=h_ (f);have U2:=h_ (U1.o.kp p);simp only[set_cons_zero]at F2;have c0_2:=F2.o.c3 0 rfl;have c1_2:=F2.o.c2 1 rfl;go_upto_region 4 with(fail)
 have FCD:=h_ (((F2.o.drew).c3 0 rfl).1)
 go_region_held3 (fun w'=>(w'.cell? ⟨w.heap.size,0,none⟩=some (.bool n)/\w'.cell? ⟨w.heap.size,1,none⟩=some (.slice a3 k3 c3)/\w'.cell? ⟨w.heap.size,2,none⟩=some (.int .i64 e))) (first|with_reducible exact FCD.o|with_reducible exact FC.o) (first|(go_at_call 36;(with_reducible refine(CB.o _ _ (U2.o.drew).dm).mono ?_);rintro q ww3 ⟨rfl,hb⟩;have F3:=h_ ((F2.o.drew).call hb);have U3:=h_ ((U2.o.drew).below hb);have FC:=h_ ((F3.o.c3 0 rfl).1);have c0_3:=F3.o.c3 0 rfl;have c1_3:=F3.o.c2 1 rfl))
 all_goals
  go_wp2_with fail;refine(CL.o _ _ U3.o.dm).mono ?_;rintro q w4 ⟨u,rfl,hu,hb⟩;have F4:=h_ (F3.o.call hb);have U4:=h_ (U3.o.below hb);have V4:=h_ (hu);have c0_4:=F4.o.c3 0 rfl;have c1_4:=F4.o.c2 1 rfl;obtain⟨a4,k4,c4,rfl⟩:=V4.o.form;go_wp2_with fail;refine(CM.o _ _ V4.o).mono ?_;rintro q w5 ⟨rfl,hb⟩;have F5:=h_ (F4.o.call hb);have U5:=h_ (U4.o.below hb);have V5:=h_ (V4.o.below hb);have c0_5:=F5.o.c3 0 rfl;have c1_5:=F5.o.c2 1 rfl;go_upto_region 10 with(fail)
  have F6:=h_ (F5.o.new 133 #[.int .i64 (q:Int),.int .i64 (k:Int)] rfl);obtain⟨g4,hg4⟩:∃g,g=(World.heap w5).size:=⟨_,rfl⟩
  rw[<-hg4]at F6 |-;clear hg4;simp only[nil_append,cons_append]at F6;generalize alloc w5 _=W6 at F6 |-;have c0_6:=F6.o.c3 0 rfl;have c1_6:=F6.o.c2 1 rfl;have c2_6:=F6.o.c2 2 rfl;cases n
  case false =>go_wp2;obtain⟨f0,p0⟩:=F6.o.s2 1 rfl (.int .i64 (q:Int)) (.int .i64 (k:Int)) rfl rfl;have p:=p0;have f:=f0;generalize setCell _ _ _=W at f p |-;have g1:=f.c2 1 rfl;refine bodyPost_ret (v:=.tuple #[.agg #[.int .i64 (q:Int),.int .i64 (k:Int)],.bool true]) (by simp[results,Tryz.results115,go_sem,g1]) rfl ?_;exact⟨rfl,f.b⟩
  case true =>
   go_upto_region 12 with(fail)
   obtain⟨f,p⟩:=F6.o.s2_0 2 rfl (.int .i64 (-(q:Int))) rfl;generalize (setCell _ _ _)=W at f p |-;have F7:=h_ (f);simp only[set_cons_zero,set_cons_succ]at F7;have c0_7:=F7.o.c3 0 rfl;have c1_7:=F7.o.c2 1 rfl;have c2_7:=F7.o.c2 2 rfl;go_wp2;obtain⟨f0,p0⟩:=F7.o.s2 1 rfl (.int .i64 (-(q:Int))) (.int .i64 (k:Int)) rfl rfl;have p:=p0;have f:=f0;generalize setCell _ _ _=W at f p |-;have g1:=f.c2 1 rfl;refine bodyPost_ret (v:=.tuple #[.agg #[.int .i64 (-(q:Int)),.int .i64 (k:Int)],.bool true]) (by simp[results,Tryz.results115,go_sem,g1]) rfl ?_;exact⟨rfl,f.b⟩
theorem Qik{K:List Nat}{b:Nat}(cK:Zf K b){s:Nat}(hs:s=64-bl (dg K (K.length-1)))(b0:b≠0) :
  s<=63/\b*2^s<18446744073709551616^K.length/\18446744073709551616^K.length<=2*(b*2^s):=by
 obtain⟨h1,h0⟩:=Jl cK b0;have h2:=Zs (Qy cK.digs (K.length-1));have h3:=Zi (n:=dg K (K.length-1)) (by omega);have hK:0<K.length:=by apply Nat.pos_of_ne_zero;intro hz;have:K=[]:=List.length_eq_zero_iff.1 hz;have hv:=cK.val;rw[this]at hv;exact b0 hv.symm
 have h4:bl b+s=64*K.length:=by omega
 have h5:=Zb b;have h6:2^(bl b-1)<=b:=by rw[Zi b0];exact Nat.log2_self_le b0
 have e:(18446744073709551616:Nat)^K.length=2^(64*K.length):=by rw[Wf]
 refine⟨by omega,?_,?_⟩
 .rw[e,<-h4,Nat.pow_add];exact Nat.mul_lt_mul_of_pos_right h5 (Nat.two_pow_pos s)
 .rw[e,<-h4,show bl b+s=(bl b-1)+s+1 by have:=Zi b0;omega,Nat.pow_succ,Nat.pow_add,Nat.mul_comm 2];exact Nat.mul_le_mul_right _ (Nat.mul_le_mul_right _ h6)
theorem Np{w w':World}{B:Nat}{e:TypeId}{size:Nat}{v:Value}{n:Nat}{xs:List Value}(h:w.ownsRow B e size v n xs)(hb:Below w.heap.size w w'):w'.ownsRow B e size v n xs:=by
 obtain⟨hl,h⟩:=h;refine⟨hl,?_⟩;rcases h with h|⟨g,cap,cur,h1,h2,h3,h4⟩
 .exact .inl h
 .exact .inr ⟨g,cap,cur,h1,h2,(hb.block g (Eh h3)).trans h3,h4⟩
theorem Qie{w:World}{B B':Nat}{e:TypeId}{size:Nat}{v:Value}{n:Nat}{xs:List Value}(h:w.ownsRow B e size v n xs)(hb:B'<=B):w.ownsRow B' e size v n xs:=by
 obtain⟨hl,h⟩:=h;refine⟨hl,?_⟩;rcases h with h|⟨g,cap,cur,h1,h2,h3⟩
 .exact .inl h
 .exact .inr ⟨g,cap,cur,h1,Nat.le_trans hb h2,h3⟩
theorem Qfh{V:List Nat}(hd:Ql V){n:Nat}(hn:2<=n)(h:Qc V<18446744073709551616^n)(h2:18446744073709551616^n<=2*Qc V) :
  0<dg V (n-1)/\∃m,Qc V=18446744073709551616^(n-2)*(dg V (n-1)*18446744073709551616+dg V (n-2))+m:=by
 obtain⟨k,rfl⟩:∃k,n=k+2:=⟨n-2,by omega⟩
 rw[show k+2-2=k by omega,show k+2-1=k+1 by omega];have h1:=Je V k;have hz:Qc (V.drop (k+1+1))=0:=by rw[<-Ue hd];exact Nat.div_eq_of_lt h
 rw[Zw,Zw,hz,Nat.mul_zero,Nat.add_zero]at h1;have h3:=Ja hd k;have e:18446744073709551616^(k+2)=18446744073709551616^k*(18446744073709551616*18446744073709551616):=by rw[Nat.pow_add]
 constructor
 .apply Nat.pos_of_ne_zero;intro h0;rw[h0,Nat.mul_zero,Nat.add_zero]at h1;have d0:=Qy hd k;have h4:18446744073709551616^k*dg V k<=18446744073709551616^k*18446744073709551615:=Nat.mul_le_mul_left _ (by omega);rw[e]at h2;have h5:18446744073709551616^k*4<=18446744073709551616^k*(18446744073709551616*18446744073709551616):=Nat.mul_le_mul_left _ (by decide);have h6:18446744073709551616^k*(2*18446744073709551616)<=18446744073709551616^k*(18446744073709551616*18446744073709551616):=Nat.mul_le_mul_left _ (by decide);generalize 18446744073709551616^k=B at *
  omega
 .refine⟨Qc (V.take k),?_⟩;rw[h1,Nat.add_comm,Nat.mul_comm (dg V (k+1)),Nat.add_comm (dg V k)]
def XQ(B gq N:Nat)(Q:List Nat)(w:World):Prop:=w.ownsRow B 22 1 (.slice (some ⟨gq,0,none⟩) N N) N (Qz Q)
theorem Tw.below{B gu gv Nu cu Nv cv gq N:Nat}{Q:List Nat}{w0 wr w':World}{U V:List Nat}(h:Tw (XQ B gq N Q) B gu gv Nu cu Nv cv w0 wr U V)(hb:Below wr.heap.size wr w')(hs:B<=wr.heap.size):Tw (XQ B gq N Q) B gu gv Nu cu Nv cv w0 w' U V :=
 ⟨Np h.u hb,Np h.v hb,h.ne,h.du,h.dv,h.gB,h.b.trans (hb.mono hs),Np h.x hb,h.st⟩
theorem Tw.drew{B gu gv Nu cu Nv cv gq N:Nat}{Q:List Nat}{w0 wr:World}{U V:List Nat}(h:Tw (XQ B gq N Q) B gu gv Nu cu Nv cv w0 wr U V):Tw (XQ B gq N Q) B gu gv Nu cu Nv cv w0 wr.drew U V :=
 ⟨h.u,h.v,h.ne,h.du,h.dv,h.gB,Qw h.b 1,h.x,h.st⟩
theorem Tw.size{X:World->Prop}{B gu gv Nu cu Nv cv:Nat}{w0 wr:World}{U V:List Nat}(h:Tw X B gu gv Nu cu Nv cv w0 wr U V):B<=wr.heap.size :=
 Nat.le_of_lt (Nat.lt_of_le_of_lt h.gB (h.u.lt gu rfl).2)
theorem XQ.st{B gq N gu:Nat}{Q:List Nat}(hne:gq≠gu):∀(w:World) (k:Nat) (u:Value),XQ B gq N Q w->XQ B gq N Q (w.setCell ⟨gu,k,none⟩ u):=by intro w k u h;refine ownsRow_setCell_other h ?_ _;simp only[Value.ownBlock];intro e;exact hne (Option.some.inj e)
theorem Tw.setQ{B gu gv Nu cu Nv cv gq N:Nat}{Q:List Nat}{w0 wr:World}{U V:List Nat}(h:Tw (XQ B gq N Q) B gu gv Nu cu Nv cv w0 wr U V)(h1:gq≠gu)(h2:gq≠gv)(k:Nat)(x:Nat)(u:Value)(hu:u=.int .u64 (x:Int)) :
  Tw (XQ B gq N (Q.set k x)) B gu gv Nu cu Nv cv w0 (wr.setCell ⟨gq,k,none⟩ u) U V:=by
 subst hu;have hB:B<=gq:=(World.ownsRow.lt h.x gq rfl).1;refine⟨ownsRow_setCell_other h.u (fun e=>h1 (Option.some.inj e).symm) _,ownsRow_setCell_other h.v (fun e=>h2 (Option.some.inj e).symm) _,h.ne,h.du,h.dv,h.gB,h.b.setCell hB _,?_,XQ.st h1⟩;show World.ownsRow _ _ _ _ _ _ _;rw[<-Wi];exact(World.ownsRow.stored h.x k _).1
theorem Tw.qAt{B gu gv Nu cu Nv cv gq N:Nat}{Q:List Nat}{w0 wr:World}{U V:List Nat}(h:Tw (XQ B gq N Q) B gu gv Nu cu Nv cv w0 wr U V){k:Nat}(hk:k<N):wr.cell? ⟨gq,k,none⟩=some (.int .u64 (dg Q k:Nat)):=by rw[World.ownsRow.cellAt h.x k (by omega)];exact Jj (Qu (by rw[Zn h.x];exact hk))
theorem Tw.qFz{B gu gv Nu cu Nv cv gq N:Nat}{Q:List Nat}{w0 wr:World}{U V:List Nat}(h:Tw (XQ B gq N Q) B gu gv Nu cu Nv cv w0 wr U V)(k:Nat):wr.frozen? ⟨gq,k,none⟩=false:=World.ownsRow.frozenAt h.x k
theorem Qa9{L:List Nat}{v:Value}{w:World}(h:Qr w v L)(hl:L.length<=100000)(s:Nat)(hs:s<=63){m:Nat}(hm:L.length+1=m):Calls Tryz.prog 187 #[v,.int .i64 (s:Int)] w fun e w'=>∃O,e=.returned (.slice (some ⟨w.heap.size,0,none⟩) m m) /\
  w'.ownsRow w.heap.size 22 1 (.slice (some ⟨w.heap.size,0,none⟩) m m) m (Qz O)/\Ql O/\Qc O=Qc L*2^s/\Below w.heap.size w w':=by
 subst hm;exact Qc9 h hl s hs
theorem Qh2{X:World->Prop}{B gu gv Nu cu Nv cv i n d cc M:Nat}{U V:List Nat}{w0 w:World}(hM:M=n+1)(h:Tw X B gu gv Nu cu Nv cv w0 w U V)(hiN:i+n<Nu)(hnV:n<=Nv)(hN:Nu<=300000)(hd:d<18446744073709551616) :
  Calls Tryz.prog 189 #[.slice (some ⟨gu,i,none⟩) M cc,.slice (some ⟨gv,0,none⟩) n cv,.int .u64 (d:Int)] w (Oa X B gu gv Nu cu Nv cv i n d U V w0):=by
 subst hM;exact Qcm h hiN hnV hN hd
theorem Qj4{X:World->Prop}{B gu gv Nu cu Nv cv i n cc M:Nat}{U V:List Nat}{w0 w:World}(hM:M=n+1)(h:Tw X B gu gv Nu cu Nv cv w0 w U V)(hiN:i+n<Nu)(hnV:n<=Nv)(hN:Nu<=300000) :
  Calls Tryz.prog 190 #[.slice (some ⟨gu,i,none⟩) M cc,.slice (some ⟨gv,0,none⟩) n cv] w (Qd7 X B gu gv Nu cu Nv cv i n U V w0):=by
 subst hM;exact Qfx h hiN hnV hN
theorem Qgg{g i n cc u2 u1 u0 top nx M:Nat}{w:World}(hM:M=n+1)(hn:2<=n)(hn2:n<=300000)(h2:w.cell? ⟨g,i+n,none⟩=some (.int .u64 (u2:Int)))(h1:w.cell? ⟨g,i+(n-1),none⟩=some (.int .u64 (u1:Int)))(h0:w.cell? ⟨g,i+(n-2),none⟩=some (.int .u64 (u0:Int)))
  (b1:u1<18446744073709551616) (b0:u0<18446744073709551616) (bt:top<18446744073709551616) (bx:nx<18446744073709551616) (ht:0<top) :
  Calls Tryz.prog 188 #[.slice (some ⟨g,i,none⟩) M cc,.int .u64 (top:Int),.int .u64 (nx:Int)] w (Bj u2 u1 u0 top nx w):=by
 subst hM;exact Qbc hn hn2 h2 h1 h0 b1 b0 bt bx ht
theorem Qc7{L K:List Nat}{u v:Value}{w:World}{a b:Nat}(h:Qr w u L)(k:Qr w v K)(cL:Zf L a)(cK:Zf K b)(hn:2<=K.length)(hle:K.length<=L.length)(hl:L.length<=90000) :
  Calls Tryz.prog 182 #[u,v] w fun e w'=>∃x y,e=.returned (.tuple #[x,y])/\Dg w' x (a/b)/\Dg w' y (a%b)/\Below w.heap.size w w':=by
 have HL:=h_ h;have HK:=h_ k;obtain⟨n,en⟩:∃n,n=K.length:=⟨_,rfl⟩
 obtain⟨la,el⟩:∃la,la=L.length:=⟨_,rfl⟩
 obtain⟨mu,emu⟩:∃mu,mu=la+1:=⟨_,rfl⟩
 obtain⟨mv,emv⟩:∃mv,mv=n+1:=⟨_,rfl⟩
 obtain⟨N,eN⟩:∃N,N=la-n+1:=⟨_,rfl⟩
 obtain⟨p1,ep1⟩:∃p,p=n-1:=⟨_,rfl⟩
 obtain⟨p2,ep2⟩:∃p,p=n-2:=⟨_,rfl⟩
 have b0:b≠0:=by intro hb;subst hb;have:=cK.zero;rw[this]at hn;simp at hn
 obtain⟨s,es⟩:∃s,s=64-bl (dg K (K.length-1)):=⟨_,rfl⟩
 obtain⟨s63,vlt,vge⟩:=Qik cK es b0;have CZ:=h_ (fun w=>Qer (dg K p1) (Qy cK.digs p1) w);have es2:(64:Int)-(bl (dg K p1):Int)=(s:Int):=by rw[ep1,en];have:=Zs (Qy cK.digs (K.length-1));omega
 rw[es2]at CZ;have C1:=h_ (fun w (h:Qr w u L)=>Qa9 h (by omega) s s63 (by rw[<-el,emu]:L.length+1=mu));have C2:=h_ (fun w (h:Qr w v K)=>Qa9 h (by omega) s s63 (by rw[<-en,emv]:K.length+1=mv));obtain⟨au,cu',rfl,-⟩:=h.sl.form;obtain⟨av,cv',rfl,kc⟩:=k.sl.form;obtain⟨bv,ov,rfl,kc2⟩:=kc (by omega);have hk1:w.cell? ⟨bv,ov+p1,none⟩=some (.int .u64 (dg K p1:Nat)):=kc2 p1 _ (Qu (by omega));have VL:=h_ cL.val;have VK:=h_ cK.val;have P:Qb (n=K.length/\la=L.length/\mu=la+1/\mv=n+1/\N=la-n+1/\p1=n-1/\p2=n-2/\2<=n/\n<=la/\la<=90000):=⟨en,el,emu,emv,eN,ep1,ep2,by omega,by omega,by omega⟩
 have VN:Qb (b*2^s<18446744073709551616^n/\18446744073709551616^n<=2*(b*2^s)/\0<b*2^s/\s<=63):=⟨by rw[en];exact vlt,by rw[en];exact vge,Nat.mul_pos (Nat.pos_of_ne_zero b0) (Nat.two_pow_pos s),s63⟩
 have HB0:=h_ (Nat.pos_of_ne_zero b0);rw[<-el]at HL C1 |-;rw[<-en]at HK C2 |-;have w1:IntKind.i64.wrap (p1:Int)=(p1:Int):=IntWalk.i64_in _ (by omega);have w2:IntKind.i64.wrap (p2:Int)=(p2:Int):=IntWalk.i64_in _ (by omega);have v1:(n:Int)-1=(p1:Int):=by omega
 have v2:(n:Int)-2=(p2:Int):=by omega
 have v3:(la:Int)-(n:Int)+1=(N:Int):=by omega
 have n1:n<=100000:=by omega
 have n2:p1<n:=by omega
 have n3:p2<n:=by omega
 have n4:n<=mv:=by omega
 have n5:la<=90000:=by omega
 have HA:=h_ (show a<18446744073709551616^la from by rw[el,<-cL.val];exact J0 cL.digs);clear h k cL cK hn hle hl en el emu emv eN ep1 ep2 b0 es s63 vlt vge es2 kc kc2;go_enter Tryz.func182,Tryz.ntmps182;go_upto_region 2 with(fail)
 go_wp2_with fail;refine(CZ.o _).mono ?_;rintro e wz ⟨rfl,rfl⟩;go_upto_region 3 with(fail)
 have HLd:=h_ HL.o.drew;have HKd:=h_ HK.o.drew
 go_region_held3 (fun _=>True) (exact trivial) (first|(go_at_call 187;(with_reducible refine(C2.o _ K1.o).mono ?_);rintro q ww2 ⟨O2,rfl,ho2,hd2,hs2,hb2⟩;have VO:=h_ (And.intro ho2 (And.intro hd2 hs2));have UO2:=h_ (Np UO.o.1 hb2);have BB2:=h_ (BB.o.trans (hb2.mono SZ.o));have L2:=h_ (L1.o.below hb2);have SV:=h_ (show w.heap.size<ww1.heap.size from(UO.o.1.lt _ rfl).2);clear hb2 ho2 hd2 hs2)|(go_at_call 187;(with_reducible refine(C1.o _ HLd.o).mono ?_);rintro q ww1 ⟨O1,rfl,ho1,hd1,hs1,hb1⟩;have K1:=h_ (HKd.o.below hb1);have L1:=h_ (HLd.o.below hb1);have UO:=h_ (And.intro ho1 (And.intro hd1 hs1));have BB:Qb (Below w.heap.size w ww1):=(Qw (Below.refl w.heap.size w) 1).trans hb1;have SZ:Qb (w.heap.size<=ww1.heap.size):=hb1.size;clear hb1 ho1 hd1 hs1))
 have UO':Qb (Ql O1/\Qc O1=a*2^s):=⟨UO.o.2.1,by rw[UO.o.2.2,VL.o]⟩
 have VO':Qb (Ql O2/\Qc O2=b*2^s):=⟨VO.o.2.1,by rw[VO.o.2.2,VK.o]⟩
 have UR:Qb (ww2.ownsRow w.heap.size 22 1 (.slice (some ⟨w.heap.size,0,none⟩) mu mu) mu (Qz O1)):=UO2.o;have VR:Qb (ww2.ownsRow w.heap.size 22 1 (.slice (some ⟨ww1.heap.size,0,none⟩) mv mv) mv (Qz O2)):=Qie VO.o.1 SZ.o;have NE:Qb (w.heap.size≠ww1.heap.size/\ww1.heap.size<ww2.heap.size):=⟨Nat.ne_of_lt SV.o,(VO.o.1.lt _ rfl).2⟩
 have HT:=h_ L2.o.tab;clear UO VO UO2 SZ BB K1 L1 L2 SV HLd HKd VL VK hk1 CZ C1 C2 HK;obtain⟨gv,egv⟩:∃gv,gv=ww1.heap.size:=⟨_,rfl⟩
 rw[<-egv]at VR NE |-;clear egv;have N1:N<=90001:=by have:=P.o;omega
 go_wp2_with (refine Jb (w0:=ww2) rfl (.tmp 37) 40 rfl ww2.heap.size 22 (.int .u64 0) 8 Tryz.underlying40 Tryz.info22 rfl (by decide) _ _ N rfl (by first|rfl|assumption) (by omega) (Below.refl _ _) (Nat.le_refl _) ?_)
 intro w3 ho3 hb3 hB3;have HH:Qb (Tw (XQ w.heap.size ww2.heap.size N (List.replicate N 0)) w.heap.size w.heap.size gv mu mu mv mv w w3 O1 O2/\Lj (a*2^s) (b*2^s) n N N O1 (List.replicate N 0)/\Ql (List.replicate N 0)):=by
  have hs2:w.heap.size<=ww2.heap.size:=BB2.o.size;refine⟨⟨Np UR.o hb3,Np VR.o hb3,NE.o.1,UO'.o.1,VO'.o.1,Nat.le_refl _,BB2.o.trans (hb3.mono hs2),?_,XQ.st (fun e=>?_)⟩,⟨?_,fun t _=>Px N t,?_,List.length_replicate ..⟩,Kl N⟩
  .have:=Qie ho3.o hs2;rw[Vy]at this;exact this
  .have:=(UR.o.lt _ rfl).2;rw[<-e]at this;exact Nat.lt_irrefl _ this
  .rw[Js,Nat.mul_zero,Nat.add_zero];exact UO'.o.2.symm
  .rw[UO'.o.2];obtain⟨v1,v2,v3,v4⟩:=VN.o;obtain⟨-,-,-,-,pN,-,-,-,pn,-⟩:=P.o;have ha:=HA.o;have h1:2*(a*2^s)<2*(b*2^s*18446744073709551616^N):=by
    have e1:18446744073709551616^n*18446744073709551616^N<=2*(b*2^s)*18446744073709551616^N:=Nat.mul_le_mul_right _ v2;rw[<-Nat.pow_add,show n+N=la+1 by omega,Nat.mul_assoc]at e1;have e2:2*2^s<=18446744073709551616:=by
     have:2^s<=2^63:=Nat.pow_le_pow_right (by decide) v4;have e:(2:Nat)^63=9223372036854775808:=by decide
     omega
    have e3:a*(2*2^s)<18446744073709551616^la*18446744073709551616:=Nat.lt_of_le_of_lt (Nat.mul_le_mul_left _ e2) (Nat.mul_lt_mul_of_pos_right ha (by decide));rw[<-Nat.pow_succ,Nat.mul_left_comm]at e3;exact Nat.lt_of_lt_of_le e3 e1
   exact Nat.lt_of_mul_lt_mul_left h1
 have GQ:Qb (ww2.heap.size≠w.heap.size/\ww2.heap.size≠gv):=by have h1:=(UR.o.lt _ rfl).2;have h2:=NE.o.2;exact⟨fun e=>by rw[e]at h1;exact Nat.lt_irrefl _ h1,fun e=>by rw[e]at h2;exact Nat.lt_irrefl _ h2⟩
 have BE:Qb (Below w.heap.size w w3):=HH.o.1.b;have UV2:=h_ VO'.o.2;obtain⟨gq,egq⟩:∃gq,gq=ww2.heap.size:=⟨_,rfl⟩
 rw[<-egq]at HH GQ ⊢;clear egq ho3 hb3 hB3 UO' VO' UR VR NE BB2 HA BE;have HVO2:=h_ UV2.o;clear UV2;generalize hA2:a*2^s=A2 at *
 generalize hVv:b*2^s=Vv at *
 have EA:=h_ hA2;have EV:=h_ hVv;clear hA2 hVv;have HVO:Qb (dg O2 p1<18446744073709551616/\True):=⟨Qy HH.o.1.dv p1,trivial⟩
 have HVt:Qb (0<dg O2 p1/\∃m,Vv=18446744073709551616^(n-2)*(dg O2 p1*18446744073709551616+dg O2 p2)+m):=by obtain⟨v1,v2,v3,v4⟩:=VN.o;obtain⟨-,-,-,-,-,q1,q2,q3,-⟩:=P.o;have e:=HVO2.o;rw[<-e]at v1 v2 ⊢;rw[q1,q2];exact Qfh HH.o.1.dv q3 v1 v2
 have VTK:Qb (Qc (O2.take n)=Vv):=by
  have h1:=Je O2 n;have h2:Qc (O2.drop n)=0:=by rw[<-Ue HH.o.1.dv];refine Nat.div_eq_of_lt ?_;rw[HVO2.o];exact VN.o.1
  rw[h2,Nat.mul_zero,Nat.add_zero,HVO2.o]at h1;exact h1.symm
 clear HVO2;go_wp2
 go_loopw [11] (fun tj wr=>∃(k:Nat) (z:Int) (U Q:List Nat),tj=.int .i64 z/\k<=N/\Qb (z=(k:Int)-1)/\Qb (Tw (XQ w.heap.size gq N Q) w.heap.size w.heap.size gv mu mu mv mv w wr U O2/\Lj A2 Vv n N k U Q/\Ql Q)) (fun tj _=>(intOf tj+1).toNat)
 case atStart=>exact⟨N,_,_,_,rfl,Nat.le_refl _,rfl,HH⟩
 case round =>
  obtain⟨k,z,U,Q,rfl,hk,hz,hh⟩:=hrel;rcases k with _|j
  .obtain rfl:z=-1:=by have:=hz.o;omega
   clear hz hk;have CS:=h_ (S8 (Qr.of_own hh.o.1.u (HL.o.tab.below hh.o.1.b) hh.o.1.du) (by rw[hh.o.1.lenU];have:=P.o;omega) s (by have:=VN.o.2.2.2;omega));have HD:Qb (Qc U/2^s=a%b/\Qc Q=a/b):=by have h1:=hh.o.2.1;rw[<-EA.o,<-EV.o]at h1;exact h1.done HB0.o
   rw[HD.o.1]at CS;have HS:=h_ hh.o.1.size;have HB:=h_ hh.o.1.b;go_wp2_with fail;refine(CS.o).mono ?_;rintro q w4 ⟨x,rfl,hx,hb⟩;have CQ:=h_ (Xp (Qr.of_own (Np hh.o.1.x hb) ((HL.o.tab.below HB.o).below hb) hh.o.2.2) (by rw[Zn hh.o.1.x];omega));have HX:=h_ hx;have B4:=h_ (HB.o.trans (hb.mono HS.o));have S4:=h_ (Nat.le_trans HS.o hb.size);rw[HD.o.2]at CQ;clear hx hb CS HS HB;go_wp2_with fail;refine(CQ.o).mono ?_;rintro q w5 ⟨y,rfl,hy,hb⟩;have HX5:=h_ (HX.o.below hb);have HY5:=h_ hy;have B5:=h_ (B4.o.trans (hb.mono S4.o));clear hy hb CQ;go_wp2;go_ret2;exact⟨_,_,rfl,HY5.o,HX5.o,B5.o⟩
  .obtain rfl:z=(j:Int):=by have:=hz.o;omega
   clear hz;obtain⟨p,ep⟩:∃p,p=j+n+1:=⟨_,rfl⟩
   have hP:=P.o;have q1:(j:Int)+(n:Int)+1=(p:Int):=by omega
   have q2:(p:Int)-(j:Int)=(mv:Int):=by omega
   have q3:p-j=mv:=by omega
   have q4:p<=mu:=by omega
   have q5:j<=p:=by omega
   have q6:j<=90001:=by omega
   have q7:p<=90001:=by omega
   have q8:j<N:=by omega
   have HPJ:Qb (j+n<mu/\n<=mv/\mu<=300000/\mv=n+1/\2<=n/\n<=300000/\p1=n-1/\p2=n-2/\mu<=mu):=⟨by omega,by omega,by omega,by omega,by omega,by omega,by omega,by omega,Nat.le_refl _⟩
   clear ep hP;have FIN:=h_ (hh.o.2.1.first VN.o.1);have HV0:Qb (0<Vv):=VN.o.2.2.1;have dt:=Qy hh.o.1.dv p1;have dx:=Qy hh.o.1.dv p2;have CG:Qb (∀cc,Calls Tryz.prog 188 #[.slice (some ⟨w.heap.size,j,none⟩) mv cc,.int .u64 (dg O2 p1:Nat),.int .u64 (dg O2 p2:Nat)] wr.drew (Bj (dg U (j+n)) (dg U (j+(n-1))) (dg U (j+(n-2))) (dg O2 p1) (dg O2 p2) wr.drew)):=fun cc=>by obtain⟨h1,h2,h3,h4,h5,h6,h7,h8,h9⟩:=HPJ.o;exact Qgg h4 h5 h6 (hh.o.1.uAt (k:=j+n) h1) (hh.o.1.uAt (k:=j+(n-1)) (by omega)) (hh.o.1.uAt (k:=j+(n-2)) (by omega)) (Qy hh.o.1.du _) (Qy hh.o.1.du _) dt dx HVt.o.1
   have QG:Qb (∀d,Gd (dg U (j+n)) (dg U (j+(n-1))) (dg U (j+(n-2))) (dg O2 p1) (dg O2 p2) d->Qc U/18446744073709551616^j/Vv<=d):=by intro d hd;obtain⟨h1,h2,h3,h4,h5,h6,h7,h8,h9⟩:=HPJ.o;obtain⟨l,hl,hP⟩:=Qcz hh.o.1.du h5 FIN.o.1;obtain⟨-,m,hm⟩:=HVt.o;exact hd _ FIN.o.2 (Qdc rfl hP hl hm)
   have x1:wr.drew.cell? ⟨gv,p1,none⟩=some (.int .u64 (dg O2 p1:Nat)):=hh.o.1.vAt (by have:=HPJ.o;omega);have x2:wr.drew.cell? ⟨gv,p2,none⟩=some (.int .u64 (dg O2 p2:Nat)):=hh.o.1.vAt (by have:=HPJ.o;omega);have FC:=h_ (And.intro x1 x2);have TD:=h_ hh.o.1.drew;have SD:=h_ hh.o.1.size;clear dt dx x1 x2;generalize dg O2 p1=top at *
   generalize dg O2 p2=nx at *
   go_upto_region 9 with(fail)
   go_region_held3 (fun w'=>w'.cell? ⟨gv,p1,none⟩=some (.int .u64 (top:Int))/\w'.cell? ⟨gv,p2,none⟩=some (.int .u64 (nx:Int))) (first|with_reducible exact FC.o|with_reducible exact FC2.o) (first|(go_at_call 188;(with_reducible refine(CG.o _).mono ?_);rintro q ww1 ⟨d0,rfl,hd0,hg0,hb⟩;have D0:=h_ hd0;have G0:=h_ (QG.o _ hg0);have T1:=h_ (TD.o.below hb SD.o);have FC2:=h_ (And.intro (Qj hb (Nat.le_refl _) FC.o.1) (Qj hb (Nat.le_refl _) FC.o.2));clear hb hd0 hg0))
   have GL:=h_ hh.o.2;clear CG QG FC FC2 TD SD hh;have CT:=h_ (fun cc=>Qh2 (cc:=cc) (M:=mv) HPJ.o.2.2.2.1 T1.o HPJ.o.1 HPJ.o.2.1 HPJ.o.2.2.1 D0.o);go_wp2_with fail;refine(CT.o _).mono ?_;rintro q ww2 ⟨c,O,rfl,hc,hT,hs,hlo,hhi⟩;have TI:Qb (Tw (XQ w.heap.size gq N Q) w.heap.size w.heap.size gv mu mu mv mv w ww2 O O2/\Nd Vv n j U O d0 c):=⟨hT,⟨by rw[VTK.o]at hs;exact hs,hlo,hhi,hc,D0.o,G0.o⟩⟩
   have DU:=h_ T1.o.du;clear hc hT hs hlo hhi CT T1;go_wp2
   go_loopw [13,14] (fun td tw wr=>∃(d c:Nat) (O:List Nat),td=.int .u64 (d:Int)/\tw=.bool (decide (0<c))/\Qb (Tw (XQ w.heap.size gq N Q) w.heap.size w.heap.size gv mu mu mv mv w wr O O2/\Nd Vv n j U O d c)) (fun td _ _=>(intOf td).toNat)
   case atStart=>exact⟨d0,c,O,rfl,rfl,TI⟩
   case round =>
    obtain⟨d,c',O',rfl,rfl,hI⟩:=hrel;by_cases h0:c'=0
    .subst h0;have HN:Qb (∀u,u=.int .u64 (d:Int)->Tw (XQ w.heap.size gq N (Q.set j d)) w.heap.size w.heap.size gv mu mu mv mv w (setCell wr ⟨gq,j,none⟩ u) O' O2/\Lj A2 Vv n N j O' (Q.set j d)/\Ql (Q.set j d)) :=
      fun u hu=>⟨hI.o.1.setQ GQ.o.1 GQ.o.2 j d u hu,hI.o.2.done GL.o.1 HV0.o q8,GL.o.2.set hI.o.2.d64⟩
     have y1:=hI.o.1.qAt q8;have y2:=hI.o.1.qFz j;have q9:IntKind.i64.wrap ((j:Int)-1)=(j:Int)-1:=IntWalk.i64_in _ (by omega);go_wp2;go_roundw
     case rel=>exact⟨j,_,O',Q.set j d,rfl,Nat.le_of_lt q8,rfl,HN.o _ rfl⟩
     case measure=>simp only[intOf];omega
    .have hc1:c'=1:=by have:=hI.o.2.c1;omega
     subst hc1;have hL:=hI.o.2.less hI.o.1.du FIN.o.1;obtain⟨d',hd'⟩:∃d',d=d'+1:=⟨d-1,(Nat.succ_pred_eq_of_pos hL.1).symm⟩
     have HQ:Qb (Qc U/18446744073709551616^j/Vv<=d'):=by have:=hL.2;rw[hd',Nat.add_sub_cancel]at this;exact this
     have HD':=h_ hd';have hd64:=hI.o.2.d64;have e1:(d:Int)-1=(d':Int):=by omega
     have e2:IntKind.u64.wrap (d':Int)=(d':Int):=by rw[IntKind.wrap_u64];omega
     have e3:IntKind.u64.wrap ((d:Int)-1)=(d':Int):=by rw[e1];exact e2
     have CP:=h_ (fun cc=>Qj4 (cc:=cc) (M:=mv) HPJ.o.2.2.2.1 hI.o.1 HPJ.o.1 HPJ.o.2.1 HPJ.o.2.2.1);clear hL hd' hd64 h0;go_wp2_with fail;refine(CP.o _).mono ?_;rintro q ww3 ⟨c2,O3,rfl,hc,hT,hs,hlo,hhi⟩;have HN:Qb (Tw (XQ w.heap.size gq N Q) w.heap.size w.heap.size gv mu mu mv mv w ww3 O3 O2/\Nd Vv n j U O3 d' (1-c2)) :=
      ⟨hT,hI.o.2.put HD'.o HQ.o (by rw[VTK.o]at hs;exact hs) hlo hhi hc⟩
     have HB:Qb ((!decide (0<c2))=decide (0<1-c2)):=by rcases Nat.le_one_iff_eq_zero_or_eq_one.1 hc with rfl|rfl<;>rfl
     clear hc hT hs hlo hhi CP HQ;go_wp2;go_roundw
     case rel=>exact⟨d',1-c2,O3,rfl,by rw[<-HB.o],HN⟩
     case measure=>have:=HD'.o;simp only[intOf];omega
theorem Dg.big{w:World}{a:Option Addr}{k c n:Nat}(h:Dg w (.slice a k c) n)(hn:18446744073709551616<=n):2<=k:=by obtain⟨L,h1,hc⟩:=h;obtain⟨a',c',he,_⟩:=h1.sl;rw[Zo]at he;injection he with _ hk _;apply Nat.le_of_not_lt;intro hlt;have h2:=J0 hc.digs;rw[hc.val]at h2;have h3:=Vc (show L.length<=1 by omega);rw[Nat.pow_one]at h3;omega
theorem Qip{w:World}{u v:Value}{m n:Nat}(hu:Dg w u m)(hv:Dg w v n)(h2:18446744073709551616<=n)(hle:n<=m)(bm:bl m<=5700000) :
  Calls Tryz.prog 182 #[u,v] w fun e w'=>∃x y,e=.returned (.tuple #[x,y])/\Dg w' x (m/n)/\Dg w' y (m%n)/\Below w.heap.size w w':=by
 obtain⟨L,hL,cL⟩:=hu;obtain⟨K,hK,cK⟩:=hv;have n0:n≠0:=by omega
 have m0:m≠0:=by omega
 have e1:=(Jl cL m0).1;have e2:=(Jl cK n0).1;have d1:=(Jl cL m0).2;have d2:=(Jl cK n0).2;have f1:=Zi (n:=dg L (L.length-1)) (by omega);have f2:=Zi (n:=dg K (K.length-1)) (by omega);have g2:=Zs (Qy cK.digs (K.length-1));have h3:65<=bl n:=by
  apply Nat.le_of_not_lt;intro h;have h4:=Zb n;have h5:2^bl n<=2^64:=Nat.pow_le_pow_right (by decide) (by omega);have h6:(2:Nat)^64=18446744073709551616:=by decide
  omega
 have h4:=Zc hle;have k2:2<=K.length:=by omega
 have g1:=Zs (Qy cL.digs (L.length-1));have k3:K.length<=L.length:=by apply Nat.le_of_not_lt;intro h;omega
 exact Qc7 hL hK cL cK k2 k3 (by omega)
theorem On{w:World}{u v:Value}{m n:Nat}(hu:Rd w u m)(hv:Rd w v n)(h0:0<n)(bm:bl m<=5700000)(bn:bl n<=5700000) :
  Calls Tryz.prog 167 #[u,v] w fun e w'=>∃x y,e=.returned (.tuple #[x,y,.int .i64 0])/\Dg w' x (m/n)/\Dg w' y (m%n)/\Below w.heap.size w w':=by
 by_cases h:n<18446744073709551616\/m<n
 .exact Qe6 hu hv h0 h (by omega) (by omega)
 have h1:18446744073709551616<=n:=by omega
 have h2:n<=m:=by omega
 have HU:=h_ hu;have HV:=h_ hv;obtain⟨a1,k1,c1,rfl⟩:=hu.form;obtain⟨a2,k2,c2,rfl⟩:=hv.form;have CC:=h_ (fun w (u v:Value) (h:Rd w u m) (k:Rd w v n)=>Kw h k);have hc:decide (Qm m n<0)=false:=decide_eq_false (by unfold Qm;split;omega;split<;>omega);have CL:=h_ (fun w u v (hu:Dg w u m) (hv:Dg w v n)=>Qip hu hv h1 h2 bm);have B0:=h_ bm;have B1:=h_ bn;have H1:=h_ h1;generalize Qm m n=c at *
 clear hu hv h0 h h1 h2 bm bn;go_enter Tryz.func167,Tryz.ntmps167;have F0:=h_ (Fx.nil w);have X0:=h_ (HU.o);have Y0:=h_ (HV.o);go_wp2_with fail;refine(Kt X0.o).mono ?_;rintro q w1 ⟨u,rfl,hu,hb⟩;have F1:=h_ (F0.o.call hb);have X1:=h_ (X0.o.below hb);have Y1:=h_ (Y0.o.below hb);have U1:=h_ (hu);obtain⟨a3,k3,c3,rfl⟩:=U1.o.form;go_wp2_with fail;refine(Kt Y1.o).mono ?_;rintro q w2 ⟨u,rfl,hu,hb⟩;have F2:=h_ (F1.o.call hb);have X2:=h_ (X1.o.below hb);have Y2:=h_ (Y1.o.below hb);have U2:=h_ (U1.o.below hb);have V2:=h_ (hu);obtain⟨a4,k4,c4,rfl⟩:=V2.o.form;have t0:((k4:Int)==0)=false:=by rw[beq_eq_false_iff_ne];intro h;have:=V2.o.len0.2 (by omega);have:=H1.o;omega
 have t1:((k4:Int)==1)=false:=by rw[beq_eq_false_iff_ne];intro h;have h3:=V2.o.big H1.o;omega
 have t2:(k4==1)=false:=by rw[beq_eq_false_iff_ne];intro h;have h3:=V2.o.big H1.o;omega
 go_wp2_with fail;refine(CC.o _ _ _ (U2.o.rd (Nat.le_trans B0.o (by decide))) (V2.o.rd (Nat.le_trans B1.o (by decide)))).mono ?_;rintro q w3 ⟨rfl,hb⟩;have F3:=h_ (F2.o.call hb);have U3:=h_ (U2.o.below hb);have V3:=h_ (V2.o.below hb);go_wp2_with fail;refine(CL.o _ _ _ U3.o V3.o).mono ?_;rintro q w4 ⟨x,y,rfl,hx,hy,hb⟩;have F4:=h_ (F3.o.call hb);have U4:=h_ (U3.o.below hb);have V4:=h_ (V3.o.below hb);have Q4:=h_ (hx);have W4:=h_ (hy);obtain⟨a5,k5,c5,rfl⟩:=Q4.o.form;obtain⟨a6,k6,c6,rfl⟩:=W4.o.form;go_wp2;refine bodyPost_ret (v:=.tuple #[.slice a5 k5 c5,.slice a6 k6 c6,.int .i64 0]) (by simp[results,Tryz.results167,go_sem]) rfl ?_;exact⟨_,_,rfl,Q4.o,W4.o,F4.o.b⟩
theorem Qlh{w:World}{u v:Value}{m n:Nat}(hu:Rd w u m)(hv:Rd w v n)(h0:0<n)(bm:bl m<=5700000)(bn:bl n<=5700000) :
  Calls Tryz.prog 165 #[u,v] w (Jp (if m%n=0 then m/n else m/n+1) 0 w):=by
 have CD:=h_ (fun w u v (hu:Rd w u m) (hv:Rd w v n)=>On hu hv h0 bm bn);have hq:bl (m/n)<=5700000:=Nat.le_trans (Zc (Nat.div_le_self _ _)) bm;have HQ:=h_ hq;have HU:=h_ hu;have HV:=h_ hv;generalize m/n=q at *
 generalize m%n=r at *
 have CA:Qb (∀w u v,Dg w u q->Dg w v 1->Calls Tryz.prog 123 #[u,v] w (J2 (q+1) w)):=fun w u v h k=>Xd (h.rd (by omega)) (k.rd (by decide));obtain⟨S,hS⟩:∃S,S=if r=0 then q else q+1:=⟨_,rfl⟩
 rw[<-hS];have HS:=h_ hS;clear hu hv h0 bm bn hq hS;go_enter Tryz.func165,Tryz.ntmps165;have F0:=h_ (Fx.nil w);have X0:=h_ (HU.o);have Y0:=h_ (HV.o);go_wp2_with fail;refine(CD.o _ _ _ X0.o Y0.o).mono ?_;rintro q w1 ⟨x,y,rfl,hx,hy,hb⟩;have F1:=h_ (F0.o.call hb);have X1:=h_ (X0.o.below hb);have Y1:=h_ (Y0.o.below hb);have Q1:=h_ (hx);have R1:=h_ (hy);obtain⟨a5,k5,c5,rfl⟩:=Q1.o.form;obtain⟨a6,k6,c6,rfl⟩:=R1.o.form;by_cases hr:r=0
 .have t0:((k6:Int)==0)=true:=by rw[beq_iff_eq];have:=R1.o.len0.1 hr;omega
  have t1:(k6==0)=true:=by rw[beq_iff_eq];exact R1.o.len0.1 hr
  have e:Qb (S=q):=HS.o.trans (if_pos hr);clear hr;go_wp2;go_ret2;exact⟨_,rfl,by rw[e.o];exact Q1.o,F1.o.b⟩
 .have t0:((k6:Int)==0)=false:=by rw[beq_eq_false_iff_ne];intro h;exact hr (R1.o.len0.2 (by omega))
  have t1:(k6==0)=false:=by rw[beq_eq_false_iff_ne];intro h;exact hr (R1.o.len0.2 h)
  have e:Qb (S=q+1):=HS.o.trans (if_neg hr);clear hr;go_wp2_with fail;refine(Zu (n:=1) (by decide) Q1.o.tab).mono ?_;rintro q w2 ⟨u,rfl,hu,hb⟩;have F2:=h_ (F1.o.call hb);have Q2:=h_ (Q1.o.below hb);have R2:=h_ (R1.o.below hb);have O2:=h_ (hu);go_wp2_with fail;refine(CA.o _ _ _ Q2.o O2.o).mono ?_;rintro q w3 ⟨u,rfl,hu,hb⟩;have F3:=h_ (F2.o.call hb);have Q3:=h_ (Q2.o.below hb);have R3:=h_ (R2.o.below hb);have O3:=h_ (O2.o.below hb);have S3:=h_ (hu);obtain⟨a7,k7,c7,rfl⟩:=S3.o.form;go_wp2;go_ret2;exact⟨_,rfl,by rw[e.o];exact S3.o,F3.o.b⟩
end Go.Proofs.YtobpioceopfkpaaGreatDoor
