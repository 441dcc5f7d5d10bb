/-
  Lemmas for WholeCompare (part 11); without conditions.
-/
import Derived.Test.YtobpioceopfkpaaGreatDoorM09
import Derived.Test.YtobpioceopfkpaaGreatDoorM10
set_option maxRecDepth 100000
set_option maxHeartbeats 4000000
namespace Go.Proofs.YtobpioceopfkpaaGreatDoor
open Go.RowKit
open World (setCell alloc drew)
open List (set_cons_zero set_cons_succ setIfInBounds_toArray cons_append nil_append)
structure In where
 lo:Dn
 hi:Dn
def Zm(lo hi:Nat)(e:Int)(neg:Bool):In :=
 if 0<Qh (Qa ⟨neg,lo,e⟩) (Qa ⟨neg,hi,e⟩)then⟨Qa ⟨neg,hi,e⟩,Qa ⟨neg,lo,e⟩⟩else⟨Qa ⟨neg,lo,e⟩,Qa ⟨neg,hi,e⟩⟩
def Iv(w:World)(v:Value)(i:In):Prop:=∃a k c a' k' c',v=.agg #[.bool i.lo.neg,.slice a k c,.int .i64 i.lo.e,.bool i.hi.neg,.slice a' k' c',.int .i64 i.hi.e] /\
 Cy w (.agg #[.bool i.lo.neg,.slice a k c,.int .i64 i.lo.e]) i.lo/\Cy w (.agg #[.bool i.hi.neg,.slice a' k' c',.int .i64 i.hi.e]) i.hi
theorem Iv.below{w w':World}{v:Value}{i:In}(h:Iv w v i)(hb:Below w.heap.size w w'):Iv w' v i:=by obtain⟨a,k,c,a',k',c',h1,h2,h3⟩:=h;exact⟨a,k,c,a',k',c',h1,h2.below hb,h3.below hb⟩
theorem Iv.alloc{w:World}{v:Value}{i:In}(h:Iv w v i)(o:Obj):Iv (w.alloc o) v i:=by obtain⟨a,k,c,a',k',c',h1,h2,h3⟩:=h;exact⟨a,k,c,a',k',c',h1,h2.alloc o,h3.alloc o⟩
theorem Iv.drew{w:World}{v:Value}{i:In}(h:Iv w v i):Iv w.drew v i:=by obtain⟨a,k,c,a',k',c',h1,h2,h3⟩:=h;exact⟨a,k,c,a',k',c',h1,h2.drew,h3.drew⟩
theorem Iv.kp{w w':World}{v:Value}{i:In}(h:Iv w v i)(K:Kp w w'):Iv w' v i:=by obtain⟨a,k,c,a',k',c',h1,h2,h3⟩:=h;exact⟨a,k,c,a',k',c',h1,h2.kp K,h3.kp K⟩
theorem Iv.tab{w:World}{v:Value}{i:In}(h:Iv w v i):Qq w:=by obtain⟨a,k,c,a',k',c',h1,h2,h3⟩:=h;exact h2.tab
theorem Iv.fm{w:World}{v:Value}{n:Bool}{m:Nat}{e:Int}{n':Bool}{m':Nat}{e':Int}(h:Iv w v ⟨⟨n,m,e⟩,⟨n',m',e'⟩⟩):∃a k c a' k' c',v=.agg #[.bool n,.slice a k c,.int .i64 e,.bool n',.slice a' k' c',.int .i64 e'] /\
  Cy w (.agg #[.bool n,.slice a k c,.int .i64 e]) ⟨n,m,e⟩/\Cy w (.agg #[.bool n',.slice a' k' c',.int .i64 e']) ⟨n',m',e'⟩:=h
def Qd6(i:In)(w:World)(e:Ending)(w':World):Prop:=∃u,e=.returned u/\Iv w' u i/\Below w.heap.size w w'
theorem Cz{w:World}{u v:Value}{lo hi:Nat}(hu:Rd w u lo)(hv:Rd w v hi)(neg:Bool)(s e:Int)(hs:s=-e)(he:-100000<=e/\e<=100000)(h1:bl lo<=30000)(h2:bl hi<=30000) :
  Calls Tryz.prog 135 #[u,v,.int .i64 s,.bool neg] w (Qd6 (Zm lo hi e neg) w):=by
 obtain⟨a1,k1,c1,rfl⟩:=hu.form;obtain⟨a2,k2,c2,rfl⟩:=hv.form;have C1:=h_ (fun w (h:Rd w (.slice a1 k1 c1) lo)=>Kf (neg:=neg) (e:=e) h (by omega) (by omega));have C2:=h_ (fun w (h:Rd w (.slice a2 k2 c2) hi)=>Kf (neg:=neg) (e:=e) h (by omega) (by omega));have q1:IntKind.i64.wrap (-s)=e:=by rw[hs,IntWalk.i64_in _ (by omega)];omega
 obtain⟨I,hI⟩:∃I,I=Zm lo hi e neg:=⟨_,rfl⟩
 rw[<-hI];unfold Zm at hI;generalize Qa ⟨neg,lo,e⟩=A at *
 generalize Qa ⟨neg,hi,e⟩=B at *
 have CC:=h_ (fun w u v (h:Cy w u A) (k:Cy w v B)=>Zv h.ry k.ry);generalize Qh A B=c at *
 have HW:=h_ hI;clear hI;obtain⟨an,am,ae⟩:=A;obtain⟨bn,bm,be⟩:=B;have HU:=h_ hu;have HV:=h_ hv;clear hu hv hs he h1 h2;go_enter Tryz.func135,Tryz.ntmps135;have F0:=h_ (Fx.one w 92 #[.bool false,.slice none 0 0,.int .i64 0,.bool false,.slice none 0 0,.int .i64 0] rfl);have X0:=h_ (HU.o.alloc (.cells #[.bool false,.slice none 0 0,.int .i64 0,.bool false,.slice none 0 0,.int .i64 0] 92));have Y0:=h_ (HV.o.alloc (.cells #[.bool false,.slice none 0 0,.int .i64 0,.bool false,.slice none 0 0,.int .i64 0] 92));go_wp2_with fail;generalize alloc _ _=w0 at F0 X0 Y0 |-;have c0_0:=F0.o.c6 0 rfl;refine(C1.o _ X0.o).mono ?_;rintro q w1 ⟨u,rfl,hu,hb⟩;have F1:=h_ (F0.o.call hb);have X1:=h_ (X0.o.below hb);have Y1:=h_ (Y0.o.below hb);have U1:=h_ (hu);have c0_1:=F1.o.c6 0 rfl;obtain⟨a3,k3,c3,rfl⟩:=U1.o.fm;go_wp2_with fail;have F2:=h_ (F1.o.new 42 #[.bool an,.slice a3 k3 c3,.int .i64 ae] rfl);have Y2:=h_ (Y1.o.alloc (.cells #[.bool an,.slice a3 k3 c3,.int .i64 ae] 42));have U2:=h_ (U1.o.alloc (.cells #[.bool an,.slice a3 k3 c3,.int .i64 ae] 42));obtain⟨g1,hg1⟩:∃g,g=(World.heap w1).size:=⟨_,rfl⟩
 rw[<-hg1]at F2 |-;clear hg1;simp only[nil_append,cons_append]at F2;generalize alloc w1 _=W2 at F2 Y2 U2 |-;have c0_2:=F2.o.c6 0 rfl;have c1_2:=F2.o.c3 1 rfl;refine(C2.o _ Y2.o).mono ?_;rintro q w3 ⟨u,rfl,hu,hb⟩;have F3:=h_ (F2.o.call hb);have Y3:=h_ (Y2.o.below hb);have U3:=h_ (U2.o.below hb);have V3:=h_ (hu);have c0_3:=F3.o.c6 0 rfl;have c1_3:=F3.o.c3 1 rfl;obtain⟨a4,k4,c4,rfl⟩:=V3.o.fm;go_upto_region 3 with(fail)
 have F4:=h_ (F3.o.new 42 #[.bool bn,.slice a4 k4 c4,.int .i64 be] rfl);have U4:=h_ (U3.o.alloc (.cells #[.bool bn,.slice a4 k4 c4,.int .i64 be] 42));have V4:=h_ (V3.o.alloc (.cells #[.bool bn,.slice a4 k4 c4,.int .i64 be] 42));obtain⟨g2,hg2⟩:∃g,g=(World.heap w3).size:=⟨_,rfl⟩
 rw[<-hg2]at F4 |-;clear hg2;simp only[nil_append,cons_append]at F4;generalize alloc w3 _=W4 at F4 U4 V4 |-;have c0_4:=F4.o.c6 0 rfl;have c1_4:=F4.o.c3 1 rfl;have c2_4:=F4.o.c3 2 rfl;go_wp2_with fail;refine(CC.o _ _ _ U4.o V4.o).mono ?_;rintro q w5 ⟨rfl,hb⟩;have F5:=h_ (F4.o.call hb);have U5:=h_ (U4.o.below hb);have V5:=h_ (V4.o.below hb);have c0_5:=F5.o.c6 0 rfl;have c1_5:=F5.o.c3 1 rfl;have c2_5:=F5.o.c3 2 rfl;by_cases h0:0<c
 .have z1:decide (0<c)=true:=decide_eq_true h0;have HE:=h_ (HW.o.trans (if_pos h0));clear h0 HW;have hne:=F5.o.lt2 1 2 (by decide) rfl rfl;go_upto_region 5 with(fail)
  clear hne;have hcells:=c0_5;clear hcells;obtain⟨f1,p1⟩:=F5.o.s3 1 rfl (.bool bn) (.slice a4 k4 c4) (.int .i64 be) rfl rfl rfl;obtain⟨f2,p2⟩:=f1.s3 2 rfl (.bool an) (.slice a3 k3 c3) (.int .i64 ae) rfl rfl rfl;have p:=p1.trans p2;have f:=f2;clear f1 f2 p1 p2;generalize setCell _ _ _=W at f p |-;have F6:=h_ (f);have U6:=h_ (U5.o.kp p);have V6:=h_ (V5.o.kp p);simp only[set_cons_zero,set_cons_succ]at F6;have c0_6:=F6.o.c6 0 rfl;have c1_6:=F6.o.c3 1 rfl;have c2_6:=F6.o.c3 2 rfl;go_wp2;obtain⟨f0,p0⟩:=F6.o.s6 0 rfl (.bool bn) (.slice a4 k4 c4) (.int .i64 be) (.bool an) (.slice a3 k3 c3) (.int .i64 ae) rfl rfl rfl rfl rfl rfl;have p:=p0;have f:=f0;generalize setCell _ _ _=W at f p |-;have g0:=f.c6 0 rfl;refine bodyPost_ret (v:=.agg #[.bool bn,.slice a4 k4 c4,.int .i64 be,.bool an,.slice a3 k3 c3,.int .i64 ae]) (by simp[results,Tryz.results135,go_sem,g0]) rfl ?_;rw[HE.o];exact⟨_,rfl,⟨_,_,_,_,_,_,rfl,V6.o.kp p,U6.o.kp p⟩,f.b⟩
 .have z1:decide (0<c)=false:=decide_eq_false h0;have HE:=h_ (HW.o.trans (if_neg h0));clear h0 HW;go_wp2;obtain⟨f0,p0⟩:=F5.o.s6 0 rfl (.bool an) (.slice a3 k3 c3) (.int .i64 ae) (.bool bn) (.slice a4 k4 c4) (.int .i64 be) rfl rfl rfl rfl rfl rfl;have p:=p0;have f:=f0;generalize setCell _ _ _=W at f p |-;have g0:=f.c6 0 rfl;refine bodyPost_ret (v:=.agg #[.bool an,.slice a3 k3 c3,.int .i64 ae,.bool bn,.slice a4 k4 c4,.int .i64 be]) (by simp[results,Tryz.results135,go_sem,g0]) rfl ?_;rw[HE.o];exact⟨_,rfl,⟨_,_,_,_,_,_,rfl,U5.o.kp p,V5.o.kp p⟩,f.b⟩
theorem Ez(a b:Dn):-1<=Qh a b/\Qh a b<=1:=by
 unfold Qh;have h1:=Yu a;have h2:=Da a b;split
 .exact En _ _
 .rcases(by omega:Qe a=-1\/Qe a=0\/Qe a=1)with h|h|h<;>rw[h]<;>omega
theorem Qet{w:World}{u:Value}{d:Dn}(hu:Ry w u d)(sd:Sd d):Calls Tryz.prog 161 #[u] w fun e w'=>e=.returned (.bool true)/\Below w.heap.size w w':=by
 have CA:=h_ (fun w (h:Ry w u d)=>Xr h sd);obtain⟨a1,k1,c1,rfl⟩:=hu.form;generalize Qa d=D at *
 obtain⟨n,m,e⟩:=D;clear sd;go_enter Tryz.func161,Tryz.ntmps161;have F0:=h_ (Fx.one w 42 #[.bool d.neg,.slice a1 k1 c1,.int .i64 d.e] rfl);have X0:=h_ (hu.alloc (.cells #[.bool d.neg,.slice a1 k1 c1,.int .i64 d.e] 42));clear hu;go_upto_region 1 with(fail)
 generalize alloc _ _=w0 at F0 X0 |-;have c0_0:=F0.o.c3 0 rfl;go_wp2_with fail;refine(CA.o _ X0.o).mono ?_;rintro q w1 ⟨u,rfl,hu,hb⟩;have F1:=h_ (F0.o.call hb);have X1:=h_ (X0.o.below hb);have U1:=h_ (hu);have c0_1:=F1.o.c3 0 rfl;obtain⟨a3,k3,c3,rfl⟩:=U1.o.fm;go_wp2;go_ret;exact⟨rfl,(F1.o.alloc _).b⟩
theorem Yd{w:World}{u:Value}{i:In}(hu:Iv w u i)(s1:Sd i.lo)(s2:Sd i.hi):Calls Tryz.prog 132 #[u] w fun e w'=>e=.returned (.bool (decide (Qh i.lo i.hi<=0)))/\Below w.heap.size w w':=by
 obtain⟨⟨n,m,e⟩,⟨n',m',e'⟩⟩:=i;obtain⟨a1,k1,c1,a2,k2,c2,rfl,hx,hy⟩:=hu.fm;simp only at s1 s2;have C1:=h_ (fun w u (h:Cy w u ⟨n,m,e⟩)=>Qet h.ry s1);have C2:=h_ (fun w u (h:Cy w u ⟨n',m',e'⟩)=>Qet h.ry s2);have CC:=h_ (fun w u v (h:Cy w u ⟨n,m,e⟩) (k:Cy w v ⟨n',m',e'⟩)=>Zv h.ry k.ry);simp only;generalize Qh ⟨n,m,e⟩ ⟨n',m',e'⟩=c at *
 have HX:=h_ hx;have HY:=h_ hy;clear hu hx hy s1 s2;go_enter Tryz.func132,Tryz.ntmps132;have F0:=h_ (Fx.one w 92 #[.bool n,.slice a1 k1 c1,.int .i64 e,.bool n',.slice a2 k2 c2,.int .i64 e'] rfl);have X0:=h_ (HX.o.alloc (.cells #[.bool n,.slice a1 k1 c1,.int .i64 e,.bool n',.slice a2 k2 c2,.int .i64 e'] 92));have Y0:=h_ (HY.o.alloc (.cells #[.bool n,.slice a1 k1 c1,.int .i64 e,.bool n',.slice a2 k2 c2,.int .i64 e'] 92));go_upto_region 1 with(fail)
 generalize alloc _ _=w0 at F0 X0 Y0 |-;have c0_0:=F0.o.c6 0 rfl;go_wp2_with fail;refine(C1.o _ _ X0.o).mono ?_;rintro q w1 ⟨rfl,hb⟩;have F1:=h_ (F0.o.call hb);have X1:=h_ (X0.o.below hb);have Y1:=h_ (Y0.o.below hb);have c0_1:=F1.o.c6 0 rfl;go_wp2_with fail;refine(C2.o _ _ Y1.o).mono ?_;rintro q w2 ⟨rfl,hb⟩;have F2:=h_ (F1.o.call hb);have X2:=h_ (X1.o.below hb);have Y2:=h_ (Y1.o.below hb);have c0_2:=F2.o.c6 0 rfl;go_wp2_with fail;refine(CC.o _ _ _ X2.o Y2.o).mono ?_;rintro q w3 ⟨rfl,hb⟩;have F3:=h_ (F2.o.call hb);have X3:=h_ (X2.o.below hb);have Y3:=h_ (Y2.o.below hb);have c0_3:=F3.o.c6 0 rfl;go_wp2;go_ret;exact⟨rfl,F3.o.b⟩
theorem Qlo{w:World}{u:Value}{d:Dn}(hu:Cy w u d):Calls Tryz.prog 159 #[u] w (Qd6 ⟨d,d⟩ w):=by
 obtain⟨n,m,e⟩:=d;obtain⟨a1,k1,c1,rfl⟩:=hu.fm;have HX:=h_ hu;clear hu;go_enter Tryz.func159,Tryz.ntmps159;have F0:=h_ (Fx.two w 42 #[.bool n,.slice a1 k1 c1,.int .i64 e] 92 #[.bool false,.slice none 0 0,.int .i64 0,.bool false,.slice none 0 0,.int .i64 0] rfl rfl);have X0:=h_ ((HX.o.alloc (.cells #[.bool n,.slice a1 k1 c1,.int .i64 e] 42)).alloc (.cells #[.bool false,.slice none 0 0,.int .i64 0,.bool false,.slice none 0 0,.int .i64 0] 92));go_upto_region 1 with(fail)
 generalize alloc (alloc _ _) _=w0 at F0 X0 |-;have c0_0:=F0.o.c3 0 rfl;have c1_0:=F0.o.c6 1 rfl;go_wp2;obtain⟨f0,p0⟩:=F0.o.s6 1 rfl (.bool n) (.slice a1 k1 c1) (.int .i64 e) (.bool n) (.slice a1 k1 c1) (.int .i64 e) rfl rfl rfl rfl rfl rfl;have p:=p0;have f:=f0;generalize setCell _ _ _=W at f p |-;have g1:=f.c6 1 rfl;refine bodyPost_ret (v:=.agg #[.bool n,.slice a1 k1 c1,.int .i64 e,.bool n,.slice a1 k1 c1,.int .i64 e]) (by simp[results,Tryz.results159,go_sem,g1]) rfl ?_;exact⟨_,rfl,⟨_,_,_,_,_,_,rfl,X0.o.kp p,X0.o.kp p⟩,f.b⟩
theorem Ao{w:World}{u:Value}{d:Dn}(hu:Ry w u d)(sd:Sd d)(B M:Int)(hB:(bl (Qa d).m:Int)<=B)(hM:-M<=Qg (Qa d)/\Qg (Qa d)<=M)(hMM:0<=M/\M<=10000000) :
  Calls Tryz.prog 79 #[u,.int .i64 B,.int .i64 M] w fun e w'=>e=.returned (.bool true)/\Below w.heap.size w w':=by
 have CA:=h_ (fun w (h:Ry w u d)=>Xr h sd);have bd:=sd.bare;obtain⟨a1,k1,c1,rfl⟩:=hu.form;generalize Qa d=D at *
 have CT:=h_ (fun w u (h:Cy w u D)=>Wg h.ry);generalize Qg D=t at *
 obtain⟨n,m,e⟩:=D;simp only at hB bd CT;have CB:=h_ (fun w u (h:Dg w u m)=>Xh (h.rd (by omega)));generalize bl m=l at *
 generalize decide (m≠0)=g at *
 have q1:IntKind.i64.wrap (-M)=-M:=IntWalk.i64_in _ (by omega);have z1:decide ((l:Int)<=B)=true:=decide_eq_true hB;have z2:decide (-M<=t)=true:=decide_eq_true hM.1;have z3:decide (t<=M)=true:=decide_eq_true hM.2;have HUU:=h_ hu;clear hu sd hB hM hMM bd;go_enter Tryz.func79,Tryz.ntmps79;have F0:=h_ (Fx.one w 42 #[.bool d.neg,.slice a1 k1 c1,.int .i64 d.e] rfl);have X0:=h_ (HUU.o.alloc (.cells #[.bool d.neg,.slice a1 k1 c1,.int .i64 d.e] 42));clear HUU;go_upto_region 1 with(fail)
 generalize alloc _ _=w0 at F0 X0 |-;have c0_0:=F0.o.c3 0 rfl;go_wp2_with fail;refine(CA.o _ X0.o).mono ?_;rintro q w1 ⟨u,rfl,hu,hb⟩;have F1:=h_ (F0.o.call hb);have X1:=h_ (X0.o.below hb);have U1:=h_ (hu);have c0_1:=F1.o.c3 0 rfl;obtain⟨a3,k3,c3,rfl⟩:=U1.o.fm;go_upto_region 2 with(fail)
 obtain⟨f,p⟩:=F1.o.s3 0 rfl (.bool n) (.slice a3 k3 c3) (.int .i64 e) rfl rfl rfl;generalize setCell _ _ _=W at f p |-;have F2:=h_ (f);have U2:=h_ (U1.o.kp p);simp only[set_cons_zero]at F2;have c0_2:=F2.o.c3 0 rfl;go_wp2_with fail;refine(CT.o _ _ U2.o).mono ?_;rintro q w3 ⟨rfl,hb⟩;have F3:=h_ (F2.o.call hb);have U3:=h_ (U2.o.below hb);have c0_3:=F3.o.c3 0 rfl;go_wp2_with fail;refine(CB.o _ _ U3.o.dm).mono ?_;rintro q w4 ⟨rfl,hb⟩;have F4:=h_ (F3.o.call hb);have U4:=h_ (U3.o.below hb);have c0_4:=F4.o.c3 0 rfl;go_wp2;go_ret;exact⟨rfl,F4.o.b⟩
def Ak(w:World)(v:Value)(x y:Dn)(z tt:Int):Prop:=∃a k c a' k' c',v=.agg #[.bool x.neg,.slice a k c,.int .i64 x.e,.bool y.neg,.slice a' k' c',.int .i64 y.e,.int .u64 1,.bool false,.int .i64 z,.int .i64 64,.int .i64 tt] /\
 Cy w (.agg #[.bool x.neg,.slice a k c,.int .i64 x.e]) x/\Cy w (.agg #[.bool y.neg,.slice a' k' c',.int .i64 y.e]) y
theorem Ak.below{w w':World}{v:Value}{x y:Dn}{z tt:Int}(h:Ak w v x y z tt)(hb:Below w.heap.size w w'):Ak w' v x y z tt:=by obtain⟨a,k,c,a',k',c',h1,h2,h3⟩:=h;exact⟨a,k,c,a',k',c',h1,h2.below hb,h3.below hb⟩
def Ze(x y:Dn):Int:=Qe y*Qh x (Qk 1)
end Go.Proofs.YtobpioceopfkpaaGreatDoor
