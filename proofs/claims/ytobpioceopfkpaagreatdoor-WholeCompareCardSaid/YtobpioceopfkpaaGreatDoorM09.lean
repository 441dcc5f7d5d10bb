/-
  Lemmas for WholeCompare (part 9); without conditions.
-/
import Derived.Test.YtobpioceopfkpaaGreatDoorM08
import Derived.LoopN
import Derived.Test.YtobpioceopfkpaaGreatDoorM03
import Derived.LaidMore
import Derived.Lib.LaidTab
import Derived.Stop.Joined
set_option maxRecDepth 100000
set_option maxHeartbeats 4000000
namespace Go.Proofs.YtobpioceopfkpaaGreatDoor
open Go.RowKit
open World (setCell alloc drew)
open List (set_cons_zero set_cons_succ setIfInBounds_toArray cons_append nil_append)
theorem He(n k:Nat):bl (n*2^k)<=bl n+k:=by apply Zp;rw[Nat.pow_add];exact Nat.mul_lt_mul_of_pos_right (Zb n) (Nat.two_pow_pos _)
theorem Qbt{m n:Nat}:(Qm m n<0)↔m<n:=by unfold Qm;split;omega;split<;>omega
def Gu(A B:Dn):Dn :=
 if A.m=0 then B else if B.m=0 then A else
  if A.neg=B.neg then Qa ⟨A.neg,Xn A.m (A.e-min A.e B.e)+Xn B.m (B.e-min A.e B.e),min A.e B.e⟩
  else if Xn A.m (A.e-min A.e B.e)<Xn B.m (B.e-min A.e B.e)then Qa ⟨B.neg,Xn B.m (B.e-min A.e B.e)-Xn A.m (A.e-min A.e B.e),min A.e B.e⟩
  else Qa ⟨A.neg,Xn A.m (A.e-min A.e B.e)-Xn B.m (B.e-min A.e B.e),min A.e B.e⟩
def Ga(a b:Dn):Dn:=Gu (Qa a) (Qa b)
theorem S7{d:Dn}(h:bl d.m<=4000/\-4000<=d.e/\d.e<=8000):-4000<=Qg d/\Qg d<=20000:=by
 unfold Qg;by_cases h0:d.m=0
 .rw[if_pos h0];omega
 .rw[if_neg h0,Zy h0];have k1:=Wp h0;have k3:Ju d.e=d.e:=by unfold Ju;omega
  have:d.m/2^lo d.m<=d.m:=Nat.div_le_self _ _;have k2:=Zc this;rw[k3];have k4:0<bl (d.m/2^lo d.m):=by have h5:(Qa d).m≠0:=fun h=>h0 (Jq.1 h);rw[Zy h0]at h5;have:=Zi h5;simp only at this;omega
  simp only;omega
theorem Ab{m:Nat}{n:Int}(h:n<=12000):bl (Xn m n)<=bl m+12000:=by
 unfold Xn;split
 .omega
 .exact Nat.le_trans (He _ _) (by omega)
theorem Lf{m n k:Nat}(h:bl m<=k)(h':bl n<=k):bl (m+n)<=k+1:=by apply Zp;have h1:=Nat.lt_of_lt_of_le (Zb m) (Nat.pow_le_pow_right (by decide) h);have h2:=Nat.lt_of_lt_of_le (Zb n) (Nat.pow_le_pow_right (by decide) h');rw[Nat.pow_succ];omega
theorem Qe7{w:World}{u v:Value}{a b:Dn}(ha:Ry w u a)(hb:Ry w v b)(sa:Sd a)(sb:Sd b):Calls Tryz.prog 157 #[u,v] w (Um (Ga a b) 0 w):=by
 have CA:=h_ (fun w (h:Ry w u a)=>Xr h sa);have CB:=h_ (fun w (h:Ry w v b)=>Xr h sb);obtain⟨a1,k1,c1,rfl⟩:=ha.form;obtain⟨a2,k2,c2,rfl⟩:=hb.form;have ba:=sa.bare;have bb:=sb.bare;have HM:Ga a b=Gu (Qa a) (Qa b):=rfl;rw[HM];clear HM;generalize Qa a=A at *
 generalize Qa b=B at *
 have ta:=S7 ba;have tb:=S7 bb;have CT1:=h_ (fun w u (h:Cy w u A)=>Wg h.ry);have CT2:=h_ (fun w u (h:Cy w u B)=>Wg h.ry);generalize Qg A=x at *
 generalize Qg B=y at *
 obtain⟨an,am,ae⟩:=A;obtain⟨bn,bm,be⟩:=B;simp only at ba bb CT1 CT2;have W1:=h_ (fun w u (h:Dg w u am) n hn=>Fd h (by omega) n hn);have W2:=h_ (fun w u (h:Dg w u bm) n hn=>Fd h (by omega) n hn);obtain⟨S,hS⟩:∃S,S=Gu ⟨an,am,ae⟩ ⟨bn,bm,be⟩:=⟨_,rfl⟩
 have HS:Qb (S=if am=0 then⟨bn,bm,be⟩else if bm=0 then⟨an,am,ae⟩else
  if an=bn then Qa ⟨an,Xn am (ae-min ae be)+Xn bm (be-min ae be),min ae be⟩
  else if Xn am (ae-min ae be)<Xn bm (be-min ae be)then Qa ⟨bn,Xn bm (be-min ae be)-Xn am (ae-min ae be),min ae be⟩
  else Qa ⟨an,Xn am (ae-min ae be)-Xn bm (be-min ae be),min ae be⟩):=hS
 rw[<-hS];clear hS;have hl1:min ae be<=ae:=Int.min_le_left _ _;have hl2:min ae be<=be:=Int.min_le_right _ _;have hl3:-4000<=min ae be:=by omega
 have bp:=Ab (m:=am) (n:=ae-min ae be) (by omega);have bq:=Ab (m:=bm) (n:=be-min ae be) (by omega);have W1:=h_ (fun w u h=>W1.o w u h (ae-min ae be) (by omega));have W2:=h_ (fun w u h=>W2.o w u h (be-min ae be) (by omega));generalize hlow:min ae be=low at *
 generalize Xn am (ae-low)=pp at *
 generalize Xn bm (be-low)=qq at *
 have q1:IntKind.i64.wrap (ae-low)=ae-low:=IntWalk.i64_in _ (by omega);have q2:IntKind.i64.wrap (be-low)=be-low:=IntWalk.i64_in _ (by omega);have bp2:bl pp<=16000:=by omega
 have bq2:bl qq<=16000:=by omega
 have K1:=h_ (fun w u (h:Rd w u (pp+qq))=>Kf (neg:=an) (e:=low) h (Nat.le_trans (Lf bp2 bq2) (by decide)) (by omega));have K2:=h_ (fun w u (h:Dg w u (pp-qq))=>Kf (neg:=an) (e:=low) (h.rd (Nat.le_trans (Zc (Nat.sub_le pp qq)) (by omega))) (Nat.le_trans (Zc (Nat.sub_le pp qq)) (by omega)) (by omega));have K3:=h_ (fun w u (h:Dg w u (qq-pp))=>Kf (neg:=bn) (e:=low) (h.rd (Nat.le_trans (Zc (Nat.sub_le qq pp)) (by omega))) (Nat.le_trans (Zc (Nat.sub_le qq pp)) (by omega)) (by omega));have BS:Qb (bl (pp+qq)<=6000000):=Nat.le_trans (Lf bp2 bq2) (by decide);have CP:=h_ (fun w u v (h:Rd w u pp) (k:Rd w v qq)=>Kw h k);have CN:=h_ (Qbt (m:=pp) (n:=qq));have CD1:=h_ (fun w u v (h:Rd w u pp) (k:Rd w v qq)=>Ge h k);have CD2:=h_ (fun w u v (h:Rd w u qq) (k:Rd w v pp)=>Ge h k);have CAD:=h_ (fun w u v (h:Rd w u pp) (k:Rd w v qq)=>Xd h k);generalize Qm pp qq=c at *
 have HP:=h_ (And.intro bp2 bq2);clear bp bq bp2 bq2;have hd:decide (65535<max x y-low)=false:=decide_eq_false (by omega);have hd2:IntKind.i64.wrap (max x y-low)=max x y-low:=IntWalk.i64_in _ (by omega);go_enter Tryz.func157,Tryz.ntmps157;have F0:=h_ (Fx.three w 42 #[.bool a.neg,.slice a1 k1 c1,.int .i64 a.e] 42 #[.bool b.neg,.slice a2 k2 c2,.int .i64 b.e] 42 #[.bool false,.slice none 0 0,.int .i64 0] rfl rfl rfl);have X0:=h_ (((ha.alloc (.cells #[.bool a.neg,.slice a1 k1 c1,.int .i64 a.e] 42)).alloc (.cells #[.bool b.neg,.slice a2 k2 c2,.int .i64 b.e] 42)).alloc (.cells #[.bool false,.slice none 0 0,.int .i64 0] 42));have Y0:=h_ (((hb.alloc (.cells #[.bool a.neg,.slice a1 k1 c1,.int .i64 a.e] 42)).alloc (.cells #[.bool b.neg,.slice a2 k2 c2,.int .i64 b.e] 42)).alloc (.cells #[.bool false,.slice none 0 0,.int .i64 0] 42));clear ha hb;go_wp2_with fail;generalize alloc (alloc (alloc _ _) _) _=w0 at F0 X0 Y0 |-;have c0_0:=F0.o.c3 0 rfl;have c1_0:=F0.o.c3 1 rfl;have c2_0:=F0.o.c3 2 rfl;refine(CA.o _ X0.o).mono ?_;rintro q w1 ⟨u,rfl,hu,hb⟩;have F1:=h_ (F0.o.call hb);have X1:=h_ (X0.o.below hb);have Y1:=h_ (Y0.o.below hb);have U1:=h_ (hu);have c0_1:=F1.o.c3 0 rfl;have c1_1:=F1.o.c3 1 rfl;have c2_1:=F1.o.c3 2 rfl;obtain⟨a3,k3,c3,rfl⟩:=U1.o.fm;go_wp2_with fail;obtain⟨f,p⟩:=F1.o.s3 0 rfl (.bool an) (.slice a3 k3 c3) (.int .i64 ae) rfl rfl rfl;generalize setCell _ _ _=W at f p |-;have F2:=h_ (f);have Y2:=h_ (Y1.o.kp p);have U2:=h_ (U1.o.kp p);have c0_2:=F2.o.c3 0 rfl;have c1_2:=F2.o.c3 1 rfl;have c2_2:=F2.o.c3 2 rfl;refine(CB.o _ Y2.o).mono ?_;rintro q w3 ⟨u,rfl,hu,hb⟩;have F3:=h_ (F2.o.call hb);have Y3:=h_ (Y2.o.below hb);have U3:=h_ (U2.o.below hb);have V3:=h_ (hu);have c0_3:=F3.o.c3 0 rfl;have c1_3:=F3.o.c3 1 rfl;have c2_3:=F3.o.c3 2 rfl;obtain⟨a4,k4,c4,rfl⟩:=V3.o.fm;have hk:=U3.o.dm.len0;have hk2:=V3.o.dm.len0;go_upto_region 7 with(fail)
 obtain⟨f,p⟩:=F3.o.s3 1 rfl (.bool bn) (.slice a4 k4 c4) (.int .i64 be) rfl rfl rfl;generalize setCell _ _ _=W at f p |-;have F4:=h_ (f);have U4:=h_ (U3.o.kp p);have V4:=h_ (V3.o.kp p);have c0_4:=F4.o.c3 0 rfl;have c1_4:=F4.o.c3 1 rfl;have c2_4:=F4.o.c3 2 rfl;by_cases h0:am=0
 .have HE:Qb (S=⟨bn,bm,be⟩):=HS.o.trans (if_pos h0);obtain rfl:k3=0:=hk.1 h0;clear hk hk2 h0;go_wp2;obtain⟨f0,p0⟩:=F4.o.s3 2 rfl (.bool bn) (.slice a4 k4 c4) (.int .i64 be) rfl rfl rfl;have p:=p0;have f:=f0;generalize setCell _ _ _=W at f p |-;have g2:=f.c3 2 rfl;refine bodyPost_ret (v:=.tuple #[.agg #[.bool bn,.slice a4 k4 c4,.int .i64 be],.int .i64 0]) (by simp[results,Tryz.results157,go_sem,g2]) rfl ?_;rw[HE.o];exact⟨_,rfl,V4.o.kp p,f.b⟩
 .have z1:((k3:Int)==0)=false:=by rw[beq_eq_false_iff_ne];intro h;exact h0 (hk.2 (by omega))
  by_cases h1:bm=0
  .have HE:Qb (S=⟨an,am,ae⟩):=HS.o.trans ((if_neg h0).trans (if_pos h1));obtain rfl:k4=0:=hk2.1 h1;clear hk hk2 h0 h1;go_wp2;obtain⟨f0,p0⟩:=F4.o.s3 2 rfl (.bool an) (.slice a3 k3 c3) (.int .i64 ae) rfl rfl rfl;have p:=p0;have f:=f0;generalize setCell _ _ _=W at f p |-;have g2:=f.c3 2 rfl;refine bodyPost_ret (v:=.tuple #[.agg #[.bool an,.slice a3 k3 c3,.int .i64 ae],.int .i64 0]) (by simp[results,Tryz.results157,go_sem,g2]) rfl ?_;rw[HE.o];exact⟨_,rfl,U4.o.kp p,f.b⟩
  .have z2:((k4:Int)==0)=false:=by rw[beq_eq_false_iff_ne];intro h;exact h1 (hk2.2 (by omega))
   have HS:=h_ (HS.o.trans ((if_neg h0).trans (if_neg h1)));clear hk hk2 h0 h1;go_wp2_with fail;refine(CT1.o _ _ U4.o).mono ?_;rintro q w5 ⟨rfl,hb⟩;have F5:=h_ (F4.o.call hb);have U5:=h_ (U4.o.below hb);have V5:=h_ (V4.o.below hb);have c0_5:=F5.o.c3 0 rfl;have c1_5:=F5.o.c3 1 rfl;have c2_5:=F5.o.c3 2 rfl;go_wp2_with fail;refine(CT2.o _ _ V5.o).mono ?_;rintro q w6 ⟨rfl,hb⟩;have F6:=h_ (F5.o.call hb);have U6:=h_ (U5.o.below hb);have V6:=h_ (V5.o.below hb);have c0_6:=F6.o.c3 0 rfl;have c1_6:=F6.o.c3 1 rfl;have c2_6:=F6.o.c3 2 rfl;go_wp2_with fail;clear hd hd2 hlow;have FC:=h_ (And.intro (F6.o.c3 0 rfl).1 ((F6.o.c3 1 rfl).1))
   go_region_held3 (fun w'=>(w'.cell? ⟨w.heap.size,0,none⟩=some (.bool an)/\w'.cell? ⟨w.heap.size,1,none⟩=some (.slice a3 k3 c3)/\w'.cell? ⟨w.heap.size,2,none⟩=some (.int .i64 ae))/\(w'.cell? ⟨w.heap.size+1,0,none⟩=some (.bool bn)/\w'.cell? ⟨w.heap.size+1,1,none⟩=some (.slice a4 k4 c4)/\w'.cell? ⟨w.heap.size+1,2,none⟩=some (.int .i64 be))) (first|exact FC.o) (first|(go_at_call 74;(with_reducible refine(W2.o _ _ V7.o.dm).mono ?_);rintro q ww8 ⟨u2,rfl,hu,hb⟩;have F8:=h_ (F7.o.call hb);have U8:=h_ (U7.o.below hb);have V8:=h_ (V7.o.below hb);have P8:=h_ (P7.o.below hb);have Q8:=h_ (hu);obtain⟨a6,k6,c6,rfl⟩:=Q8.o.form;have FC:=h_ (And.intro (F8.o.c3 0 rfl).1 ((F8.o.c3 1 rfl).1));have c0_8:=F8.o.c3 0 rfl;have c1_8:=F8.o.c3 1 rfl;have c2_8:=F8.o.c3 2 rfl)|(go_at_call 74;(with_reducible refine(W1.o _ _ (U6.o.drew).dm).mono ?_);rintro q ww7 ⟨u1,rfl,hu,hb⟩;have F7:=h_ ((F6.o.drew).call hb);have U7:=h_ ((U6.o.drew).below hb);have V7:=h_ ((V6.o.drew).below hb);have P7:=h_ (hu);obtain⟨a5,k5,c5,rfl⟩:=P7.o.form;have FC:=h_ (And.intro (F7.o.c3 0 rfl).1 ((F7.o.c3 1 rfl).1));have c0_7:=F7.o.c3 0 rfl;have c1_7:=F7.o.c3 1 rfl;have c2_7:=F7.o.c3 2 rfl))
   clear q1 q2 z1 z2;by_cases h2:an=bn
   .subst h2;have HE:=h_ (HS.o.trans (if_pos rfl));generalize hr:Qa ⟨an,pp+qq,low⟩=r at *
    obtain⟨rn,rm,re⟩:=r;have HRR:=h_ hr;clear hr HS;go_upto_region 18 with(fail)
    have FC:=h_ ((F8.o.c3 0 rfl).1)
    go_region_held3 (fun w'=>(w'.cell? ⟨w.heap.size,0,none⟩=some (.bool an)/\w'.cell? ⟨w.heap.size,1,none⟩=some (.slice a3 k3 c3)/\w'.cell? ⟨w.heap.size,2,none⟩=some (.int .i64 ae))) (first|exact FC.o|exact((F10.o.s3 2 rfl (.bool rn) (.slice a8 k8 c8) (.int .i64 re) rfl rfl rfl).1.c3 0 rfl).1) (first|(go_at_call 30;(with_reducible refine(K1.o _ _ (R9.o.rd BS.o)).mono ?_);rintro q ww10 ⟨u4,rfl,hu,hb⟩;have F10:=h_ (F9.o.call hb);have P10:=h_ (P9.o.below hb);have Q10:=h_ (Q9.o.below hb);have R10:=h_ (R9.o.below hb);have Z10:=h_ (hu);obtain⟨a8,k8,c8,rfl⟩:=Z10.o.fm;have FC:=h_ ((F10.o.c3 0 rfl).1);have c0_10:=F10.o.c3 0 rfl;have c1_10:=F10.o.c3 1 rfl;have c2_10:=F10.o.c3 2 rfl)|(go_at_call 123;(with_reducible refine(CAD.o _ _ _ (P8.o.drew) (Q8.o.drew)).mono ?_);rintro q ww9 ⟨u3,rfl,hu,hb⟩;have F9:=h_ ((F8.o.drew).call hb);have P9:=h_ ((P8.o.drew).below hb);have Q9:=h_ ((Q8.o.drew).below hb);have R9:=h_ (hu);obtain⟨a7,k7,c7,rfl⟩:=R9.o.form;have FC:=h_ ((F9.o.c3 0 rfl).1);have c0_9:=F9.o.c3 0 rfl;have c1_9:=F9.o.c3 1 rfl;have c2_9:=F9.o.c3 2 rfl))
    go_wp2;obtain⟨f0,p0⟩:=F10.o.s3 2 rfl (.bool rn) (.slice a8 k8 c8) (.int .i64 re) rfl rfl rfl;have p:=p0;have f:=f0;generalize setCell _ _ _=W at f p |-;have g2:=f.c3 2 rfl;refine bodyPost_ret (v:=.tuple #[.agg #[.bool rn,.slice a8 k8 c8,.int .i64 re],.int .i64 0]) (by simp[results,Tryz.results157,go_sem,g2]) rfl ?_;rw[HE.o];exact⟨_,rfl,Z10.o.kp p,f.b⟩
   .have HS:=h_ (HS.o.trans (if_neg h2));have z3:(an==bn)=false:=beq_eq_false_iff_ne.2 h2;clear h2;go_wp2_with fail;refine(CP.o _ _ _ P8.o Q8.o).mono ?_;rintro q w9 ⟨rfl,hb⟩;have F9:=h_ (F8.o.call hb);have P9:=h_ (P8.o.below hb);have Q9:=h_ (Q8.o.below hb);have c0_9:=F9.o.c3 0 rfl;have c1_9:=F9.o.c3 1 rfl;have c2_9:=F9.o.c3 2 rfl;by_cases h3:c<0
    .have HM:=h_ (CN.o.1 h3);have HE:=h_ (HS.o.trans (if_pos HM.o));have z4:decide (c<0)=true:=decide_eq_true h3;generalize hr:Qa ⟨bn,qq-pp,low⟩=r at *
     obtain⟨rn,rm,re⟩:=r;have HRR:=h_ hr;clear hr HS h3;go_upto_region 21 with(fail)
     obtain⟨f,p⟩:=F9.o.s3_0 0 rfl (.bool bn) rfl;generalize (setCell _ _ _)=W at f p |-;have F10:=h_ (f);have P10:=h_ (P9.o.kp p);have Q10:=h_ (Q9.o.kp p);have c0_10:=F10.o.c3 0 rfl;have c1_10:=F10.o.c3 1 rfl;have c2_10:=F10.o.c3 2 rfl;go_wp2_with fail;refine(CD2.o _ _ _ Q10.o P10.o).mono ?_;rintro q w11 ⟨u,rfl,hu,hb⟩;have F11:=h_ (F10.o.call hb);have P11:=h_ (P10.o.below hb);have Q11:=h_ (Q10.o.below hb);have R11:=h_ (hu);have c0_11:=F11.o.c3 0 rfl;have c1_11:=F11.o.c3 1 rfl;have c2_11:=F11.o.c3 2 rfl;obtain⟨a7,k7,c7,rfl⟩:=R11.o.form;go_wp2_with fail;refine(K3.o _ _ R11.o).mono ?_;rintro q w12 ⟨u,rfl,hu,hb⟩;have F12:=h_ (F11.o.call hb);have P12:=h_ (P11.o.below hb);have Q12:=h_ (Q11.o.below hb);have R12:=h_ (R11.o.below hb);have Z12:=h_ (hu);have c0_12:=F12.o.c3 0 rfl;have c1_12:=F12.o.c3 1 rfl;have c2_12:=F12.o.c3 2 rfl;obtain⟨a8,k8,c8,rfl⟩:=Z12.o.fm;go_wp2;obtain⟨f0,p0⟩:=F12.o.s3 2 rfl (.bool rn) (.slice a8 k8 c8) (.int .i64 re) rfl rfl rfl;have p:=p0;have f:=f0;generalize setCell _ _ _=W at f p |-;have g2:=f.c3 2 rfl;refine bodyPost_ret (v:=.tuple #[.agg #[.bool rn,.slice a8 k8 c8,.int .i64 re],.int .i64 0]) (by simp[results,Tryz.results157,go_sem,g2]) rfl ?_;rw[HE.o];exact⟨_,rfl,Z12.o.kp p,f.b⟩
    .have HM:=h_ (fun h=>h3 (CN.o.2 h));have HE:=h_ (HS.o.trans (if_neg HM.o));have z4:decide (c<0)=false:=decide_eq_false h3;generalize hr:Qa ⟨an,pp-qq,low⟩=r at *
     obtain⟨rn,rm,re⟩:=r;have HRR:=h_ hr;clear hr HS h3;go_wp2_with fail;refine(CD1.o _ _ _ P9.o Q9.o).mono ?_;rintro q w10 ⟨u,rfl,hu,hb⟩;have F10:=h_ (F9.o.call hb);have P10:=h_ (P9.o.below hb);have Q10:=h_ (Q9.o.below hb);have R10:=h_ (hu);have c0_10:=F10.o.c3 0 rfl;have c1_10:=F10.o.c3 1 rfl;have c2_10:=F10.o.c3 2 rfl;obtain⟨a7,k7,c7,rfl⟩:=R10.o.form;go_wp2_with fail;refine(K2.o _ _ R10.o).mono ?_;rintro q w11 ⟨u,rfl,hu,hb⟩;have F11:=h_ (F10.o.call hb);have P11:=h_ (P10.o.below hb);have Q11:=h_ (Q10.o.below hb);have R11:=h_ (R10.o.below hb);have Z11:=h_ (hu);have c0_11:=F11.o.c3 0 rfl;have c1_11:=F11.o.c3 1 rfl;have c2_11:=F11.o.c3 2 rfl;obtain⟨a8,k8,c8,rfl⟩:=Z11.o.fm;go_wp2;obtain⟨f0,p0⟩:=F11.o.s3 2 rfl (.bool rn) (.slice a8 k8 c8) (.int .i64 re) rfl rfl rfl;have p:=p0;have f:=f0;generalize setCell _ _ _=W at f p |-;have g2:=f.c3 2 rfl;refine bodyPost_ret (v:=.tuple #[.agg #[.bool rn,.slice a8 k8 c8,.int .i64 re],.int .i64 0]) (by simp[results,Tryz.results157,go_sem,g2]) rfl ?_;rw[HE.o];exact⟨_,rfl,Z11.o.kp p,f.b⟩
def Xa(d:Dn):Dn:=if(Qa d).m=0 then⟨false,0,0⟩else⟨!(Qa d).neg,(Qa d).m,(Qa d).e⟩
theorem Cy.mk{w:World}{n:Bool}{a:Option Addr}{k c:Nat}{m:Nat}{e:Int}(h:Dg w (.slice a k c) m)(hb:bl m<=255000)(he:-4611686018427387904<=e/\e<=4611686018427387904):Cy w (.agg #[.bool n,.slice a k c,.int .i64 e]) ⟨n,m,e⟩:=⟨_,rfl,h,hb,he⟩
theorem Po{w:World}{u:Value}{d:Dn}(hu:Ry w u d)(sd:Sd d):Calls Tryz.prog 39 #[u] w (Mb (Xa d) w):=by
 have CA:=h_ (fun w (h:Ry w u d)=>Te h);obtain⟨a1,k1,c1,rfl⟩:=hu.form;have bd:=sd.bare;have HM:Xa d=if(Qa d).m=0 then⟨false,0,0⟩else⟨!(Qa d).neg,(Qa d).m,(Qa d).e⟩:=rfl
 generalize Xa d=M at *
 generalize Qa d=D at *
 obtain⟨n,m,e⟩:=D;simp only at bd HM;have HM':=h_ HM;clear HM;have BD:=h_ bd;have CB:=h_ (fun w u (h:Cy w u ⟨!n,m,e⟩)=>(show Calls Tryz.prog 31 #[u] w (Um (Qa ⟨!n,m,e⟩) 0 w)from by
  have h1:=Lm h.ry;rw[Sf (Lh (d:=⟨!n,m,e⟩) ⟨by show bl m<=255000;omega,by show -500000<=e/\e<=500000;omega⟩)]at h1;exact h1))
 generalize Qa ⟨!n,m,e⟩=R at *
 obtain⟨rn,rm,re⟩:=R;clear bd;go_enter Tryz.func39,Tryz.ntmps39;have F0:=h_ (Fx.two w 42 #[.bool d.neg,.slice a1 k1 c1,.int .i64 d.e] 42 #[.bool false,.slice none 0 0,.int .i64 0] rfl rfl);have X0:=h_ ((hu.alloc (.cells #[.bool d.neg,.slice a1 k1 c1,.int .i64 d.e] 42)).alloc (.cells #[.bool false,.slice none 0 0,.int .i64 0] 42));clear hu;go_wp2_with fail;generalize alloc (alloc _ _) _=w0 at F0 X0 |-;have c0_0:=F0.o.c3 0 rfl;have c1_0:=F0.o.c3 1 rfl;refine(CA.o _ X0.o).mono ?_;rintro q w1 ⟨u,rfl,hu,hb⟩;have F1:=h_ (F0.o.call hb);have X1:=h_ (X0.o.below hb);have U1:=h_ (hu);have c0_1:=F1.o.c3 0 rfl;have c1_1:=F1.o.c3 1 rfl;obtain⟨a3,k3,c3,rfl⟩:=U1.o.fm;have hk:=U1.o.dm.len0;go_upto_region 2 with(fail)
 have F2:=h_ (F1.o.new 42 #[.bool n,.slice a3 k3 c3,.int .i64 e] rfl);have U2:=h_ (U1.o.alloc (.cells #[.bool n,.slice a3 k3 c3,.int .i64 e] 42));obtain⟨g1,hg1⟩:∃g,g=(World.heap w1).size:=⟨_,rfl⟩
 rw[<-hg1]at F2 |-;clear hg1;simp only[nil_append,cons_append]at F2;generalize alloc w1 _=W2 at F2 U2 |-;have c0_2:=F2.o.c3 0 rfl;have c1_2:=F2.o.c3 1 rfl;have c2_2:=F2.o.c3 2 rfl;by_cases h0:m=0
 .have HE:Qb (M=⟨false,0,0⟩):=HM'.o.trans (if_pos h0);obtain rfl:k3=0:=hk.1 h0;clear hk h0;go_wp2;obtain⟨f0,p0⟩:=F2.o.s3 1 rfl (.bool false) (.slice none 0 0) (.int .i64 0) rfl rfl rfl;have p:=p0;have f:=f0;generalize setCell _ _ _=W at f p |-;have g1:=f.c3 1 rfl;refine bodyPost_ret (v:=.agg #[.bool false,.slice none 0 0,.int .i64 0]) (by simp[results,Tryz.results39,go_sem,g1]) rfl ?_;rw[HE.o];exact⟨_,rfl,Cy.nil (U2.o.kp p).tab,f.b⟩
 .have HE:Qb (M=⟨!n,m,e⟩):=HM'.o.trans (if_neg h0);have z1:((k3:Int)==0)=false:=by rw[beq_eq_false_iff_ne];intro h;exact h0 (hk.2 (by omega))
  clear hk h0;go_upto_region 5 with(fail)
  obtain⟨f,p⟩:=F2.o.s3_0 2 rfl (.bool (!n)) rfl;generalize (setCell _ _ _)=W at f p |-;have F3:=h_ (f);have U3:=h_ (U2.o.kp p);simp only[set_cons_zero,set_cons_succ]at F3;have c0_3:=F3.o.c3 0 rfl;have c1_3:=F3.o.c3 1 rfl;have c2_3:=F3.o.c3 2 rfl;have Y3:Qb (Cy _ (.agg #[.bool (!n),.slice a3 k3 c3,.int .i64 e]) ⟨!n,m,e⟩):=Cy.mk U3.o.dm (by have:=BD.o;omega) (by have:=BD.o;omega);go_wp2_with fail;refine(CB.o _ _ Y3.o).mono ?_;rintro q w4 ⟨u,rfl,hu,hb⟩;have F4:=h_ (F3.o.call hb);have Y4:=h_ (Y3.o.below hb);have R4:=h_ (hu);have c0_4:=F4.o.c3 0 rfl;have c1_4:=F4.o.c3 1 rfl;have c2_4:=F4.o.c3 2 rfl;obtain⟨a4,k4,c4,rfl⟩:=R4.o.fm;go_upto_region 8 with(fail)
  have F5:=h_ (F4.o.new 42 #[.bool rn,.slice a4 k4 c4,.int .i64 re] rfl);have Y5:=h_ (Y4.o.alloc (.cells #[.bool rn,.slice a4 k4 c4,.int .i64 re] 42));have R5:=h_ (R4.o.alloc (.cells #[.bool rn,.slice a4 k4 c4,.int .i64 re] 42));obtain⟨g2,hg2⟩:∃g,g=(World.heap w4).size:=⟨_,rfl⟩
  rw[<-hg2]at F5 |-;clear hg2;simp only[nil_append,cons_append]at F5;generalize alloc w4 _=W5 at F5 Y5 R5 |-;have c0_5:=F5.o.c3 0 rfl;have c1_5:=F5.o.c3 1 rfl;have c2_5:=F5.o.c3 2 rfl;have c3_5:=F5.o.c3 3 rfl;go_wp2;obtain⟨f0,p0⟩:=F5.o.s3 1 rfl (.bool (!n)) (.slice a3 k3 c3) (.int .i64 e) rfl rfl rfl;have p:=p0;have f:=f0;generalize setCell _ _ _=W at f p |-;have g1:=f.c3 1 rfl;refine bodyPost_ret (v:=.agg #[.bool (!n),.slice a3 k3 c3,.int .i64 e]) (by simp[results,Tryz.results39,go_sem,g1]) rfl ?_;rw[HE.o];exact⟨_,rfl,Y5.o.kp p,f.b⟩
structure Fz(w0 w:World)(bs:List (Nat×TypeId×Array Value)):Prop where
 b:Below w0.heap.size w0 w
 box:∀(i g:Nat) t cs,bs[i]?=some (g,t,cs)->Qi w g t cs
 low:∀(i g:Nat) t cs,bs[i]?=some (g,t,cs)->w0.heap.size<=g
 asc:∀(i j g:Nat) t cs (g':Nat) t' cs',i<j->bs[i]?=some (g,t,cs)->bs[j]?=some (g',t',cs')->g<g'
theorem Fx.fz{w0 w:World}{bs:List (Nat×TypeId×Array Value)}(h:Fx w0 w bs):Fz w0 w bs:=⟨h.b,h.box,h.low,h.asc⟩
theorem Fz.nil(w:World):Fz w w []:=(Fx.nil w).fz
theorem Fz.new{w0 w:World}{bs:List (Nat×TypeId×Array Value)}(h:Fz w0 w bs)(t:TypeId)(cs:Array Value) :
  Fz w0 (w.alloc (.cells cs t)) (bs++[(w.heap.size,t,cs)]):=by
 refine⟨h.b.alloc h.b.size _,?_,?_,?_⟩
 .intro i g t' cs' hi;rcases Jz hi with hi|⟨rfl,hi⟩
  .exact(h.box i g t' cs' hi).alloc _
  .simp at hi;obtain⟨rfl,rfl,rfl⟩:=hi;exact Qi.new w _ _
 .intro i g t' cs' hi;rcases Jz hi with hi|⟨rfl,hi⟩
  .exact h.low i g t' cs' hi
  .simp at hi;obtain⟨rfl,rfl,rfl⟩:=hi;exact h.b.size
 .intro i j g t1 cs1 g' t' cs' hij hi hj;rcases Jz hj with hj|⟨rfl,hj⟩
  .rcases Jz hi with hi|⟨rfl,hi⟩
   .exact h.asc i j g t1 cs1 g' t' cs' hij hi hj
   .have:=(List.getElem?_eq_some_iff.1 hj).1;omega
  .simp at hj;obtain⟨rfl,rfl,rfl⟩:=hj;rcases Jz hi with hi|⟨rfl,hi⟩
   .exact(h.box i g t1 cs1 hi).lt
   .omega
theorem Fz.call{w0 w w':World}{bs:List (Nat×TypeId×Array Value)}(h:Fz w0 w bs)(hb:Below w.heap.size w w'):Fz w0 w' bs :=
 ⟨h.b.trans (hb.mono h.b.size),fun i g t cs hi=>(h.box i g t cs hi).below hb,h.low,h.asc⟩
theorem Fz.drewN{w0 w:World}{bs:List (Nat×TypeId×Array Value)}(h:Fz w0 w bs)(n:Nat):Fz w0 (w.drewN n) bs:=⟨Qw h.b n,h.box,h.low,h.asc⟩
theorem Fz.drew{w0 w:World}{bs:List (Nat×TypeId×Array Value)}(h:Fz w0 w bs):Fz w0 w.drew bs:=h.drewN 1
theorem Fz.one(w:World)(t:TypeId)(cs:Array Value):Fz w (w.alloc (.cells cs t)) [(w.heap.size,t,cs)]:=(Fz.nil w).new t cs
theorem Fz.two(w:World)(t:TypeId)(cs:Array Value)(t':TypeId)(cs':Array Value):Fz w ((w.alloc (.cells cs t)).alloc (.cells cs' t')) [(w.heap.size,t,cs),(w.heap.size+1,t',cs')]:=by have:=((Fz.nil w).new t cs).new t' cs';simpa using this
theorem Fz.three(w:World)(t:TypeId)(cs:Array Value)(t':TypeId)(cs':Array Value)(t'':TypeId)(cs'':Array Value) :
  Fz w (((w.alloc (.cells cs t)).alloc (.cells cs' t')).alloc (.cells cs'' t'')) [(w.heap.size,t,cs),(w.heap.size+1,t',cs'),(w.heap.size+1+1,t'',cs'')]:=by
 have:=(((Fz.nil w).new t cs).new t' cs').new t'' cs'';simpa using this
theorem Fz.four(w:World)(t:TypeId)(cs:Array Value)(t':TypeId)(cs':Array Value)(t'':TypeId)(cs'':Array Value)(t3:TypeId)(cs3:Array Value) :
  Fz w ((((w.alloc (.cells cs t)).alloc (.cells cs' t')).alloc (.cells cs'' t'')).alloc (.cells cs3 t3)) [(w.heap.size,t,cs),(w.heap.size+1,t',cs'),(w.heap.size+1+1,t'',cs''),(w.heap.size+1+1+1,t3,cs3)]:=by
 have:=((((Fz.nil w).new t cs).new t' cs').new t'' cs'').new t3 cs3;simpa using this
theorem Fz.set{w0 w:World}{bs:List (Nat×TypeId×Array Value)}(h:Fz w0 w bs)(i j:Nat){g:Nat}{t:TypeId}{cs:Array Value}(hi:bs[i]?=some (g,t,cs))(u:Value) :
  Fz w0 (w.setCell ⟨g,j,none⟩ u) (bs.set i (g,t,cs.setIfInBounds j u)):=by
 have hl:=(List.getElem?_eq_some_iff.1 hi).1;have key:∀(k g':Nat) t' cs',(bs.set i (g,t,cs.setIfInBounds j u))[k]?=some (g',t',cs')->k=i/\g'=g/\t'=t/\cs'=cs.setIfInBounds j u\/k≠i/\bs[k]?=some (g',t',cs'):=by
  intro k g' t' cs' hk;by_cases hki:k=i
  .subst hki;rw[List.getElem?_set_self hl]at hk;simp at hk;obtain⟨rfl,rfl,rfl⟩:=hk;exact .inl ⟨rfl,rfl,rfl,rfl⟩
  .rw[List.getElem?_set_ne (Ne.symm hki)]at hk;exact .inr ⟨hki,hk⟩
 refine⟨h.b.setCell (h.low i g t cs hi) _,?_,?_,?_⟩
 .intro k g' t' cs' hk;rcases key k g' t' cs' hk with⟨rfl,rfl,rfl,rfl⟩|⟨hki,hk⟩
  .exact(h.box k _ _ cs hi).set j u
  .refine(h.box k g' t' cs' hk).far ?_ u;rcases Nat.lt_or_gt_of_ne hki with hlt|hgt
   .have:=h.asc k i g' t' cs' g t cs hlt hk hi;simp;omega
   .have:=h.asc i k g t cs g' t' cs' hgt hi hk;simp;omega
 .intro k g' t' cs' hk;rcases key k g' t' cs' hk with⟨rfl,rfl,rfl,rfl⟩|⟨hki,hk⟩
  .exact h.low k _ _ cs hi
  .exact h.low k g' t' cs' hk
 .intro a c g1 t1 cs1 g2 t2 cs2 hac ha hc;have e1:∃t3 cs3,bs[a]?=some (g1,t3,cs3):=by
   rcases key a g1 t1 cs1 ha with⟨rfl,rfl,rfl,rfl⟩|⟨_,hk⟩
   .exact⟨_,_,hi⟩
   .exact⟨_,_,hk⟩
  have e2:∃t3 cs3,bs[c]?=some (g2,t3,cs3):=by
   rcases key c g2 t2 cs2 hc with⟨rfl,rfl,rfl,rfl⟩|⟨_,hk⟩
   .exact⟨_,_,hi⟩
   .exact⟨_,_,hk⟩
  obtain⟨_,_,e1⟩:=e1;obtain⟨_,_,e2⟩:=e2;exact h.asc a c _ _ _ _ _ _ hac e1 e2
theorem Fz.s2{w0 w:World}{bs:List (Nat×TypeId×Array Value)}(h:Fz w0 w bs)(i:Nat){g:Nat}{t:TypeId}{x0 x1:Value}(hi:bs[i]?=some (g,t,#[x0,x1]))(y0 y1:Value) :
  Fz w0 ((w.setCell ⟨g,0,none⟩ y0).setCell ⟨g,1,none⟩ y1) (bs.set i (g,t,#[y0,y1])):=by
 have hl:=(List.getElem?_eq_some_iff.1 hi).1;have q0:=h.set i 0 hi y0;have hi0:(bs.set i (g,t,#[y0,x1]))[i]?=some (g,t,#[y0,x1]):=List.getElem?_set_self hl;have r0:Fz w0 _ (bs.set i (g,t,#[y0,x1])):=q0;have q1:=r0.set i 1 hi0 y1;rw[List.set_set]at q1;exact q1
theorem Fz.s3{w0 w:World}{bs:List (Nat×TypeId×Array Value)}(h:Fz w0 w bs)(i:Nat){g:Nat}{t:TypeId}{x0 x1 x2:Value}(hi:bs[i]?=some (g,t,#[x0,x1,x2]))(y0 y1 y2:Value) :
  Fz w0 (((w.setCell ⟨g,0,none⟩ y0).setCell ⟨g,1,none⟩ y1).setCell ⟨g,2,none⟩ y2) (bs.set i (g,t,#[y0,y1,y2])):=by
 have hl:=(List.getElem?_eq_some_iff.1 hi).1;have q0:=h.set i 0 hi y0;have hi0:(bs.set i (g,t,#[y0,x1,x2]))[i]?=some (g,t,#[y0,x1,x2]):=List.getElem?_set_self hl;have r0:Fz w0 _ (bs.set i (g,t,#[y0,x1,x2])):=q0;have q1:=r0.set i 1 hi0 y1;rw[List.set_set]at q1;have hi1:(bs.set i (g,t,#[y0,y1,x2]))[i]?=some (g,t,#[y0,y1,x2]):=List.getElem?_set_self hl;have r1:Fz w0 _ (bs.set i (g,t,#[y0,y1,x2])):=q1;have q2:=r1.set i 2 hi1 y2;rw[List.set_set]at q2;exact q2
theorem Fz.s4{w0 w:World}{bs:List (Nat×TypeId×Array Value)}(h:Fz w0 w bs)(i:Nat){g:Nat}{t:TypeId}{x0 x1 x2 x3:Value}(hi:bs[i]?=some (g,t,#[x0,x1,x2,x3]))(y0 y1 y2 y3:Value) :
  Fz w0 ((((w.setCell ⟨g,0,none⟩ y0).setCell ⟨g,1,none⟩ y1).setCell ⟨g,2,none⟩ y2).setCell ⟨g,3,none⟩ y3) (bs.set i (g,t,#[y0,y1,y2,y3])):=by
 have hl:=(List.getElem?_eq_some_iff.1 hi).1;have q0:=h.set i 0 hi y0;have hi0:(bs.set i (g,t,#[y0,x1,x2,x3]))[i]?=some (g,t,#[y0,x1,x2,x3]):=List.getElem?_set_self hl;have r0:Fz w0 _ (bs.set i (g,t,#[y0,x1,x2,x3])):=q0;have q1:=r0.set i 1 hi0 y1;rw[List.set_set]at q1;have hi1:(bs.set i (g,t,#[y0,y1,x2,x3]))[i]?=some (g,t,#[y0,y1,x2,x3]):=List.getElem?_set_self hl;have r1:Fz w0 _ (bs.set i (g,t,#[y0,y1,x2,x3])):=q1;have q2:=r1.set i 2 hi1 y2;rw[List.set_set]at q2;have hi2:(bs.set i (g,t,#[y0,y1,y2,x3]))[i]?=some (g,t,#[y0,y1,y2,x3]):=List.getElem?_set_self hl;have r2:Fz w0 _ (bs.set i (g,t,#[y0,y1,y2,x3])):=q2;have q3:=r2.set i 3 hi2 y3;rw[List.set_set]at q3;exact q3
theorem Fz.s11{w0 w:World}{bs:List (Nat×TypeId×Array Value)}(h:Fz w0 w bs)(i:Nat){g:Nat}{t:TypeId}{x0 x1 x2 x3 x4 x5 x6 x7 x8 x9 x10:Value}(hi:bs[i]?=some (g,t,#[x0,x1,x2,x3,x4,x5,x6,x7,x8,x9,x10]))(y0 y1 y2 y3 y4 y5 y6 y7 y8 y9 y10:Value) :
  Fz w0 (((((((((((w.setCell ⟨g,0,none⟩ y0).setCell ⟨g,1,none⟩ y1).setCell ⟨g,2,none⟩ y2).setCell ⟨g,3,none⟩ y3).setCell ⟨g,4,none⟩ y4).setCell ⟨g,5,none⟩ y5).setCell ⟨g,6,none⟩ y6).setCell ⟨g,7,none⟩ y7).setCell ⟨g,8,none⟩ y8).setCell ⟨g,9,none⟩ y9).setCell ⟨g,10,none⟩ y10) (bs.set i (g,t,#[y0,y1,y2,y3,y4,y5,y6,y7,y8,y9,y10])):=by
 have hl:=(List.getElem?_eq_some_iff.1 hi).1;have q0:=h.set i 0 hi y0;have hi0:(bs.set i (g,t,#[y0,x1,x2,x3,x4,x5,x6,x7,x8,x9,x10]))[i]?=some (g,t,#[y0,x1,x2,x3,x4,x5,x6,x7,x8,x9,x10]):=List.getElem?_set_self hl;have r0:Fz w0 _ (bs.set i (g,t,#[y0,x1,x2,x3,x4,x5,x6,x7,x8,x9,x10])):=q0;have q1:=r0.set i 1 hi0 y1;rw[List.set_set]at q1;have hi1:(bs.set i (g,t,#[y0,y1,x2,x3,x4,x5,x6,x7,x8,x9,x10]))[i]?=some (g,t,#[y0,y1,x2,x3,x4,x5,x6,x7,x8,x9,x10]):=List.getElem?_set_self hl;have r1:Fz w0 _ (bs.set i (g,t,#[y0,y1,x2,x3,x4,x5,x6,x7,x8,x9,x10])):=q1;have q2:=r1.set i 2 hi1 y2;rw[List.set_set]at q2;have hi2:(bs.set i (g,t,#[y0,y1,y2,x3,x4,x5,x6,x7,x8,x9,x10]))[i]?=some (g,t,#[y0,y1,y2,x3,x4,x5,x6,x7,x8,x9,x10]):=List.getElem?_set_self hl;have r2:Fz w0 _ (bs.set i (g,t,#[y0,y1,y2,x3,x4,x5,x6,x7,x8,x9,x10])):=q2;have q3:=r2.set i 3 hi2 y3;rw[List.set_set]at q3;have hi3:(bs.set i (g,t,#[y0,y1,y2,y3,x4,x5,x6,x7,x8,x9,x10]))[i]?=some (g,t,#[y0,y1,y2,y3,x4,x5,x6,x7,x8,x9,x10]):=List.getElem?_set_self hl;have r3:Fz w0 _ (bs.set i (g,t,#[y0,y1,y2,y3,x4,x5,x6,x7,x8,x9,x10])):=q3;have q4:=r3.set i 4 hi3 y4;rw[List.set_set]at q4;have hi4:(bs.set i (g,t,#[y0,y1,y2,y3,y4,x5,x6,x7,x8,x9,x10]))[i]?=some (g,t,#[y0,y1,y2,y3,y4,x5,x6,x7,x8,x9,x10]):=List.getElem?_set_self hl;have r4:Fz w0 _ (bs.set i (g,t,#[y0,y1,y2,y3,y4,x5,x6,x7,x8,x9,x10])):=q4;have q5:=r4.set i 5 hi4 y5;rw[List.set_set]at q5;have hi5:(bs.set i (g,t,#[y0,y1,y2,y3,y4,y5,x6,x7,x8,x9,x10]))[i]?=some (g,t,#[y0,y1,y2,y3,y4,y5,x6,x7,x8,x9,x10]):=List.getElem?_set_self hl;have r5:Fz w0 _ (bs.set i (g,t,#[y0,y1,y2,y3,y4,y5,x6,x7,x8,x9,x10])):=q5;have q6:=r5.set i 6 hi5 y6;rw[List.set_set]at q6;have hi6:(bs.set i (g,t,#[y0,y1,y2,y3,y4,y5,y6,x7,x8,x9,x10]))[i]?=some (g,t,#[y0,y1,y2,y3,y4,y5,y6,x7,x8,x9,x10]):=List.getElem?_set_self hl;have r6:Fz w0 _ (bs.set i (g,t,#[y0,y1,y2,y3,y4,y5,y6,x7,x8,x9,x10])):=q6;have q7:=r6.set i 7 hi6 y7;rw[List.set_set]at q7;have hi7:(bs.set i (g,t,#[y0,y1,y2,y3,y4,y5,y6,y7,x8,x9,x10]))[i]?=some (g,t,#[y0,y1,y2,y3,y4,y5,y6,y7,x8,x9,x10]):=List.getElem?_set_self hl;have r7:Fz w0 _ (bs.set i (g,t,#[y0,y1,y2,y3,y4,y5,y6,y7,x8,x9,x10])):=q7;have q8:=r7.set i 8 hi7 y8;rw[List.set_set]at q8;have hi8:(bs.set i (g,t,#[y0,y1,y2,y3,y4,y5,y6,y7,y8,x9,x10]))[i]?=some (g,t,#[y0,y1,y2,y3,y4,y5,y6,y7,y8,x9,x10]):=List.getElem?_set_self hl;have r8:Fz w0 _ (bs.set i (g,t,#[y0,y1,y2,y3,y4,y5,y6,y7,y8,x9,x10])):=q8;have q9:=r8.set i 9 hi8 y9;rw[List.set_set]at q9;have hi9:(bs.set i (g,t,#[y0,y1,y2,y3,y4,y5,y6,y7,y8,y9,x10]))[i]?=some (g,t,#[y0,y1,y2,y3,y4,y5,y6,y7,y8,y9,x10]):=List.getElem?_set_self hl;have r9:Fz w0 _ (bs.set i (g,t,#[y0,y1,y2,y3,y4,y5,y6,y7,y8,y9,x10])):=q9;have q10:=r9.set i 10 hi9 y10;rw[List.set_set]at q10;exact q10
theorem Fz.s6{w0 w:World}{bs:List (Nat×TypeId×Array Value)}(h:Fz w0 w bs)(i:Nat){g:Nat}{t:TypeId}{x0 x1 x2 x3 x4 x5:Value}(hi:bs[i]?=some (g,t,#[x0,x1,x2,x3,x4,x5]))(y0 y1 y2 y3 y4 y5:Value) :
  Fz w0 ((((((w.setCell ⟨g,0,none⟩ y0).setCell ⟨g,1,none⟩ y1).setCell ⟨g,2,none⟩ y2).setCell ⟨g,3,none⟩ y3).setCell ⟨g,4,none⟩ y4).setCell ⟨g,5,none⟩ y5) (bs.set i (g,t,#[y0,y1,y2,y3,y4,y5])):=by
 have hl:=(List.getElem?_eq_some_iff.1 hi).1;have q0:=h.set i 0 hi y0;have hi0:(bs.set i (g,t,#[y0,x1,x2,x3,x4,x5]))[i]?=some (g,t,#[y0,x1,x2,x3,x4,x5]):=List.getElem?_set_self hl;have r0:Fz w0 _ (bs.set i (g,t,#[y0,x1,x2,x3,x4,x5])):=q0;have q1:=r0.set i 1 hi0 y1;rw[List.set_set]at q1;have hi1:(bs.set i (g,t,#[y0,y1,x2,x3,x4,x5]))[i]?=some (g,t,#[y0,y1,x2,x3,x4,x5]):=List.getElem?_set_self hl;have r1:Fz w0 _ (bs.set i (g,t,#[y0,y1,x2,x3,x4,x5])):=q1;have q2:=r1.set i 2 hi1 y2;rw[List.set_set]at q2;have hi2:(bs.set i (g,t,#[y0,y1,y2,x3,x4,x5]))[i]?=some (g,t,#[y0,y1,y2,x3,x4,x5]):=List.getElem?_set_self hl;have r2:Fz w0 _ (bs.set i (g,t,#[y0,y1,y2,x3,x4,x5])):=q2;have q3:=r2.set i 3 hi2 y3;rw[List.set_set]at q3;have hi3:(bs.set i (g,t,#[y0,y1,y2,y3,x4,x5]))[i]?=some (g,t,#[y0,y1,y2,y3,x4,x5]):=List.getElem?_set_self hl;have r3:Fz w0 _ (bs.set i (g,t,#[y0,y1,y2,y3,x4,x5])):=q3;have q4:=r3.set i 4 hi3 y4;rw[List.set_set]at q4;have hi4:(bs.set i (g,t,#[y0,y1,y2,y3,y4,x5]))[i]?=some (g,t,#[y0,y1,y2,y3,y4,x5]):=List.getElem?_set_self hl;have r4:Fz w0 _ (bs.set i (g,t,#[y0,y1,y2,y3,y4,x5])):=q4;have q5:=r4.set i 5 hi4 y5;rw[List.set_set]at q5;exact q5
theorem Fz.s9{w0 w:World}{bs:List (Nat×TypeId×Array Value)}(h:Fz w0 w bs)(i:Nat){g:Nat}{t:TypeId}{x0 x1 x2 x3 x4 x5 x6 x7 x8:Value}(hi:bs[i]?=some (g,t,#[x0,x1,x2,x3,x4,x5,x6,x7,x8]))(y0 y1 y2 y3 y4 y5 y6 y7 y8:Value) :
  Fz w0 (((((((((w.setCell ⟨g,0,none⟩ y0).setCell ⟨g,1,none⟩ y1).setCell ⟨g,2,none⟩ y2).setCell ⟨g,3,none⟩ y3).setCell ⟨g,4,none⟩ y4).setCell ⟨g,5,none⟩ y5).setCell ⟨g,6,none⟩ y6).setCell ⟨g,7,none⟩ y7).setCell ⟨g,8,none⟩ y8) (bs.set i (g,t,#[y0,y1,y2,y3,y4,y5,y6,y7,y8])):=by
 have hl:=(List.getElem?_eq_some_iff.1 hi).1;have q0:=h.set i 0 hi y0;have hi0:(bs.set i (g,t,#[y0,x1,x2,x3,x4,x5,x6,x7,x8]))[i]?=some (g,t,#[y0,x1,x2,x3,x4,x5,x6,x7,x8]):=List.getElem?_set_self hl;have r0:Fz w0 _ (bs.set i (g,t,#[y0,x1,x2,x3,x4,x5,x6,x7,x8])):=q0;have q1:=r0.set i 1 hi0 y1;rw[List.set_set]at q1;have hi1:(bs.set i (g,t,#[y0,y1,x2,x3,x4,x5,x6,x7,x8]))[i]?=some (g,t,#[y0,y1,x2,x3,x4,x5,x6,x7,x8]):=List.getElem?_set_self hl;have r1:Fz w0 _ (bs.set i (g,t,#[y0,y1,x2,x3,x4,x5,x6,x7,x8])):=q1;have q2:=r1.set i 2 hi1 y2;rw[List.set_set]at q2;have hi2:(bs.set i (g,t,#[y0,y1,y2,x3,x4,x5,x6,x7,x8]))[i]?=some (g,t,#[y0,y1,y2,x3,x4,x5,x6,x7,x8]):=List.getElem?_set_self hl;have r2:Fz w0 _ (bs.set i (g,t,#[y0,y1,y2,x3,x4,x5,x6,x7,x8])):=q2;have q3:=r2.set i 3 hi2 y3;rw[List.set_set]at q3;have hi3:(bs.set i (g,t,#[y0,y1,y2,y3,x4,x5,x6,x7,x8]))[i]?=some (g,t,#[y0,y1,y2,y3,x4,x5,x6,x7,x8]):=List.getElem?_set_self hl;have r3:Fz w0 _ (bs.set i (g,t,#[y0,y1,y2,y3,x4,x5,x6,x7,x8])):=q3;have q4:=r3.set i 4 hi3 y4;rw[List.set_set]at q4;have hi4:(bs.set i (g,t,#[y0,y1,y2,y3,y4,x5,x6,x7,x8]))[i]?=some (g,t,#[y0,y1,y2,y3,y4,x5,x6,x7,x8]):=List.getElem?_set_self hl;have r4:Fz w0 _ (bs.set i (g,t,#[y0,y1,y2,y3,y4,x5,x6,x7,x8])):=q4;have q5:=r4.set i 5 hi4 y5;rw[List.set_set]at q5;have hi5:(bs.set i (g,t,#[y0,y1,y2,y3,y4,y5,x6,x7,x8]))[i]?=some (g,t,#[y0,y1,y2,y3,y4,y5,x6,x7,x8]):=List.getElem?_set_self hl;have r5:Fz w0 _ (bs.set i (g,t,#[y0,y1,y2,y3,y4,y5,x6,x7,x8])):=q5;have q6:=r5.set i 6 hi5 y6;rw[List.set_set]at q6;have hi6:(bs.set i (g,t,#[y0,y1,y2,y3,y4,y5,y6,x7,x8]))[i]?=some (g,t,#[y0,y1,y2,y3,y4,y5,y6,x7,x8]):=List.getElem?_set_self hl;have r6:Fz w0 _ (bs.set i (g,t,#[y0,y1,y2,y3,y4,y5,y6,x7,x8])):=q6;have q7:=r6.set i 7 hi6 y7;rw[List.set_set]at q7;have hi7:(bs.set i (g,t,#[y0,y1,y2,y3,y4,y5,y6,y7,x8]))[i]?=some (g,t,#[y0,y1,y2,y3,y4,y5,y6,y7,x8]):=List.getElem?_set_self hl;have r7:Fz w0 _ (bs.set i (g,t,#[y0,y1,y2,y3,y4,y5,y6,y7,x8])):=q7;have q8:=r7.set i 8 hi7 y8;rw[List.set_set]at q8;exact q8
theorem Fz.c1{w0 w:World}{bs:List (Nat×TypeId×Array Value)}(h:Fz w0 w bs)(i:Nat){g:Nat}{t:TypeId}{x0:Value}(hi:bs[i]?=some (g,t,#[x0])) :
  (w.cell? ⟨g,0,none⟩=some x0)/\w.frozen? ⟨g,0,none⟩=false:=by
 have k:=h.box i _ _ _ hi;exact⟨k.at 0 x0 rfl,k.frozen 0⟩
theorem Fz.c2{w0 w:World}{bs:List (Nat×TypeId×Array Value)}(h:Fz w0 w bs)(i:Nat){g:Nat}{t:TypeId}{x0 x1:Value}(hi:bs[i]?=some (g,t,#[x0,x1])) :
  (w.cell? ⟨g,0,none⟩=some x0/\w.cell? ⟨g,1,none⟩=some x1)/\w.frozen? ⟨g,0,none⟩=false/\w.frozen? ⟨g,1,none⟩=false:=by
 have k:=h.box i _ _ _ hi;exact⟨⟨k.at 0 x0 rfl,k.at 1 x1 rfl⟩,k.frozen 0,k.frozen 1⟩
theorem Fz.c3{w0 w:World}{bs:List (Nat×TypeId×Array Value)}(h:Fz w0 w bs)(i:Nat){g:Nat}{t:TypeId}{x0 x1 x2:Value}(hi:bs[i]?=some (g,t,#[x0,x1,x2])) :
  (w.cell? ⟨g,0,none⟩=some x0/\w.cell? ⟨g,1,none⟩=some x1/\w.cell? ⟨g,2,none⟩=some x2)/\w.frozen? ⟨g,0,none⟩=false/\w.frozen? ⟨g,1,none⟩=false/\w.frozen? ⟨g,2,none⟩=false:=by
 have k:=h.box i _ _ _ hi;exact⟨⟨k.at 0 x0 rfl,k.at 1 x1 rfl,k.at 2 x2 rfl⟩,k.frozen 0,k.frozen 1,k.frozen 2⟩
theorem Fz.c4{w0 w:World}{bs:List (Nat×TypeId×Array Value)}(h:Fz w0 w bs)(i:Nat){g:Nat}{t:TypeId}{x0 x1 x2 x3:Value}(hi:bs[i]?=some (g,t,#[x0,x1,x2,x3])) :
  (w.cell? ⟨g,0,none⟩=some x0/\w.cell? ⟨g,1,none⟩=some x1/\w.cell? ⟨g,2,none⟩=some x2/\w.cell? ⟨g,3,none⟩=some x3)/\w.frozen? ⟨g,0,none⟩=false/\w.frozen? ⟨g,1,none⟩=false/\w.frozen? ⟨g,2,none⟩=false/\w.frozen? ⟨g,3,none⟩=false:=by
 have k:=h.box i _ _ _ hi;exact⟨⟨k.at 0 x0 rfl,k.at 1 x1 rfl,k.at 2 x2 rfl,k.at 3 x3 rfl⟩,k.frozen 0,k.frozen 1,k.frozen 2,k.frozen 3⟩
theorem Fz.c6{w0 w:World}{bs:List (Nat×TypeId×Array Value)}(h:Fz w0 w bs)(i:Nat){g:Nat}{t:TypeId}{x0 x1 x2 x3 x4 x5:Value}(hi:bs[i]?=some (g,t,#[x0,x1,x2,x3,x4,x5])) :
  (w.cell? ⟨g,0,none⟩=some x0/\w.cell? ⟨g,1,none⟩=some x1/\w.cell? ⟨g,2,none⟩=some x2/\w.cell? ⟨g,3,none⟩=some x3/\w.cell? ⟨g,4,none⟩=some x4/\w.cell? ⟨g,5,none⟩=some x5)/\w.frozen? ⟨g,0,none⟩=false/\w.frozen? ⟨g,1,none⟩=false/\w.frozen? ⟨g,2,none⟩=false/\w.frozen? ⟨g,3,none⟩=false/\w.frozen? ⟨g,4,none⟩=false/\w.frozen? ⟨g,5,none⟩=false:=by
 have k:=h.box i _ _ _ hi;exact⟨⟨k.at 0 x0 rfl,k.at 1 x1 rfl,k.at 2 x2 rfl,k.at 3 x3 rfl,k.at 4 x4 rfl,k.at 5 x5 rfl⟩,k.frozen 0,k.frozen 1,k.frozen 2,k.frozen 3,k.frozen 4,k.frozen 5⟩
theorem Fz.c9{w0 w:World}{bs:List (Nat×TypeId×Array Value)}(h:Fz w0 w bs)(i:Nat){g:Nat}{t:TypeId}{x0 x1 x2 x3 x4 x5 x6 x7 x8:Value}(hi:bs[i]?=some (g,t,#[x0,x1,x2,x3,x4,x5,x6,x7,x8])) :
  (w.cell? ⟨g,0,none⟩=some x0/\w.cell? ⟨g,1,none⟩=some x1/\w.cell? ⟨g,2,none⟩=some x2/\w.cell? ⟨g,3,none⟩=some x3/\w.cell? ⟨g,4,none⟩=some x4/\w.cell? ⟨g,5,none⟩=some x5/\w.cell? ⟨g,6,none⟩=some x6/\w.cell? ⟨g,7,none⟩=some x7/\w.cell? ⟨g,8,none⟩=some x8)/\w.frozen? ⟨g,0,none⟩=false/\w.frozen? ⟨g,1,none⟩=false/\w.frozen? ⟨g,2,none⟩=false/\w.frozen? ⟨g,3,none⟩=false/\w.frozen? ⟨g,4,none⟩=false/\w.frozen? ⟨g,5,none⟩=false/\w.frozen? ⟨g,6,none⟩=false/\w.frozen? ⟨g,7,none⟩=false/\w.frozen? ⟨g,8,none⟩=false:=by
 have k:=h.box i _ _ _ hi;exact⟨⟨k.at 0 x0 rfl,k.at 1 x1 rfl,k.at 2 x2 rfl,k.at 3 x3 rfl,k.at 4 x4 rfl,k.at 5 x5 rfl,k.at 6 x6 rfl,k.at 7 x7 rfl,k.at 8 x8 rfl⟩,k.frozen 0,k.frozen 1,k.frozen 2,k.frozen 3,k.frozen 4,k.frozen 5,k.frozen 6,k.frozen 7,k.frozen 8⟩
theorem Fz.c11{w0 w:World}{bs:List (Nat×TypeId×Array Value)}(h:Fz w0 w bs)(i:Nat){g:Nat}{t:TypeId}{x0 x1 x2 x3 x4 x5 x6 x7 x8 x9 x10:Value}(hi:bs[i]?=some (g,t,#[x0,x1,x2,x3,x4,x5,x6,x7,x8,x9,x10])) :
  (w.cell? ⟨g,0,none⟩=some x0/\w.cell? ⟨g,1,none⟩=some x1/\w.cell? ⟨g,2,none⟩=some x2/\w.cell? ⟨g,3,none⟩=some x3/\w.cell? ⟨g,4,none⟩=some x4/\w.cell? ⟨g,5,none⟩=some x5/\w.cell? ⟨g,6,none⟩=some x6/\w.cell? ⟨g,7,none⟩=some x7/\w.cell? ⟨g,8,none⟩=some x8/\w.cell? ⟨g,9,none⟩=some x9/\w.cell? ⟨g,10,none⟩=some x10)/\w.frozen? ⟨g,0,none⟩=false/\w.frozen? ⟨g,1,none⟩=false/\w.frozen? ⟨g,2,none⟩=false/\w.frozen? ⟨g,3,none⟩=false/\w.frozen? ⟨g,4,none⟩=false/\w.frozen? ⟨g,5,none⟩=false/\w.frozen? ⟨g,6,none⟩=false/\w.frozen? ⟨g,7,none⟩=false/\w.frozen? ⟨g,8,none⟩=false/\w.frozen? ⟨g,9,none⟩=false/\w.frozen? ⟨g,10,none⟩=false:=by
 have k:=h.box i _ _ _ hi;exact⟨⟨k.at 0 x0 rfl,k.at 1 x1 rfl,k.at 2 x2 rfl,k.at 3 x3 rfl,k.at 4 x4 rfl,k.at 5 x5 rfl,k.at 6 x6 rfl,k.at 7 x7 rfl,k.at 8 x8 rfl,k.at 9 x9 rfl,k.at 10 x10 rfl⟩,k.frozen 0,k.frozen 1,k.frozen 2,k.frozen 3,k.frozen 4,k.frozen 5,k.frozen 6,k.frozen 7,k.frozen 8,k.frozen 9,k.frozen 10⟩
def Oq:Value->Bool
 | .int .u8 z=>z==0
 | .int .u64 z=>z==0
 | _=>true
theorem Qjv{cs:Array Value}(h:cs.toList.all Oq=true){k:Nat}{x:Value}(hx:cs[k]?=some x):Oq x=true:=by rw[List.all_eq_true]at h;apply h;rw[<-Array.getElem?_toList]at hx;exact List.mem_of_getElem? hx
theorem Dg.setz{w0 w w':World}{v:Value}{n:Nat}(h:Dg w v n){g:Nat}{t:TypeId}{cs:Array Value}(t0:Qq w0)(hb:Below w0.heap.size w0 w')(hg:Qi w g t cs)(hz:cs.toList.all Oq=true)
  (hk:∀k,k<w.heap.size->k≠g->w'.heap[k]?=w.heap[k]?):Dg w' v n:=by
 obtain⟨L,hr,hc⟩:=h;refine⟨L,⟨t0.below hb,?_,hr.digs,hr.cap⟩,hc⟩;obtain⟨a,c,rfl,hcell⟩:=hr.sl;refine⟨a,c,rfl,fun hl=>?_⟩;obtain⟨b,off,rfl,hc2⟩:=hcell hl;refine⟨b,off,rfl,fun i y hy=>?_⟩;have h1:=hc2 i y hy;by_cases hbg:b=g
 .subst hbg;exfalso;rw[Zo]at hl;have hn0:n≠0:=by rintro rfl;rw[hc.zero]at hl;simp at hl
  have h2:=(Jl hc hn0).2;have hlt:L.length-1<L.length:=by omega
  have h3:=hc2 (L.length-1) (.int .u64 (dg L (L.length-1):Nat)) (Jj (Qu hlt));rw[hg.cell]at h3;have h4:=Qjv hz h3;simp only[Oq,beq_iff_eq]at h4;omega
 .exact(World.cell?_of_block (hk b (Wu h1) hbg)).trans h1
theorem Cy.setz{w0 w w':World}{v:Value}{d:Dn}(h:Cy w v d){g:Nat}{t:TypeId}{cs:Array Value}(t0:Qq w0)(hb:Below w0.heap.size w0 w')(hg:Qi w g t cs)(hz:cs.toList.all Oq=true)
  (hk:∀k,k<w.heap.size->k≠g->w'.heap[k]?=w.heap[k]?):Cy w' v d:=by
 obtain⟨s,h1,h2,h3⟩:=h;exact⟨s,h1,h2.setz t0 hb hg hz hk,h3⟩
theorem Qhi(w:World):Calls Tryz.prog 41 #[.int .i64 64,.int .i64 64] w fun e w'=>∃v,e=.returned (.tuple #[v,.int .i64 0])/\w'.ownsRow w.heap.size 3 1 v 1 [.int .i64 64]/\Below w.heap.size w w':=by
 have i3:(Tryz.prog.info? 3).map (fun i=>(i.zero,i.size,i.bytes))=some (some (.int .i64 0),1,8):=by kernel_rfl
 go_enter Tryz.func41,Tryz.ntmps41;go_wp2;refine wp_loop_rounds 1 ?_;have ho0:Qb (w.ownsRow w.heap.size 3 1 (.slice none 0 0) 0 []):=World.ownsRow_nil _ _ _ _;have hb0:Qb (Below w.heap.size w w):=Below.refl _ _;rw[rounds_succ];go_wp2_with (at_builtin;refine Zj rfl (.tmp 33) (.tmp 35) 87 rfl w.heap.size 3 (.int .i64 0) 8 Tryz.underlying87 i3 rfl (by decide) _ 0 _ rfl _ 1 rfl rfl ho0.o hb0.o hb0.o.size (by decide) ?_)
 intro v1 w1 h1 h2 h3;have ho1:Qb (w1.ownsRow w.heap.size 3 1 v1 1 [.int .i64 64]):=h1;have hb1:=h_ h2;clear h1 h2 h3 ho0 hb0;go_wp2;refine bodyPost_ret (v:=.tuple #[v1,.int .i64 0]) (by simp[results,Tryz.results41,go_sem]) rfl ?_;exact⟨_,rfl,ho1.o,hb1.o⟩
theorem H8(w:World):Calls Tryz.prog 41 #[.int .i64 64,.int .i64 1024] w fun e w'=>∃v,e=.returned (.tuple #[v,.int .i64 0])/\w'.ownsRow w.heap.size 3 1 v 5 [.int .i64 64,.int .i64 128,.int .i64 256,.int .i64 512,.int .i64 1024]/\Below w.heap.size w w':=by
 have i3:(Tryz.prog.info? 3).map (fun i=>(i.zero,i.size,i.bytes))=some (some (.int .i64 0),1,8):=by kernel_rfl
 go_enter Tryz.func41,Tryz.ntmps41;go_wp2;refine wp_loop_rounds 5 ?_;have ho0:Qb (w.ownsRow w.heap.size 3 1 (.slice none 0 0) 0 []):=World.ownsRow_nil _ _ _ _;have hb0:Qb (Below w.heap.size w w):=Below.refl _ _;rw[rounds_succ];go_wp2_with (at_builtin;refine Zj rfl (.tmp 29) (.tmp 31) 87 rfl w.heap.size 3 (.int .i64 0) 8 Tryz.underlying87 i3 rfl (by decide) _ 0 _ rfl _ 1 rfl rfl ho0.o hb0.o hb0.o.size (by decide) ?_)
 intro v1 w1 h1 h2 h3;have ho1:Qb (w1.ownsRow w.heap.size 3 1 v1 1 [.int .i64 64]):=h1;have hb1:=h_ h2;clear h1 h2 h3 ho0 hb0;go_wp2;rw[rounds_succ];go_wp2_with (at_builtin;refine Zj rfl (.tmp 29) (.tmp 31) 87 rfl w.heap.size 3 (.int .i64 0) 8 Tryz.underlying87 i3 rfl (by decide) _ 1 _ rfl _ 1 rfl rfl ho1.o hb1.o hb1.o.size (by decide) ?_)
 intro v2 w2 h1 h2 h3;have ho2:Qb (w2.ownsRow w.heap.size 3 1 v2 2 [.int .i64 64,.int .i64 128]):=h1;have hb2:=h_ h2;clear h1 h2 h3 ho1 hb1;go_wp2;rw[rounds_succ];go_wp2_with (at_builtin;refine Zj rfl (.tmp 29) (.tmp 31) 87 rfl w.heap.size 3 (.int .i64 0) 8 Tryz.underlying87 i3 rfl (by decide) _ 2 _ rfl _ 1 rfl rfl ho2.o hb2.o hb2.o.size (by decide) ?_)
 intro v3 w3 h1 h2 h3;have ho3:Qb (w3.ownsRow w.heap.size 3 1 v3 3 [.int .i64 64,.int .i64 128,.int .i64 256]):=h1;have hb3:=h_ h2;clear h1 h2 h3 ho2 hb2;go_wp2;rw[rounds_succ];go_wp2_with (at_builtin;refine Zj rfl (.tmp 29) (.tmp 31) 87 rfl w.heap.size 3 (.int .i64 0) 8 Tryz.underlying87 i3 rfl (by decide) _ 3 _ rfl _ 1 rfl rfl ho3.o hb3.o hb3.o.size (by decide) ?_)
 intro v4 w4 h1 h2 h3;have ho4:Qb (w4.ownsRow w.heap.size 3 1 v4 4 [.int .i64 64,.int .i64 128,.int .i64 256,.int .i64 512]):=h1;have hb4:=h_ h2;clear h1 h2 h3 ho3 hb3;go_wp2;rw[rounds_succ];go_wp2_with (at_builtin;refine Zj rfl (.tmp 33) (.tmp 35) 87 rfl w.heap.size 3 (.int .i64 0) 8 Tryz.underlying87 i3 rfl (by decide) _ 4 _ rfl _ 1 rfl rfl ho4.o hb4.o hb4.o.size (by decide) ?_)
 intro v5 w5 h1 h2 h3;have ho5:Qb (w5.ownsRow w.heap.size 3 1 v5 5 [.int .i64 64,.int .i64 128,.int .i64 256,.int .i64 512,.int .i64 1024]):=h1;have hb5:=h_ h2;clear h1 h2 h3 ho4 hb4;go_wp2;refine bodyPost_ret (v:=.tuple #[v5,.int .i64 0]) (by simp[results,Tryz.results41,go_sem]) rfl ?_;exact⟨_,rfl,ho5.o,hb5.o⟩
theorem Ha(w:World)(n:Int)(h:-9223372036854775808<n/\n<9223372036854775808):Calls Tryz.prog 149 #[.int .i64 n] w fun e w'=>e=.returned (.int .u64 (n.natAbs:Int))/\Below w.heap.size w w':=by
 obtain⟨h1,h2⟩:=h;by_cases h0:n<0
 .have z:decide (n<0)=true:=decide_eq_true h0;have q1:IntKind.u64.wrap (-(IntKind.u64.wrap n))=(n.natAbs:Int):=by simp only[IntKind.wrap_u64];omega
  have q2:IntKind.u64.wrap (0-(IntKind.u64.wrap n))=(n.natAbs:Int):=by simp only[IntKind.wrap_u64];omega
  go_enter Tryz.func149,Tryz.ntmps149;go_wp2;go_ret;exact⟨rfl,Below.refl _ _⟩
 .have z:decide (n<0)=false:=decide_eq_false h0;have q1:IntKind.u64.wrap n=(n.natAbs:Int):=by rw[IntKind.wrap_u64];omega
  go_enter Tryz.func149,Tryz.ntmps149;go_wp2;go_ret;exact⟨rfl,Below.refl _ _⟩
theorem Qks(w:World)(M:Int)(k g:Nat)(hM:-9223372036854775808<M/\M<9223372036854775808)(hk:0<k/\k<9223372036854775808)(hg:g=Nat.gcd M.natAbs k){m1:Int}{k1:Nat}(hm1:M.tdiv (g:Int)=m1)(hk1:k/g=k1) :
  Calls Tryz.prog 116 #[.agg #[.int .i64 M,.int .i64 (k:Int)]] w fun e w'=>e=.returned (.tuple #[.agg #[.int .i64 m1,.int .i64 (k1:Int)],.int .i64 0])/\Below w.heap.size w w':=by
 have CS:=h_ (fun w=>Ha w M hM);have HG:=h_ hg;obtain⟨a,ha⟩:∃a,a=M.natAbs:=⟨_,rfl⟩
 have HA:=h_ ha;have HM:=h_ hM;have g0:0<g:=hg▸Nat.gcd_pos_of_pos_right _ hk.1;have gk:g<=k:=hg▸Nat.gcd_le_right _ hk.1;rw[<-ha]at CS;have q0:IntKind.u64.wrap (k:Int)=(k:Int):=by rw[IntKind.wrap_u64];omega
 have z0:decide ((k:Int)<1)=false:=decide_eq_false (by omega);have z1:decide (k<1)=false:=decide_eq_false (by omega);have qg:IntKind.i64.wrap (g:Int)=(g:Int):=IntWalk.i64_in _ (by omega);have g1:¬(g:Int)=0:=by omega
 have g2:((g:Int)==0)=false:=by rw[beq_eq_false_iff_ne];exact g1
 have qm:IntKind.i64.wrap m1=m1:=by
  have h1:(M.tdiv (g:Int)).natAbs<=M.natAbs:=by rw[Int.natAbs_tdiv];exact Nat.div_le_self _ _
  rw[hm1]at h1;exact IntWalk.i64_in _ (by omega)
 have hk3:(k:Int)/(g:Int)=(k1:Int):=by rw[<-hk1];rfl
 have hk4:(k:Int).tdiv (g:Int)=(k1:Int):=by rw[<-hk1];rfl
 have qk:IntKind.i64.wrap (k1:Int)=(k1:Int):=by have h1:k1<=k:=hk1▸Nat.div_le_self _ _;exact IntWalk.i64_in _ (by omega)
 have ha2:a<9223372036854775808:=by omega
 obtain⟨hk1,hk2⟩:=hk;clear ha hg hM hk1;go_enter Tryz.func116,Tryz.ntmps116;have F0:=h_ (Fx.two w 133 #[.int .i64 M,.int .i64 (k:Int)] 133 #[.int .i64 0,.int .i64 0] rfl rfl);go_upto_region 1 with(fail)
 generalize alloc (alloc _ _) _=w0 at F0 |-;have c0_0:=F0.o.c2 0 rfl;have c1_0:=F0.o.c2 1 rfl;go_upto_region 3 with(fail)
 have FCD:=h_ (((F0.o.drew).c2 0 rfl).1)
 go_region_held3 (fun w'=>(w'.cell? ⟨w.heap.size,0,none⟩=some (.int .i64 M)/\w'.cell? ⟨w.heap.size,1,none⟩=some (.int .i64 (k:Int)))) (first|with_reducible exact FCD.o|with_reducible exact FC.o) (first|(go_at_call 149;(with_reducible refine(CS.o _).mono ?_);rintro q ww1 ⟨rfl,hb⟩;have F1:=h_ ((F0.o.drew).call hb);have FC:=h_ ((F1.o.c2 0 rfl).1);have c0_1:=F1.o.c2 0 rfl;have c1_1:=F1.o.c2 1 rfl))
 go_wp2
 go_loopw [4,5] (fun ta tb wr=>∃(x y:Nat),ta=.int .u64 (x:Int)/\tb=.int .u64 (y:Int)/\Qb (x<9223372036854775808/\y<9223372036854775808/\Nat.gcd x y=g)/\Qb (Fx w wr [(w.heap.size,133,#[.int .i64 M,.int .i64 (k:Int)]),(w.heap.size+1,133,#[.int .i64 0,.int .i64 0])])) (fun _ tb _=>(intOf tb).toNat)
 case atStart=>exact⟨a,k,rfl,rfl,⟨ha2,hk2,by rw[HG.o,HA.o]⟩,F1⟩
 case round =>
  obtain⟨x,y,rfl,rfl,hI,hF⟩:=hrel;by_cases hy:y=0
  .have hx:x=g:=by have:=hI.o.2.2;rw[hy,Nat.gcd_zero_right]at this;exact this
   have t1:decide (0<(y:Int))=false:=decide_eq_false (by omega);have t2:decide (0<y)=false:=decide_eq_false (by omega);clear hI;have c0_1:=hF.o.c2 0 rfl;have c1_1:=hF.o.c2 1 rfl;have d0_1:=hF.o.drew.c2 0 rfl;have d1_1:=hF.o.drew.c2 1 rfl;rw[hx];clear hy hx;go_wp2_with fail;go_region
   all_goals
   go_wp2;have f:=(hF.o.s2 1 rfl (.int .i64 m1) (.int .i64 (k1:Int)) rfl rfl).1.drew;generalize drew (setCell (setCell _ _ _) _ _)=W at f |-;have g1:=f.c2 1 rfl;refine bodyPost_ret (v:=.tuple #[.agg #[.int .i64 m1,.int .i64 (k1:Int)],.int .i64 0]) (by simp[results,Tryz.results116,go_sem,g1]) rfl ?_;exact⟨rfl,f.b⟩
  .have t1:decide (0<(y:Int))=true:=decide_eq_true (by omega);have t2:decide (0<y)=true:=decide_eq_true (by omega);have t3:¬(y:Int)=0:=by omega
   have t4:((y:Int)==0)=false:=by rw[beq_eq_false_iff_ne];exact t3
   obtain⟨z,hz⟩:∃z,z=x%y:=⟨_,rfl⟩
   have hzy:z<y:=hz▸Nat.mod_lt _ (by omega);have t5:(x:Int).tmod (y:Int)=(z:Int):=by rw[hz];rfl
   have t6:IntKind.u64.wrap (z:Int)=(z:Int):=by have:=hI.o.2.1;rw[IntKind.wrap_u64];omega
   have HI:Qb (y<9223372036854775808/\z<9223372036854775808/\Nat.gcd y z=g):=⟨hI.o.2.1,by have:=hI.o.2.1;omega,by
    have h3:=hI.o.2.2;rw[hz,<-h3,Nat.gcd_comm x y,Nat.gcd_rec y x,Nat.gcd_comm]⟩
   clear hI hy hz;go_wp2_with fail;go_quiet (fail);go_wp2;go_roundw
   case rel=>exact⟨y,z,rfl,rfl,HI,hF.o.drewN _⟩
   case measure=>simp only[intOf];omega
structure Ex(s:Nat)(L:List Nat)(O:List Nat)(k:Nat):Prop where
 val:Qc O=Qc (L.take k)*2^s
 top:dg O k<2^s
 zero:∀t,k<t->dg O t=0
theorem Ex.step{s:Nat}{L O:List Nat}{k:Nat}(h:Ex s L O k)(hs:s<=64)(hd:Ql L)(hl:k+1<O.length) :
  Ex s L ((O.set k (dg O k+dg L k*2^s%18446744073709551616)).set (k+1) (dg L k/2^(64-s))) (k+1)/\dg O k+dg L k*2^s%18446744073709551616<18446744073709551616/\dg L k/2^(64-s)<18446744073709551616:=by
 have hx:=Qy hd k;have hR:2^s*2^(64-s)=18446744073709551616:=by rw[<-Nat.pow_add,show s+(64-s)=64 by omega]
 have hp:=Nat.two_pow_pos s;have hq:=Nat.two_pow_pos (64-s);have e1:dg L k*2^s/18446744073709551616=dg L k/2^(64-s):=by rw[<-hR,Nat.mul_comm (2^s),Nat.mul_div_mul_right _ _ hp]
 have e2:dg L k*2^s%18446744073709551616=2^s*(dg L k%2^(64-s)):=by rw[<-hR,Nat.mul_comm (dg L k),Nat.mul_mod_mul_left]
 have e3:=Nat.div_add_mod (dg L k*2^s) 18446744073709551616;have h1:dg O k+dg L k*2^s%18446744073709551616<18446744073709551616:=by rw[e2];have h2:dg L k%2^(64-s)<2^(64-s):=Nat.mod_lt _ hq;have h3:2^s*(dg L k%2^(64-s)+1)<=2^s*2^(64-s):=Nat.mul_le_mul_left _ h2;rw[hR,Nat.mul_add,Nat.mul_one]at h3;have:=h.top;omega
 have h2:dg L k/2^(64-s)<18446744073709551616:=Nat.lt_of_le_of_lt (Nat.div_le_self _ _) hx;refine⟨⟨?_,?_,fun t ht=>?_⟩,h1,h2⟩
 .have a1:=Jw O k (dg O k+dg L k*2^s%18446744073709551616) (by omega);have a2:=Jw (O.set k (dg O k+dg L k*2^s%18446744073709551616)) (k+1) (dg L k/2^(64-s)) (by rw[List.length_set];exact hl);rw[Wc _ _ _ _ (by omega),h.zero (k+1) (by omega),Nat.mul_zero]at a2;rw[Xc,Nat.add_mul,<-h.val,Nat.mul_assoc];rw[e1]at e3;have a3:18446744073709551616^k*(18446744073709551616*(dg L k/2^(64-s))+dg L k*2^s%18446744073709551616)=18446744073709551616^k*(dg L k*2^s):=by rw[e3]
  rw[Nat.mul_add,<-Nat.mul_assoc (18446744073709551616^k) 18446744073709551616]at a3;rw[Nat.pow_succ]at a2;rw[Nat.mul_add]at a1;omega
 .have:dg ((O.set k (dg O k+dg L k*2^s%18446744073709551616)).set (k+1) (dg L k/2^(64-s))) (k+1)=dg L k/2^(64-s):=by unfold dg;rw[List.getD_eq_getElem?_getD,List.getElem?_set_self (by rw[List.length_set];exact hl)];rfl
  rw[this];exact Nat.div_lt_of_lt_mul (by rw[Nat.mul_comm,hR];exact hx)
 .rw[Wc _ _ _ _ (by omega),Wc _ _ _ _ (by omega)];exact h.zero t (by omega)
theorem Qf1{o x s:Nat}(ho:o<2^s)(hs:s<=64):bits .or .u64 (o:Int) (IntKind.u64.wrap ((x:Int)*2^s))=((o+x*2^s%18446744073709551616:Nat):Int):=by
 have hR:(18446744073709551616:Nat)=2^s*2^(64-s):=by rw[<-Nat.pow_add,show s+(64-s)=64 by omega]
 have h2:x*2^s%18446744073709551616=2^s*(x%2^(64-s)):=by rw[hR,Nat.mul_comm x,Nat.mul_mod_mul_left]
 have h3:x*2^s%18446744073709551616<18446744073709551616:=Nat.mod_lt _ (Nat.zero_lt_succ _);have h4:2^s<=18446744073709551616:=by rw[hR];exact Nat.le_mul_of_pos_right _ (Nat.two_pow_pos _)
 have e2:IntKind.u64.wrap ((x:Int)*2^s)=((x*2^s%18446744073709551616:Nat):Int):=by rw[IntKind.wrap_u64,Int.natCast_emod,Int.natCast_mul];simp
 rw[e2,u64_or _ _ (Int.natCast_nonneg _) (by omega) (Int.natCast_nonneg _) (by omega),Int.toNat_natCast,Int.toNat_natCast,h2,Nat.or_comm,Gz ho,Nat.add_comm]
def Qe4(s:Nat)(L:List Nat)(w:World)(e:Ending)(w':World):Prop:=∃O,e=.returned (.slice (some ⟨w.heap.size,0,none⟩) (L.length+1) (L.length+1)) /\
 w'.ownsRow w.heap.size 22 1 (.slice (some ⟨w.heap.size,0,none⟩) (L.length+1) (L.length+1)) (L.length+1) (Qz O)/\Ql O/\Qc O=Qc L*2^s/\Below w.heap.size w w'
theorem Qc9{L:List Nat}{v:Value}{w:World}(h:Qr w v L)(hl:L.length<=100000)(s:Nat)(hs:s<=63):Calls Tryz.prog 187 #[v,.int .i64 (s:Int)] w (Qe4 s L w):=by
 have HL:=h_ h;obtain⟨a,c,rfl,hcell⟩:=h.sl.form;have HC:=h_ hcell;obtain⟨n,hn⟩:∃n,n=L.length+1:=⟨_,rfl⟩
 obtain⟨l,hl2⟩:∃l,l=L.length:=⟨_,rfl⟩
 have HN:=h_ hn;have HL2:=h_ hl2;unfold Qe4;rw[<-hn];have hn1:n<=100001:=by omega
 have hln:l<n:=by omega
 have hl1:l<=100000:=by omega
 have hw:(l:Int)+1=(n:Int):=by omega
 rw[<-hl2];have q1:(64:Int)-(s:Int)=((64-s:Nat):Int):=by omega
 have q2:¬(s:Int)<0:=by omega
 have q3:¬((64-s:Nat):Int)<0:=by omega
 obtain⟨r,hr⟩:∃r,r=64-s:=⟨_,rfl⟩
 have HR:=h_ hr;rw[<-hr]at q1 q3;have hr1:r<=64:=by omega
 clear h hcell hn hl2 hr hl;go_enter Tryz.func187,Tryz.ntmps187;go_wp2_with (refine Jb (w0:=w) rfl (.tmp 10) 40 rfl w.heap.size 22 (.int .u64 0) 8 Tryz.underlying40 Tryz.info22 rfl (by decide) _ _ n rfl (by have:=HN.o;omega) (by omega) (Below.refl _ _) (Nat.le_refl _) ?_)
 intro w1 ho1 hb1 hB1;have hS:Qb ((w1.ownsRow w.heap.size 22 1 (.slice (some ⟨w.heap.size,0,none⟩) n n) n (Qz (List.replicate n 0))/\Ql (List.replicate n 0)/\Below w.heap.size w w1)/\Ex s L (List.replicate n 0) 0) :=
  ⟨⟨by have:=ho1.o;rwa[Vy]at this,Kl n,hb1⟩,by rw[Js];simp[Qc],by rw[Px];exact Nat.two_pow_pos s,fun t _=>Px n t⟩
 clear ho1 hb1 hB1;go_wp2
 go_loopw [14] (fun ix wr=>∃(k:Nat) (O:List Nat),ix=.int .i64 k/\k<=l/\Qb ((wr.ownsRow w.heap.size 22 1 (.slice (some ⟨w.heap.size,0,none⟩) n n) n (Qz O)/\Ql O/\Below w.heap.size w wr)/\Ex s L O k)) (fun ix _=>l-(intOf ix).toNat)
 case atStart=>exact⟨0,_,rfl,by omega,hS⟩
 case round =>
  obtain⟨k,O,rfl,hk,hh⟩:=hrel;by_cases hkl:k<l
  .obtain⟨b,off,rfl,hc2⟩:=HC.o (by rw[<-HL2.o];omega);have hxa:wr.cell? ⟨b,off+k,none⟩=some (.int .u64 (dg L k:Nat)):=Qj hh.o.1.2.2 (Nat.le_refl _) (hc2 k _ (Qu (by rw[<-HL2.o];exact hkl)));have hlen:O.length=n:=Zn hh.o.1.1;have hfz:=hh.o.1.1.frozenAt k;have hfz2:=hh.o.1.1.frozenAt (k+1);have hxo:wr.cell? ⟨w.heap.size,k,none⟩=some (.int .u64 (dg O k:Nat)):=by rw[hh.o.1.1.cellAt k (by omega)];exact Jj (Qu (by rw[hlen];omega))
   have hxo2:wr.cell? ⟨w.heap.size,k+1,none⟩=some (.int .u64 (dg O (k+1):Nat)):=by rw[hh.o.1.1.cellAt (k+1) (by omega)];exact Jj (Qu (by rw[hlen];omega))
   have dfz:wr.drew.frozen? ⟨w.heap.size,k,none⟩=false:=hfz;have dxo:wr.drew.cell? ⟨w.heap.size,k,none⟩=some (.int .u64 (dg O k:Nat)):=hxo;have ho:=Qf1 (x:=dg L k) hh.o.2.top (by omega:s<=64);obtain⟨st,b1,b2⟩:=hh.o.2.step (by omega:s<=64) HL.o.digs (by omega);have HST:Qb (∀y z:Nat,y=dg O k+dg L k*2^s%18446744073709551616->z=dg L k/2^r->∀u v,u=.int .u64 (y:Int)->v=.int .u64 (z:Int) ->
     ((((wr.setCell ⟨w.heap.size,k,none⟩ u).drew).setCell ⟨w.heap.size,k+1,none⟩ v).ownsRow w.heap.size 22 1 (.slice (some ⟨w.heap.size,0,none⟩) n n) n (Qz ((O.set k y).set (k+1) z))/\Ql ((O.set k y).set (k+1) z)/\Below w.heap.size w (((wr.setCell ⟨w.heap.size,k,none⟩ u).drew).setCell ⟨w.heap.size,k+1,none⟩ v))/\Ex s L ((O.set k y).set (k+1) z) (k+1)):=by
    rintro y z hy hz u v rfl rfl;rw[HR.o]at hz;rw[<-hy,<-hz]at st;rw[<-hy]at b1;rw[<-hz]at b2;refine⟨⟨?_,(hh.o.1.2.1.set b1).set b2,?_⟩,st⟩
    .rw[<-Wi,<-Wi];exact(((hh.o.1.1.stored k _).1).drew.stored (k+1) _).1
    .exact Below.setCell (Qw (hh.o.1.2.2.setCell (Nat.le_refl _) _) 1) (Nat.le_refl _) _
   generalize dg L k=x at *
   generalize dg O k=o at *
   generalize dg O (k+1)=o2 at *
   obtain⟨y,hy⟩:∃y,y=o+x*2^s%18446744073709551616:=⟨_,rfl⟩
   obtain⟨z,hz⟩:∃z,z=x/2^r:=⟨_,rfl⟩
   have HF:=h_ (HST.o y z hy hz _ _ rfl rfl);rw[<-hy]at ho;have hshr:(x:Int)/2^r=(z:Int):=by rw[hz];simp
   clear hy hz st b1 b2 HST hc2 hlen;go_wp2_with fail;go_region;go_wp2;go_roundw
   case rel=>exact⟨k+1,_,by go_num,by omega,HF⟩
   case measure=>simp[intOf];omega
  .obtain rfl:k=l:=by omega
   have HE:Qb (Qc O=Qc L*2^s):=by have:=hh.o.2.val;rwa[Xu (by rw[HL2.o];exact Nat.le_refl _)]at this
   go_wp2;go_ret;exact⟨O,rfl,hh.o.1.1,hh.o.1.2.1,HE.o,hh.o.1.2.2⟩
structure Lj(A2 Vv n N k:Nat)(U Q:List Nat):Prop where
 sum:A2=Qc U+Vv*Qc Q
 zero:∀t,t<k->dg Q t=0
 less:Qc U<Vv*18446744073709551616^k
 lenQ:Q.length=N
structure Nd(Vv n j:Nat)(U0 U:List Nat)(d c:Nat):Prop where
 sum:Qc U+18446744073709551616^j*(Vv*d)=Qc U0+18446744073709551616^(j+n+1)*c
 low:∀t,t<j->dg U t=dg U0 t
 high:∀t,j+n<t->dg U t=dg U0 t
 c1:c<=1
 d64:d<18446744073709551616
 q:Qc U0/18446744073709551616^j/Vv<=d
theorem Qba{xs:List Nat}{m:Nat}(h:Qc xs<18446744073709551616^m){t:Nat}(ht:m<=t):dg xs t=0:=by
 have h1:=Je xs t;rw[Zw,Nat.mul_add]at h1;have h2:18446744073709551616^m<=18446744073709551616^t:=Vc ht;rcases Nat.eq_zero_or_pos (dg xs t)with h0|h0
 .exact h0
 .have:=Nat.le_mul_of_pos_right (18446744073709551616^t) h0;omega
theorem Ql.drop{xs:List Nat}(h:Ql xs)(k:Nat):Ql (xs.drop k):=fun d hd=>h d (List.mem_of_mem_drop hd)
theorem Bt{xs:List Nat}(hd:Ql xs){m:Nat}(h:∀t,m<=t->dg xs t=0):Qc xs<18446744073709551616^m:=by
 have h1:=Je xs m;have h2:Qc (xs.drop m)=0:=by
  have:∀l,xs.length-l<=xs.length->∀k,xs.length=k+l->m<=k->Qc (xs.drop k)=0:=by
   intro l
   induction l with
   | zero=>intro _ k hk _;rw[List.drop_of_length_le (by omega)];rfl
   | succ l ih=>intro _ k hk hm;rw[Zw,h k hm,ih (by omega) (k+1) (by omega) (by omega)]
  by_cases hm:m<=xs.length
  .exact this (xs.length-m) (by omega) m (by omega) (Nat.le_refl _)
  .rw[List.drop_of_length_le (by omega)];rfl
 rw[h2,Nat.mul_zero,Nat.add_zero]at h1;rw[h1];exact Ja hd m
theorem Qcz{U:List Nat}(hd:Ql U){j n:Nat}(hn:2<=n)(h:Qc U<18446744073709551616^(j+n+1)) :
  ∃l,l<18446744073709551616^(n-2)/\Qc U/18446744073709551616^j=18446744073709551616^(n-2)*((dg U (j+n)*18446744073709551616+dg U (j+(n-1)))*18446744073709551616+dg U (j+(n-2)))+l:=by
 obtain⟨m,rfl⟩:∃m,n=m+2:=⟨n-2,by omega⟩
 have e1:m+2-2=m:=by omega
 have e2:m+2-1=m+1:=by omega
 rw[e1,e2];rw[Ue hd];have hd2:Ql (U.drop j):=hd.drop j;have h1:=Je (U.drop j) m;have h2:=Ja hd2 m;refine⟨Qc ((U.drop j).take m),h2,?_⟩;rw[h1,List.drop_drop,Zw,Zw,Zw];have hz:Qc (U.drop (j+m+1+1+1))=0:=by have:=Ue hd (j+m+1+1+1);rw[<-this];exact Nat.div_eq_of_lt (by have e:j+(m+2)+1=j+m+1+1+1:=(by omega);rw[e]at h;exact h)
 rw[hz,show j+(m+2)=j+m+1+1 by omega,show j+(m+1)=j+m+1 by omega];generalize dg U (j+m+1+1)=x2;generalize dg U (j+m+1)=x1;generalize dg U (j+m)=x0;rw[Nat.add_comm];congr 2;omega
theorem Qdc{P Vv q B u t l m:Nat}(hq:q=P/Vv)(hP:P=B*u+l)(hl:l<B)(hV:Vv=B*t+m):q*t<=u:=by
 have h1:Vv*q<=P:=by rw[hq];exact Nat.mul_div_le _ _
 rw[hP,hV,Nat.add_mul,Nat.mul_assoc]at h1;have h2:B*(t*q)<B*(u+1):=by rw[Nat.mul_add,Nat.mul_one];omega
 have:=Nat.lt_of_mul_lt_mul_left h2;rw[Nat.mul_comm]at this;omega
theorem Lj.first{A2 Vv n N k:Nat}{U Q:List Nat}(h:Lj A2 Vv n N (k+1) U Q)(hV:Vv<18446744073709551616^n) :
  Qc U<18446744073709551616^(k+n+1)/\Qc U/18446744073709551616^k/Vv<18446744073709551616:=by
 have hp:0<18446744073709551616^k:=Nat.pow_pos (by decide);constructor
 .have h1:=h.less;have h2:Vv*18446744073709551616^(k+1)<=18446744073709551616^n*18446744073709551616^(k+1):=Nat.mul_le_mul_right _ (Nat.le_of_lt hV);rw[<-Nat.pow_add,show n+(k+1)=k+n+1 by omega]at h2;exact Nat.lt_of_lt_of_le h1 h2
 .have h1:=h.less;rw[Nat.pow_succ,Nat.mul_left_comm]at h1;exact Nat.div_lt_of_lt_mul (Nat.div_lt_of_lt_mul h1)
theorem Nd.less{Vv n j:Nat}{U0 U:List Nat}{d:Nat}(h:Nd Vv n j U0 U d 1)(dU:Ql U)(h0:Qc U0<18446744073709551616^(j+n+1)) :
  0<d/\Qc U0/18446744073709551616^j/Vv<=d-1:=by
 have hU:Qc U<18446744073709551616^(j+n+1):=Bt dU fun t ht=>by rw[h.high t (by omega)];exact Qba h0 ht
 have key:Qc U0/18446744073709551616^j/Vv<d:=by
  apply Nat.lt_of_not_le;intro hle;have h1:Vv*d<=Qc U0/18446744073709551616^j:=Nat.le_trans (Nat.mul_le_mul_left _ hle) (Nat.mul_div_le _ _);have h2:18446744073709551616^j*(Vv*d)<=Qc U0:=Nat.le_trans (Nat.mul_le_mul_left _ h1) (Nat.mul_div_le _ _);have h3:=h.sum;rw[Nat.mul_one]at h3;generalize 18446744073709551616^(j+n+1)=X at *
  generalize 18446744073709551616^j*(Vv*d)=Y at *
  clear hle h1;omega
 generalize Qc U0/18446744073709551616^j/Vv=q at *
 clear hU h h0;omega
theorem Qfw{X Y Z u0 u o c:Nat}(hc:c<=1)(h3:u+(Y+Z)=u0+X)(hs:o+X*c=u+Z):o+Y=u0+X*(1-c):=by
 rcases(Nat.le_one_iff_eq_zero_or_eq_one.1 hc)with rfl|rfl
 .rw[Nat.mul_zero,Nat.add_zero]at hs;rw[Nat.sub_zero,Nat.mul_one];omega
 .rw[Nat.mul_one]at hs;rw[Nat.sub_self,Nat.mul_zero,Nat.add_zero];omega
theorem Nd.put{Vv n j:Nat}{U0 U O:List Nat}{d d' c':Nat}(h:Nd Vv n j U0 U d 1)(hd:d=d'+1)(hq:Qc U0/18446744073709551616^j/Vv<=d')
  (hs:Qc O+18446744073709551616^(j+n+1)*c'=Qc U+18446744073709551616^j*Vv) (hl:∀t,t<j->dg O t=dg U t) (hh:∀t,j+n<t->dg O t=dg U t) (hc:c'<=1):Nd Vv n j U0 O d' (1-c') where
 sum:=by have h3:=h.sum;rw[hd,Nat.mul_add Vv,Nat.mul_one,Nat.mul_add,Nat.mul_one]at h3;exact Qfw hc h3 hs
 low:=fun t ht=>(hl t ht).trans (h.low t ht)
 high:=fun t ht=>(hh t ht).trans (h.high t ht)
 c1:=Nat.sub_le 1 c'
 d64:=by have:=h.d64;rw[hd]at this;exact Nat.lt_of_le_of_lt (Nat.le_succ d') this
 q:=hq
theorem Nd.done{A2 Vv n N j:Nat}{U0 U Q:List Nat}{d:Nat}(h:Nd Vv n j U0 U d 0)(g:Lj A2 Vv n N (j+1) U0 Q)(hV0:0<Vv)(hj:j<N):Lj A2 Vv n N j U (Q.set j d):=by
 have hs:=h.sum;rw[Nat.mul_zero,Nat.add_zero]at hs;have hp:0<18446744073709551616^j:=Nat.pow_pos (by decide);have hdm:=Nat.div_add_mod (Qc U0) (18446744073709551616^j);have hml:=Nat.mod_lt (Qc U0) hp;have hq:=h.q;have h2:Vv*d<=Qc U0/18446744073709551616^j:=by rw[Nat.le_div_iff_mul_le hp,Nat.mul_comm];exact Nat.le_trans (Nat.le_add_left _ _) (Nat.le_of_eq hs)
 have h3:d=Qc U0/18446744073709551616^j/Vv:=by
  have:d<=Qc U0/18446744073709551616^j/Vv:=by rw[Nat.le_div_iff_mul_le hV0,Nat.mul_comm];exact h2
  exact Nat.le_antisymm this hq
 have h4:=Nat.mod_lt (Qc U0/18446744073709551616^j) hV0;have h5:=Nat.div_add_mod (Qc U0/18446744073709551616^j) Vv;rw[<-h3]at h5;have hQl:j<Q.length:=by rw[g.lenQ];exact hj
 have e1:=Jw Q j d hQl;rw[g.zero j (by omega),Nat.mul_zero,Nat.add_zero]at e1;refine⟨?_,fun t ht=>?_,?_,by rw[List.length_set];exact g.lenQ⟩
 .rw[g.sum,e1,Nat.mul_add,<-hs,Nat.mul_left_comm Vv];generalize 18446744073709551616^j*(Vv*d)=Y;generalize Vv*Qc Q=Z;clear hdm hml hq h2 h3 h4 h5 e1 hs;omega
 .rw[Wc _ _ _ _ (by omega)];exact g.zero t (by omega)
 .generalize Qc U0/18446744073709551616^j=P at *
  generalize Qc U0%18446744073709551616^j=l at *
  generalize P%Vv=r at *
  generalize 18446744073709551616^j=B at *
  have h6:B*P=B*(Vv*d)+B*r:=by rw[<-Nat.mul_add,h5]
  have h7:B*(r+1)<=B*Vv:=Nat.mul_le_mul_left _ h4;rw[Nat.mul_add,Nat.mul_one]at h7;rw[Nat.mul_comm Vv];generalize B*(Vv*d)=Y at *
  generalize B*r=Z at *
  generalize B*P=X at *
  generalize B*Vv=W at *
  clear h4 h5 h3 h2;omega
theorem Lj.done{a b s n N:Nat}{U Q:List Nat}(h:Lj (a*2^s) (b*2^s) n N 0 U Q)(hb:0<b):Qc U/2^s=a%b/\Qc Q=a/b:=by
 have h1:=h.sum;have h2:=h.less;rw[Nat.pow_zero,Nat.mul_one]at h2;have hp:=Nat.two_pow_pos s;have h3:b*2^s*Qc Q=(b*Qc Q)*2^s:=Nat.mul_right_comm _ _ _;rw[h3]at h1;have hle:b*Qc Q<=a:=by apply Nat.le_of_mul_le_mul_right (c:=2^s) _ hp;omega
 have h4:Qc U=(a-b*Qc Q)*2^s:=by rw[Nat.sub_mul];omega
 rw[h4]at h2;have h5:=Nat.lt_of_mul_lt_mul_right h2;have h6:a=b*Qc Q+(a-b*Qc Q):=by omega
 constructor
 .rw[h4,Nat.mul_div_cancel _ hp]
  conv=>rhs;rw[h6]
  rw[Nat.mul_add_mod,Nat.mod_eq_of_lt h5]
 .conv=>rhs;rw[h6]
  rw[Nat.mul_add_div hb,Nat.div_eq_of_lt h5,Nat.add_zero]
open Go.ChangeAt Go.ChangeShapes Go.WideShapes
def laidT : List (String × DataW Unit) := [("math/bits.deBruijn64tab", Rows.laid_math_bits_deBruijn64tab)]
theorem Qk6:ownKnob Tryz.prog.godebug=none:=by kernel_rfl
theorem gTab : Tryz.prog.globalNamed "math/bits.deBruijn64tab" = some 0 := by kernel_rfl
theorem Qdd:(Tryz.prog.globals[0]?).map (·.type)=some 204:=by kernel_rfl
theorem Qfm:(Rows.laid_math_bits_deBruijn64tab:DataW Unit)=Lib.tabData .u8 (Lib.deBruijn64tab.map fun x=>((x:Nat):Int)):=by kernel_rfl
theorem Qdi(os:Os)(args:Array Value):laidMetH Tryz.prog laidT ((World.doorLaid Tryz.prog 400 os).forCall (fun _ _=>0) ⟨#[],args,[]⟩).memory :=
 laidMetH_of_parts3 (fuel:=8) (laidMet_of_run' 8 (by kernel_rfl) (by kernel_rfl)) (by kernel_rfl) (by kernel_rfl)
theorem Br{W:World}(h:laidMetH Tryz.prog laidT W):Qq W:=by
 rw[MakeChecks.laidMetH_plain _ _ _ (by kernel_rfl)]at h;unfold laidT at h;rw[Qfm]at h;have hT:=Lib.tabIs_of_head gTab Qdd Tryz.underlying204 Tryz.underlying5 (by kernel_rfl) (by kernel_rfl) h;intro j hj;have hl:Lib.deBruijn64tab.length=64:=by decide
 have h1:=hT.cell gTab j (by rw[List.length_map,hl];exact hj);rw[h1];congr 2;rw[List.getD_eq_getElem?_getD,List.getElem?_map,List.getD_eq_getElem?_getD];rw[List.getElem?_eq_getElem (by rw[hl];exact hj)];rfl
end Go.Proofs.YtobpioceopfkpaaGreatDoor
