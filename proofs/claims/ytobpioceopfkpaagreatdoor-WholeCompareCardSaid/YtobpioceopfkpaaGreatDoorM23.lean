/-
  Lemmas for WholeCompare (part 23); without conditions.
-/
import Derived.Test.YtobpioceopfkpaaGreatDoorM19
import Derived.Test.YtobpioceopfkpaaGreatDoorM15
import Derived.Test.YtobpioceopfkpaaGreatDoorM17
import Derived.Test.YtobpioceopfkpaaGreatDoorM18
set_option maxRecDepth 100000
set_option maxHeartbeats 4000000
namespace Go.Proofs.YtobpioceopfkpaaGreatDoor
open Go.RowKit
open World (setCell alloc drew)
open List (set_cons_zero set_cons_succ setIfInBounds_toArray cons_append nil_append)
def Sw(d:Dn):Prop:=bl d.m<=4000/\-20000<=d.e/\d.e<=20000
theorem Sw.bare{d:Dn}(h:Sw d):bl (Qa d).m<=4000/\-20000<=(Qa d).e/\(Qa d).e<=24000:=by
 obtain⟨h1,h2,h3⟩:=h;by_cases h0:d.m=0
 .rw[Zg h0];exact⟨Nat.zero_le _,by decide,by decide⟩
 .have k1:=Wp h0;have:d.m/2^lo d.m<=d.m:=Nat.div_le_self _ _;have k2:=Zc this;have k3:Ju d.e=d.e:=by unfold Ju;omega
  rw[Zy h0,k3];simp only;omega
theorem Ti{w:World}{v:Value}{d:Dn}(h:Ry w v d)(hs:Sw d):Calls Tryz.prog 31 #[v] w (Um (Qa d) 0 w):=by have h1:=Lm h;have h2:=hs.bare;rw[Sf (d:=d) (by omega)]at h1;exact h1
theorem Nj{w:World}{u:Value}{d:Dn}(hu:Ry w u d)(sd:Sw d)(h0:(Qa d).m≠0)(more:Bool)(z:Int)(hz:0<=z/\z<=3) :
  Calls Tryz.prog 82 #[u,.bool more,.int .i64 z] w fun e w'=>∃x,e=.returned (.tuple #[x,.bool true])/\Cy w' x (Qa d)/\Below w.heap.size w w':=by
 have CA:=h_ (fun w (h:Ry w u d)=>Ti h sd);obtain⟨a1,k1,c1,rfl⟩:=hu.form;generalize Qa d=D at *
 obtain⟨n,m,e⟩:=D;simp only at h0;have z1:decide ((0:Int)<=z)=true:=decide_eq_true hz.1;have z2:decide (z<=(3:Int))=true:=decide_eq_true hz.2;have HUU:=h_ hu;have HZ:=h_ h0;clear hu sd h0;obtain⟨hz1,hz2⟩:=hz;cases more
 .have F0:=h_ (Fx.two w 42 #[.bool d.neg,.slice a1 k1 c1,.int .i64 d.e] 42 #[.bool false,.slice none 0 0,.int .i64 0] rfl rfl);have X0:=h_ ((HUU.o.alloc (.cells #[.bool d.neg,.slice a1 k1 c1,.int .i64 d.e] 42)).alloc (.cells #[.bool false,.slice none 0 0,.int .i64 0] 42));clear HUU;go_enter Tryz.func82,Tryz.ntmps82;go_upto_region 1 with(fail)
  generalize alloc (alloc _ _) _=w0 at F0 X0 |-;have c0_0:=F0.o.c3 0 rfl;have c1_0:=F0.o.c3 1 rfl;go_wp2_with fail;refine(CA.o _ X0.o).mono ?_;rintro q w1 ⟨u,rfl,hu,hb⟩;have F1:=h_ (F0.o.call hb);have X1:=h_ (X0.o.below hb);have U1:=h_ (hu);have c0_1:=F1.o.c3 0 rfl;have c1_1:=F1.o.c3 1 rfl;obtain⟨a3,k3,c3,rfl⟩:=U1.o.fm;have zk:((k3:Int)==0)=false:=by rw[beq_eq_false_iff_ne];intro h;exact HZ.o (U1.o.dm.len0.2 (by omega))
  go_upto_region 2 with(fail)
  obtain⟨f,p⟩:=F1.o.s3 0 rfl (.bool n) (.slice a3 k3 c3) (.int .i64 e) rfl rfl rfl;generalize setCell _ _ _=W at f p |-;have F2:=h_ (f);have U2:=h_ (U1.o.kp p);simp only[set_cons_zero]at F2;have c0_2:=F2.o.c3 0 rfl;have c1_2:=F2.o.c3 1 rfl;have D2:=h_ F2.o.drew;have d0:=D2.o.c3 0 rfl;have d1:=D2.o.c3 1 rfl;go_region
  all_goals
   go_wp2;obtain⟨f0,p0⟩:=F2.o.s3 1 rfl (.bool n) (.slice a3 k3 c3) (.int .i64 e) rfl rfl rfl;have p:=(p0).trans (Kp.drew _);have f:=f0.drew;generalize drew (setCell (setCell (setCell _ _ _) _ _) _ _)=W at f p |-;have g1:=f.c3 1 rfl;refine bodyPost_ret (v:=.tuple #[.agg #[.bool n,.slice a3 k3 c3,.int .i64 e],.bool true]) (by simp[results,Tryz.results82,go_sem,g1]) rfl ?_;exact⟨_,rfl,U2.o.kp p,f.b⟩
 .have F0:=h_ (Fx.two w 42 #[.bool d.neg,.slice a1 k1 c1,.int .i64 d.e] 42 #[.bool false,.slice none 0 0,.int .i64 0] rfl rfl);have X0:=h_ ((HUU.o.alloc (.cells #[.bool d.neg,.slice a1 k1 c1,.int .i64 d.e] 42)).alloc (.cells #[.bool false,.slice none 0 0,.int .i64 0] 42));clear HUU;go_enter Tryz.func82,Tryz.ntmps82;go_upto_region 1 with(fail)
  generalize alloc (alloc _ _) _=w0 at F0 X0 |-;have c0_0:=F0.o.c3 0 rfl;have c1_0:=F0.o.c3 1 rfl;go_wp2_with fail;refine(CA.o _ X0.o).mono ?_;rintro q w1 ⟨u,rfl,hu,hb⟩;have F1:=h_ (F0.o.call hb);have X1:=h_ (X0.o.below hb);have U1:=h_ (hu);have c0_1:=F1.o.c3 0 rfl;have c1_1:=F1.o.c3 1 rfl;obtain⟨a3,k3,c3,rfl⟩:=U1.o.fm;have zk:((k3:Int)==0)=false:=by rw[beq_eq_false_iff_ne];intro h;exact HZ.o (U1.o.dm.len0.2 (by omega))
  go_upto_region 2 with(fail)
  obtain⟨f,p⟩:=F1.o.s3 0 rfl (.bool n) (.slice a3 k3 c3) (.int .i64 e) rfl rfl rfl;generalize setCell _ _ _=W at f p |-;have F2:=h_ (f);have U2:=h_ (U1.o.kp p);simp only[set_cons_zero]at F2;have c0_2:=F2.o.c3 0 rfl;have c1_2:=F2.o.c3 1 rfl;have FC:=h_ (F2.o.c3 0 rfl).1;have FCD:=h_ (F2.o.drew.c3 0 rfl).1;have d1:=F2.o.drew.c3 1 rfl
  go_region_held3 (fun w'=>w'.cell? ⟨w.heap.size,0,none⟩=some (.bool n)/\w'.cell? ⟨w.heap.size,1,none⟩=some (.slice a3 k3 c3)/\w'.cell? ⟨w.heap.size,2,none⟩=some (.int .i64 e)) (first|with_reducible exact FCD.o|with_reducible exact FC.o|exact((F2.o.drew.s3 1 rfl (.bool n) (.slice a3 k3 c3) (.int .i64 e) rfl rfl rfl).1.c3 0 rfl).1) (first|fail)
  go_wp2;obtain⟨f0,p0⟩:=F2.o.s3 1 rfl (.bool n) (.slice a3 k3 c3) (.int .i64 e) rfl rfl rfl;have p:=(p0).trans (Kp.drew _);have f:=f0.drew;generalize drew (setCell (setCell (setCell _ _ _) _ _) _ _)=W at f p |-;have g1:=f.c3 1 rfl;refine bodyPost_ret (v:=.tuple #[.agg #[.bool n,.slice a3 k3 c3,.int .i64 e],.bool true]) (by simp[results,Tryz.results82,go_sem,g1]) rfl ?_;exact⟨_,rfl,U2.o.kp p,f.b⟩
def Xm(z:Int):Nat:=if z=0\/z=2 then 9218868437227405312 else 9218868437227405311
def Jc(z:Int):Nat:=if z=2 then 1 else 0
theorem Bh(z:Int)(hz:0<=z/\z<=3)(w:World):Calls Tryz.prog 84 #[.bool false,.int .i64 z] w fun e w'=>e=.returned (.tuple #[.int .u64 (Xm z:Nat),.int .u8 5])/\w=w':=by
 have R0:Calls Tryz.prog 84 #[.bool false,.int .i64 0] w fun e w'=>e=.returned (.tuple #[.int .u64 (Xm 0:Nat),.int .u8 5])/\w=w':=by
  have e:Xm 0=9218868437227405312:=by decide
  rw[e];have CU:=h_ (fun w=>Tk 0 (by decide) w);have CS:=h_ (fun w=>Wa 9218868437227405312 w);rw[show((0:Int)==2)=false from rfl]at CU;clear e hz;go_enter Tryz.func84,Tryz.ntmps84;go_wp2_with fail;refine(CS.o _).mono ?_;rintro e w2 ⟨rfl,rfl⟩;go_wp2;refine bodyPost_ret (v:=.tuple #[.int .u64 9218868437227405312,.int .u8 5]) (by simp[results,Tryz.results84,go_sem]) rfl ?_;exact⟨rfl,rfl⟩
 have R1:Calls Tryz.prog 84 #[.bool false,.int .i64 1] w fun e w'=>e=.returned (.tuple #[.int .u64 (Xm 1:Nat),.int .u8 5])/\w=w':=by
  have e:Xm 1=9218868437227405311:=by decide
  rw[e];have CU:=h_ (fun w=>Tk 1 (by decide) w);have CS:=h_ (fun w=>Wa 9218868437227405311 w);rw[show((1:Int)==2)=false from rfl]at CU;clear e hz;go_enter Tryz.func84,Tryz.ntmps84;go_wp2_with fail;refine(CU.o _).mono ?_;rintro e w2 ⟨rfl,rfl⟩;go_wp2_with fail;refine(CS.o _).mono ?_;rintro e w2 ⟨rfl,rfl⟩;go_wp2;refine bodyPost_ret (v:=.tuple #[.int .u64 9218868437227405311,.int .u8 5]) (by simp[results,Tryz.results84,go_sem]) rfl ?_;exact⟨rfl,rfl⟩
 have R2:Calls Tryz.prog 84 #[.bool false,.int .i64 2] w fun e w'=>e=.returned (.tuple #[.int .u64 (Xm 2:Nat),.int .u8 5])/\w=w':=by
  have e:Xm 2=9218868437227405312:=by decide
  rw[e];have CU:=h_ (fun w=>Tk 2 (by decide) w);have CS:=h_ (fun w=>Wa 9218868437227405312 w);rw[show((2:Int)==2)=true from rfl]at CU;clear e hz;go_enter Tryz.func84,Tryz.ntmps84;go_wp2_with fail;refine(CU.o _).mono ?_;rintro e w2 ⟨rfl,rfl⟩;go_wp2_with fail;refine(CS.o _).mono ?_;rintro e w2 ⟨rfl,rfl⟩;go_wp2;refine bodyPost_ret (v:=.tuple #[.int .u64 9218868437227405312,.int .u8 5]) (by simp[results,Tryz.results84,go_sem]) rfl ?_;exact⟨rfl,rfl⟩
 have R3:Calls Tryz.prog 84 #[.bool false,.int .i64 3] w fun e w'=>e=.returned (.tuple #[.int .u64 (Xm 3:Nat),.int .u8 5])/\w=w':=by
  have e:Xm 3=9218868437227405311:=by decide
  rw[e];have CU:=h_ (fun w=>Tk 3 (by decide) w);have CS:=h_ (fun w=>Wa 9218868437227405311 w);rw[show((3:Int)==2)=false from rfl]at CU;clear e hz;go_enter Tryz.func84,Tryz.ntmps84;go_wp2_with fail;refine(CU.o _).mono ?_;rintro e w2 ⟨rfl,rfl⟩;go_wp2_with fail;refine(CS.o _).mono ?_;rintro e w2 ⟨rfl,rfl⟩;go_wp2;refine bodyPost_ret (v:=.tuple #[.int .u64 9218868437227405311,.int .u8 5]) (by simp[results,Tryz.results84,go_sem]) rfl ?_;exact⟨rfl,rfl⟩
 rcases(by omega:z=0\/z=1\/z=2\/z=3)with rfl|rfl|rfl|rfl
 .exact R0
 .exact R1
 .exact R2
 .exact R3
theorem Eu(z:Int)(hz:0<=z/\z<=3)(w:World):Calls Tryz.prog 85 #[.bool false,.int .i64 z] w fun e w'=>e=.returned (.tuple #[.int .u64 (Jc z:Nat),.int .u8 3])/\w=w':=by
 have R0:Calls Tryz.prog 85 #[.bool false,.int .i64 0] w fun e w'=>e=.returned (.tuple #[.int .u64 (Jc 0:Nat),.int .u8 3])/\w=w':=by
  have e:Jc 0=0:=by decide
  rw[e];have CU:=h_ (fun w=>Tk 0 (by decide) w);have CS:=h_ (fun w=>Wa 0 w);rw[show((0:Int)==2)=false from rfl]at CU;clear e hz;go_enter Tryz.func85,Tryz.ntmps85;go_wp2_with fail;refine(CU.o _).mono ?_;rintro e w2 ⟨rfl,rfl⟩;go_wp2_with fail;refine(CS.o _).mono ?_;rintro e w2 ⟨rfl,rfl⟩;go_wp2;refine bodyPost_ret (v:=.tuple #[.int .u64 0,.int .u8 3]) (by simp[results,Tryz.results85,go_sem]) rfl ?_;exact⟨rfl,rfl⟩
 have R1:Calls Tryz.prog 85 #[.bool false,.int .i64 1] w fun e w'=>e=.returned (.tuple #[.int .u64 (Jc 1:Nat),.int .u8 3])/\w=w':=by
  have e:Jc 1=0:=by decide
  rw[e];have CU:=h_ (fun w=>Tk 1 (by decide) w);have CS:=h_ (fun w=>Wa 0 w);rw[show((1:Int)==2)=false from rfl]at CU;clear e hz;go_enter Tryz.func85,Tryz.ntmps85;go_wp2_with fail;refine(CU.o _).mono ?_;rintro e w2 ⟨rfl,rfl⟩;go_wp2_with fail;refine(CS.o _).mono ?_;rintro e w2 ⟨rfl,rfl⟩;go_wp2;refine bodyPost_ret (v:=.tuple #[.int .u64 0,.int .u8 3]) (by simp[results,Tryz.results85,go_sem]) rfl ?_;exact⟨rfl,rfl⟩
 have R2:Calls Tryz.prog 85 #[.bool false,.int .i64 2] w fun e w'=>e=.returned (.tuple #[.int .u64 (Jc 2:Nat),.int .u8 3])/\w=w':=by
  have e:Jc 2=1:=by decide
  rw[e];have CU:=h_ (fun w=>Tk 2 (by decide) w);have CS:=h_ (fun w=>Wa 1 w);rw[show((2:Int)==2)=true from rfl]at CU;clear e hz;go_enter Tryz.func85,Tryz.ntmps85;go_wp2_with fail;refine(CU.o _).mono ?_;rintro e w2 ⟨rfl,rfl⟩;go_wp2_with fail;refine(CS.o _).mono ?_;rintro e w2 ⟨rfl,rfl⟩;go_wp2;refine bodyPost_ret (v:=.tuple #[.int .u64 1,.int .u8 3]) (by simp[results,Tryz.results85,go_sem]) rfl ?_;exact⟨rfl,rfl⟩
 have R3:Calls Tryz.prog 85 #[.bool false,.int .i64 3] w fun e w'=>e=.returned (.tuple #[.int .u64 (Jc 3:Nat),.int .u8 3])/\w=w':=by
  have e:Jc 3=0:=by decide
  rw[e];have CU:=h_ (fun w=>Tk 3 (by decide) w);have CS:=h_ (fun w=>Wa 0 w);rw[show((3:Int)==2)=false from rfl]at CU;clear e hz;go_enter Tryz.func85,Tryz.ntmps85;go_wp2_with fail;refine(CU.o _).mono ?_;rintro e w2 ⟨rfl,rfl⟩;go_wp2_with fail;refine(CS.o _).mono ?_;rintro e w2 ⟨rfl,rfl⟩;go_wp2;refine bodyPost_ret (v:=.tuple #[.int .u64 0,.int .u8 3]) (by simp[results,Tryz.results85,go_sem]) rfl ?_;exact⟨rfl,rfl⟩
 rcases(by omega:z=0\/z=1\/z=2\/z=3)with rfl|rfl|rfl|rfl
 .exact R0
 .exact R1
 .exact R2
 .exact R3
theorem Qkl{x:Nat}(hx1:4503599627370496<=x)(hx2:x<9007199254740992):bits .and .u64 (x:Int) 4503599627370495=((x-4503599627370496:Nat):Int):=by
 have h1:x%4503599627370496=x-4503599627370496:=by omega
 rw[u64_and _ _ (Int.natCast_nonneg _) (by omega) (by decide) (by decide),Int.toNat_natCast,<-h1];congr 1;exact Nat.and_two_pow_sub_one_eq_mod x 52
theorem Qbj{x p:Nat}{un:Int}(hx1:4503599627370496<=x)(hx2:x<9007199254740992)(hp:(p:Int)=un+1074)(hp2:p<2047) :
  bits .or .u64 (bits .and .u64 (x:Int) 4503599627370495) ((un+1075)*4503599627370496)=((p*4503599627370496+x:Nat):Int):=by
 have e4:(un+1075)*4503599627370496=(((p+1)*4503599627370496:Nat):Int):=by omega
 rw[Qkl hx1 hx2,e4,u64_or _ _ (Int.natCast_nonneg _) (by omega) (Int.natCast_nonneg _) (by omega),Int.toNat_natCast,Int.toNat_natCast];congr 1;have h:=Gz (b:=p+1) (a:=x-4503599627370496) (t:=52) (by omega);have e':(2:Nat)^52=4503599627370496:=by decide
 rw[e']at h;rw[Nat.or_comm,Nat.mul_comm (p+1),h];omega
theorem Qcc{w:World}{u:Value}{d:Dn}(hu:Ry w u d)(sd:Sw d)(h0:d.m≠0){t:Int}(ht:t=Qg d)(hb:1023<t/\t<=100000) :
  Calls Tryz.prog 87 #[u] w fun e w'=>e=.returned (.tuple #[.int .u64 0,.bool false])/\Below w.heap.size w w':=by
 have CT:=h_ (fun w (h:Ry w u d)=>Wg h);have CA:=h_ (fun w (h:Ry w u d)=>Ti h sd);rw[<-ht,decide_eq_true h0]at CT;have bd:=sd.bare;obtain⟨a1,k1,c1,rfl⟩:=hu.form;generalize Qa d=D at *
 obtain⟨n,m,e⟩:=D;have z1:decide (1023<t)=true:=decide_eq_true hb.1;have hb1:=hb.2;have hb0:=hb.1;have HUU:=h_ hu;clear hu sd h0 ht bd hb;go_enter Tryz.func87,Tryz.ntmps87;have F0:=h_ (Fx.one w 42 #[.bool d.neg,.slice a1 k1 c1,.int .i64 d.e] rfl);have X0:=h_ (HUU.o.alloc (.cells #[.bool d.neg,.slice a1 k1 c1,.int .i64 d.e] 42));clear HUU;go_upto_region 1 with(fail)
 generalize alloc _ _=w0 at F0 X0 |-;have c0_0:=F0.o.c3 0 rfl;go_wp2_with fail;refine(CT.o _ X0.o).mono ?_;rintro q w1 ⟨rfl,hb⟩;have F1:=h_ (F0.o.call hb);have X1:=h_ (X0.o.below hb);clear hb;have c0_1:=F1.o.c3 0 rfl;go_wp2_with fail;refine(CA.o _ X1.o).mono ?_;rintro q w2 ⟨u,rfl,hu,hb⟩;have F2:=h_ (F1.o.call hb);have X2:=h_ (X1.o.below hb);have U2:=h_ (hu);clear hb;have c0_2:=F2.o.c3 0 rfl;obtain⟨a3,k3,c3,rfl⟩:=U2.o.fm;go_upto_region 7 with(fail)
 obtain⟨f,p⟩:=F2.o.s3 0 rfl (.bool n) (.slice a3 k3 c3) (.int .i64 e) rfl rfl rfl;generalize setCell _ _ _=W at f p |-;have F3:=h_ (f);have U3:=h_ (U2.o.kp p);simp only[set_cons_zero]at F3;have c0_3:=F3.o.c3 0 rfl;go_wp2;refine bodyPost_ret (v:=.tuple #[.int .u64 0,.bool false]) (by simp[results,Tryz.results87,go_sem]) rfl ?_;exact⟨rfl,F3.o.b⟩
theorem Ey{w:World}{u:Value}{d:Dn}(hu:Ry w u d)(sd:Sw d)(hneg:(Qa d).neg=false)(h0:d.m≠0){t:Int}(ht:t=Qg d)(htb:-1075<=t/\t<=1023){un:Int}(hun:un=max (t-52) (-1074))
  {k:Nat} (hk:(k:Int)=(Qa d).e-un) {x:Nat} (hx:x=(Qa d).m*2^k) (hx2:x<9007199254740992) (hx1:4503599627370496<=x\/un=-1074) {p:Nat} (hp:(p:Int)=un+1074) :
  Calls Tryz.prog 87 #[u] w fun e w'=>e=.returned (.tuple #[.int .u64 ((p*4503599627370496+x:Nat):Int),.bool true])/\Below w.heap.size w w':=by
 have CT:=h_ (fun w (h:Ry w u d)=>Wg h);have CA:=h_ (fun w (h:Ry w u d)=>Ti h sd);rw[<-ht,decide_eq_true h0]at CT;have bd:=sd.bare;obtain⟨a1,k1,c1,rfl⟩:=hu.form;generalize Qa d=D at *
 obtain⟨n,m,e⟩:=D;simp only at hneg hk hx bd;subst hneg;have CS:=h_ (fun w u (h:Dg w u m)=>Yh (h.rd (by omega)) k (by omega));rw[<-hx]at CS;have CM:=h_ (fun w u (h:Dg w u x)=>Gy (h.rd (Nat.le_trans (Zs (by omega)) (by decide))));rw[if_pos (show x<18446744073709551616 by omega),decide_eq_true (show x<18446744073709551616 by omega)]at CM;have q0:IntKind.i64.wrap (t-52)=t-52:=IntWalk.i64_in _ (by omega);have q1:max (t-52) (-1074)=un:=hun.symm;have z1:decide (1023<t)=false:=decide_eq_false (by omega);have z2:decide (e<un)=false:=decide_eq_false (by omega);have q3:e-un=(k:Int):=hk.symm;have q4:IntKind.i64.wrap (k:Int)=(k:Int):=IntWalk.i64_in _ (by omega);have tb:=htb;obtain⟨tb1,tb2⟩:=htb;obtain⟨y,hy⟩:∃y,y=p*4503599627370496+x:=⟨_,rfl⟩
 have HY:=h_ hy;rw[<-hy];have HUU:=h_ hu;have EB:Qb (4503599627370496<=x->bits .or .u64 (bits .and .u64 (x:Int) 4503599627370495) ((un+1075)*4503599627370496)=(y:Int)):=fun h=>by rw[hy];exact Qbj h hx2 hp (by omega)
 have EP:Qb (¬4503599627370496<=x->y=x):=fun h=>by
  have h1:un=-1074:=by rcases hx1 with h2|h2;exact absurd h2 h;exact h2
  rw[hy];omega
 clear hu sd h0 ht hk hx bd hun hx1 hx2 hp tb hy;go_enter Tryz.func87,Tryz.ntmps87;have F0:=h_ (Fx.one w 42 #[.bool d.neg,.slice a1 k1 c1,.int .i64 d.e] rfl);have X0:=h_ (HUU.o.alloc (.cells #[.bool d.neg,.slice a1 k1 c1,.int .i64 d.e] 42));clear HUU;go_upto_region 1 with(fail)
 generalize alloc _ _=w0 at F0 X0 |-;have c0_0:=F0.o.c3 0 rfl;go_wp2_with fail;refine(CT.o _ X0.o).mono ?_;rintro q w1 ⟨rfl,hb⟩;have F1:=h_ (F0.o.call hb);have X1:=h_ (X0.o.below hb);have c0_1:=F1.o.c3 0 rfl;go_wp2_with fail;refine(CA.o _ X1.o).mono ?_;rintro q w2 ⟨u,rfl,hu,hb⟩;have F2:=h_ (F1.o.call hb);have X2:=h_ (X1.o.below hb);have U2:=h_ (hu);have c0_2:=F2.o.c3 0 rfl;obtain⟨a3,k3,c3,rfl⟩:=U2.o.fm;go_upto_region 7 with(fail)
 obtain⟨f,p⟩:=F2.o.s3 0 rfl (.bool false) (.slice a3 k3 c3) (.int .i64 e) rfl rfl rfl;generalize setCell _ _ _=W at f p |-;have F3:=h_ (f);have U3:=h_ (U2.o.kp p);simp only[set_cons_zero]at F3;have c0_3:=F3.o.c3 0 rfl;go_wp2_with fail;refine(CS.o _ _ U3.o.dm).mono ?_;rintro q w4 ⟨u,rfl,hu,hb⟩;have F4:=h_ (F3.o.call hb);have U4:=h_ (U3.o.below hb);have V4:=h_ (hu);have c0_4:=F4.o.c3 0 rfl;obtain⟨a4,k4,c4,rfl⟩:=V4.o.form;go_wp2_with fail;refine(CM.o _ _ V4.o).mono ?_;rintro q w5 ⟨rfl,hb⟩;have F5:=h_ (F4.o.call hb);have U5:=h_ (U4.o.below hb);have V5:=h_ (V4.o.below hb);have c0_5:=F5.o.c3 0 rfl;by_cases h52:4503599627370496<=x
 .have z3:decide (4503599627370496<=(x:Int))=true:=decide_eq_true (by omega);have z4:decide (4503599627370496<=x)=true:=decide_eq_true h52;have eb:=EB.o h52;clear h52 EB EP HY;go_wp2;refine bodyPost_ret (v:=.tuple #[.int .u64 (y:Int),.bool true]) (by simp[results,Tryz.results87,go_sem,<-eb]) rfl ?_;exact⟨rfl,F5.o.b⟩
 .have z3:decide (4503599627370496<=(x:Int))=false:=decide_eq_false (by omega);have z4:decide (4503599627370496<=x)=false:=decide_eq_false h52;have e:=h_ (EP.o h52);clear h52 EB EP HY;go_wp2;refine bodyPost_ret (v:=.tuple #[.int .u64 (y:Int),.bool true]) (by rw[e.o];simp[results,Tryz.results87,go_sem]) rfl ?_;exact⟨rfl,F5.o.b⟩
theorem Oj{w:World}{u:Value}{d:Dn}(hu:Ry w u d)(h0:d.m=0) :
  Calls Tryz.prog 87 #[u] w fun e w'=>e=.returned (.tuple #[.int .u64 0,.bool true])/\Below w.heap.size w w':=by
 have CT:=h_ (fun w (h:Ry w u d)=>Wg h);rw[decide_eq_false (by omega)]at CT;obtain⟨a1,k1,c1,rfl⟩:=hu.form;have HUU:=h_ hu;clear hu h0;go_enter Tryz.func87,Tryz.ntmps87;have F0:=h_ (Fx.one w 42 #[.bool d.neg,.slice a1 k1 c1,.int .i64 d.e] rfl);have X0:=h_ (HUU.o.alloc (.cells #[.bool d.neg,.slice a1 k1 c1,.int .i64 d.e] 42));clear HUU;go_upto_region 1 with(fail)
 generalize alloc _ _=w0 at F0 X0 |-;have c0_0:=F0.o.c3 0 rfl;go_wp2_with fail;refine(CT.o _ X0.o).mono ?_;rintro q w1 ⟨rfl,hb⟩;have F1:=h_ (F0.o.call hb);have X1:=h_ (X0.o.below hb);have c0_1:=F1.o.c3 0 rfl;go_wp2;refine bodyPost_ret (v:=.tuple #[.int .u64 0,.bool true]) (by simp[results,Tryz.results87,go_sem]) rfl ?_;exact⟨rfl,F1.o.b⟩
theorem Qha{w:World}{u:Value}{d:Dn}(hu:Ry w u d)(sd:Sw d)(hneg:(Qa d).neg=false)(h0:(Qa d).m≠0)(more:Bool)(z:Int)(hz:0<=z/\z<=3){t:Int}(ht:t=Qg (Qa d))(hc:1023<t) :
  Calls Tryz.prog 40 #[u,.bool more,.int .i64 z] w fun e w'=>e=.returned (.tuple #[.int .u64 (Xm z:Nat),.int .u8 5,.int .i64 0])/\Below w.heap.size w w':=by
 have CR:=h_ (fun w (h:Ry w u d)=>Nj h sd h0 more z hz);have bd:=sd.bare;obtain⟨a1,k1,c1,rfl⟩:=hu.form;generalize Qa d=D at *
 have CT:=h_ (fun w u (h:Cy w u D)=>Wg h.ry);rw[decide_eq_true h0,<-ht]at CT;obtain⟨nn,m,e⟩:=D;simp only at hneg bd;subst hneg;have CO:=h_ (fun w=>Bh z hz w);generalize Xm z=b at *
 have z1:decide (1023<t)=true:=decide_eq_true (by omega);have HUU:=h_ hu;clear hu sd h0 ht bd hz hc;have F0:=h_ (Fx.one w 42 #[.bool d.neg,.slice a1 k1 c1,.int .i64 d.e] rfl);have X0:=h_ (HUU.o.alloc (.cells #[.bool d.neg,.slice a1 k1 c1,.int .i64 d.e] 42));clear HUU;go_enter Tryz.func40,Tryz.ntmps40;go_upto_region 1 with(fail)
 generalize alloc _ _=w0 at F0 X0 |-;have c0_0:=F0.o.c3 0 rfl;go_wp2_with fail;refine(CR.o _ X0.o).mono ?_;rintro q w1 ⟨u,rfl,hu,hb⟩;have F1:=h_ (F0.o.call hb);have X1:=h_ (X0.o.below hb);have U1:=h_ (hu);have c0_1:=F1.o.c3 0 rfl;obtain⟨a3,k3,c3,rfl⟩:=U1.o.fm;go_upto_region 4 with(fail)
 obtain⟨f,p⟩:=F1.o.s3 0 rfl (.bool false) (.slice a3 k3 c3) (.int .i64 e) rfl rfl rfl;generalize setCell _ _ _=W at f p |-;have F2:=h_ (f);have U2:=h_ (U1.o.kp p);simp only[set_cons_zero]at F2;have c0_2:=F2.o.c3 0 rfl;go_wp2_with fail;refine(CT.o _ _ U2.o).mono ?_;rintro q w3 ⟨rfl,hb⟩;have F3:=h_ (F2.o.call hb);have U3:=h_ (U2.o.below hb);have c0_3:=F3.o.c3 0 rfl;go_wp2_with fail;refine(CO.o _).mono ?_;rintro q w4 ⟨rfl,rfl⟩;go_wp2;refine bodyPost_ret (v:=.tuple #[.int .u64 (b:Int),.int .u8 5,.int .i64 0]) (by simp[results,Tryz.results40,go_sem]) rfl ?_;exact⟨rfl,F3.o.b⟩
theorem Qdy{w:World}{u:Value}{d:Dn}(hu:Ry w u d)(sd:Sw d)(hneg:(Qa d).neg=false)(h0:(Qa d).m≠0)(more:Bool)(z:Int)(hz:0<=z/\z<=3){t:Int}(ht:t=Qg (Qa d))(hc:t < -1075) :
  Calls Tryz.prog 40 #[u,.bool more,.int .i64 z] w fun e w'=>e=.returned (.tuple #[.int .u64 (Jc z:Nat),.int .u8 3,.int .i64 0])/\Below w.heap.size w w':=by
 have CR:=h_ (fun w (h:Ry w u d)=>Nj h sd h0 more z hz);have bd:=sd.bare;obtain⟨a1,k1,c1,rfl⟩:=hu.form;generalize Qa d=D at *
 have CT:=h_ (fun w u (h:Cy w u D)=>Wg h.ry);rw[decide_eq_true h0,<-ht]at CT;obtain⟨nn,m,e⟩:=D;simp only at hneg bd;subst hneg;have CO:=h_ (fun w=>Eu z hz w);generalize Jc z=b at *
 have z1:decide (1023<t)=false:=decide_eq_false (by omega);have z2:decide (t < -1075)=true:=decide_eq_true hc;have HUU:=h_ hu;clear hu sd h0 ht bd hz hc;have F0:=h_ (Fx.one w 42 #[.bool d.neg,.slice a1 k1 c1,.int .i64 d.e] rfl);have X0:=h_ (HUU.o.alloc (.cells #[.bool d.neg,.slice a1 k1 c1,.int .i64 d.e] 42));clear HUU;go_enter Tryz.func40,Tryz.ntmps40;go_upto_region 1 with(fail)
 generalize alloc _ _=w0 at F0 X0 |-;have c0_0:=F0.o.c3 0 rfl;go_wp2_with fail;refine(CR.o _ X0.o).mono ?_;rintro q w1 ⟨u,rfl,hu,hb⟩;have F1:=h_ (F0.o.call hb);have X1:=h_ (X0.o.below hb);have U1:=h_ (hu);have c0_1:=F1.o.c3 0 rfl;obtain⟨a3,k3,c3,rfl⟩:=U1.o.fm;go_upto_region 4 with(fail)
 obtain⟨f,p⟩:=F1.o.s3 0 rfl (.bool false) (.slice a3 k3 c3) (.int .i64 e) rfl rfl rfl;generalize setCell _ _ _=W at f p |-;have F2:=h_ (f);have U2:=h_ (U1.o.kp p);simp only[set_cons_zero]at F2;have c0_2:=F2.o.c3 0 rfl;go_wp2_with fail;refine(CT.o _ _ U2.o).mono ?_;rintro q w3 ⟨rfl,hb⟩;have F3:=h_ (F2.o.call hb);have U3:=h_ (U2.o.below hb);have c0_3:=F3.o.c3 0 rfl;go_wp2_with fail;refine(CO.o _).mono ?_;rintro q w4 ⟨rfl,rfl⟩;go_wp2;refine bodyPost_ret (v:=.tuple #[.int .u64 (b:Int),.int .u8 3,.int .i64 0]) (by simp[results,Tryz.results40,go_sem]) rfl ?_;exact⟨rfl,F3.o.b⟩
def Qep(fits ix tn:Bool):Int:=if fits then(if ix then(if tn then 3 else 1)else 0)else 5
theorem Qg9{w:World}{u:Value}{d:Dn}(hu:Ry w u d)(sd:Sw d)(hneg:(Qa d).neg=false)(h0:(Qa d).m≠0)(more:Bool)(z:Int)(hz:0<=z/\z<=3)
  {t:Int} (ht:t=Qg (Qa d)) (htb:-1075<=t/\t<=1023) {un:Int} (hun:un=max (t-52) (-1074)) {n:Int} (hn:n=un-(Qa d).e) (hnb:-9000<=n/\n<=9000)
  {wm:Nat} {ix:Bool} (hw:Xf (Qa d).m n z more=(wm,ix)) (hwb:bl wm<=3000) {tn:Bool} (htn:decide (t < -1022)=tn) {fits:Bool} {b:Nat}
  (ce:∀w u,Cy w u (Qa ⟨false,wm,un⟩)->Calls Tryz.prog 87 #[u] w fun e w'=>e=.returned (.tuple #[.int .u64 (b:Int),.bool fits])/\Below w.heap.size w w') :
  Calls Tryz.prog 40 #[u,.bool more,.int .i64 z] w fun e w'=>e=.returned (.tuple #[.int .u64 ((if fits then b else Xm z:Nat):Int),.int .u8 (Qep fits ix tn),.int .i64 0])/\Below w.heap.size w w':=by
 have CR:=h_ (fun w (h:Ry w u d)=>Nj h sd h0 more z hz);have bd:=sd.bare;obtain⟨a1,k1,c1,rfl⟩:=hu.form;generalize Qa d=D at *
 have CT:=h_ (fun w u (h:Cy w u D)=>Wg h.ry);rw[decide_eq_true h0,<-ht]at CT;have CW:=h_ (fun w u (h:Cy w u D)=>Ac h more z hz un n hn (by omega) (by omega) hneg);rw[hw]at CW;obtain⟨nn,m,e⟩:=D;simp only at hneg hn bd CW;subst hneg;have CM:=h_ (fun w u (h:Dg w u wm)=>Kf (neg:=false) (e:=un) (h.rd (by omega)) (by omega) (by omega));have CE:=h_ ce;generalize Qa ⟨false,wm,un⟩=O at *
 obtain⟨on,om,oe⟩:=O;have CO:=h_ (fun w=>Bh z hz w);have CG:=h_ (fun w=>Wa b w);generalize Xm z=ob at *
 have q0:IntKind.i64.wrap (t-52)=t-52:=IntWalk.i64_in _ (by omega);have q1:max (t-52) (-1074)=un:=hun.symm;have z1:decide (1023<t)=false:=decide_eq_false (by omega);have z2:decide (t < -1075)=false:=decide_eq_false (by omega);have HUU:=h_ hu;obtain⟨tb1,tb2⟩:=htb;clear hu sd h0 ht hn hnb hw hwb bd hun hz ce;have hor:bits .or .u8 1 2=3:=by decide
 cases fits
 case false =>
  have F0:=h_ (Fx.one w 42 #[.bool d.neg,.slice a1 k1 c1,.int .i64 d.e] rfl);have X0:=h_ (HUU.o.alloc (.cells #[.bool d.neg,.slice a1 k1 c1,.int .i64 d.e] 42));clear HUU;go_enter Tryz.func40,Tryz.ntmps40;go_upto_region 1 with(fail)
  generalize alloc _ _=w0 at F0 X0 |-;have c0_0:=F0.o.c3 0 rfl;go_wp2_with fail;refine(CR.o _ X0.o).mono ?_;rintro q w1 ⟨u,rfl,hu,hb⟩;have F1:=h_ (F0.o.call hb);have X1:=h_ (X0.o.below hb);have U1:=h_ (hu);have c0_1:=F1.o.c3 0 rfl;obtain⟨a3,k3,c3,rfl⟩:=U1.o.fm;go_upto_region 4 with(fail)
  obtain⟨f,p⟩:=F1.o.s3 0 rfl (.bool false) (.slice a3 k3 c3) (.int .i64 e) rfl rfl rfl;generalize setCell _ _ _=W at f p |-;have F2:=h_ (f);have U2:=h_ (U1.o.kp p);simp only[set_cons_zero]at F2;have c0_2:=F2.o.c3 0 rfl;go_wp2_with fail;refine(CT.o _ _ U2.o).mono ?_;rintro q w3 ⟨rfl,hb⟩;have F3:=h_ (F2.o.call hb);have U3:=h_ (U2.o.below hb);have c0_3:=F3.o.c3 0 rfl;go_wp2_with fail;refine(CW.o _ _ U3.o).mono ?_;rintro q w4 ⟨u,rfl,hu,hb⟩;have F4:=h_ (F3.o.call hb);have U4:=h_ (U3.o.below hb);have V4:=h_ (hu);have c0_4:=F4.o.c3 0 rfl;obtain⟨a4,k4,c4,rfl⟩:=V4.o.form;go_wp2_with fail;refine(CM.o _ _ V4.o).mono ?_;rintro q w5 ⟨u,rfl,hu,hb⟩;have F5:=h_ (F4.o.call hb);have U5:=h_ (U4.o.below hb);have V5:=h_ (V4.o.below hb);have W5:=h_ (hu);have c0_5:=F5.o.c3 0 rfl;obtain⟨a5,k5,c5,rfl⟩:=W5.o.fm;go_upto_region 16 with(fail)
  have F6:=h_ (F5.o.new 42 #[.bool on,.slice a5 k5 c5,.int .i64 oe] rfl);have U6:=h_ (U5.o.alloc (.cells #[.bool on,.slice a5 k5 c5,.int .i64 oe] 42));have V6:=h_ (V5.o.alloc (.cells #[.bool on,.slice a5 k5 c5,.int .i64 oe] 42));have W6:=h_ (W5.o.alloc (.cells #[.bool on,.slice a5 k5 c5,.int .i64 oe] 42));obtain⟨g1,hg1⟩:∃g,g=(World.heap w5).size:=⟨_,rfl⟩
  rw[<-hg1]at F6 |-;clear hg1;simp only[nil_append,cons_append]at F6;generalize alloc w5 _=W6 at F6 U6 V6 W6 |-;have c0_6:=F6.o.c3 0 rfl;have c1_6:=F6.o.c3 1 rfl;go_wp2_with fail;refine(CE.o _ _ W6.o).mono ?_;rintro q w7 ⟨rfl,hb⟩;have F7:=h_ (F6.o.call hb);have U7:=h_ (U6.o.below hb);have V7:=h_ (V6.o.below hb);have W7:=h_ (W6.o.below hb);have c0_7:=F7.o.c3 0 rfl;have c1_7:=F7.o.c3 1 rfl;go_wp2_with fail;refine(CO.o _).mono ?_;rintro q w8 ⟨rfl,rfl⟩;go_wp2;refine bodyPost_ret (v:=.tuple #[.int .u64 (ob:Int),.int .u8 5,.int .i64 0]) (by simp[results,Tryz.results40,go_sem]) rfl ?_;exact⟨rfl,F7.o.b⟩
 case true =>
  cases ix
  case false =>
   have F0:=h_ (Fx.one w 42 #[.bool d.neg,.slice a1 k1 c1,.int .i64 d.e] rfl);have X0:=h_ (HUU.o.alloc (.cells #[.bool d.neg,.slice a1 k1 c1,.int .i64 d.e] 42));clear HUU;go_enter Tryz.func40,Tryz.ntmps40;go_upto_region 1 with(fail)
   generalize alloc _ _=w0 at F0 X0 |-;have c0_0:=F0.o.c3 0 rfl;go_wp2_with fail;refine(CR.o _ X0.o).mono ?_;rintro q w1 ⟨u,rfl,hu,hb⟩;have F1:=h_ (F0.o.call hb);have X1:=h_ (X0.o.below hb);have U1:=h_ (hu);have c0_1:=F1.o.c3 0 rfl;obtain⟨a3,k3,c3,rfl⟩:=U1.o.fm;go_upto_region 4 with(fail)
   obtain⟨f,p⟩:=F1.o.s3 0 rfl (.bool false) (.slice a3 k3 c3) (.int .i64 e) rfl rfl rfl;generalize setCell _ _ _=W at f p |-;have F2:=h_ (f);have U2:=h_ (U1.o.kp p);simp only[set_cons_zero]at F2;have c0_2:=F2.o.c3 0 rfl;go_wp2_with fail;refine(CT.o _ _ U2.o).mono ?_;rintro q w3 ⟨rfl,hb⟩;have F3:=h_ (F2.o.call hb);have U3:=h_ (U2.o.below hb);have c0_3:=F3.o.c3 0 rfl;go_wp2_with fail;refine(CW.o _ _ U3.o).mono ?_;rintro q w4 ⟨u,rfl,hu,hb⟩;have F4:=h_ (F3.o.call hb);have U4:=h_ (U3.o.below hb);have V4:=h_ (hu);have c0_4:=F4.o.c3 0 rfl;obtain⟨a4,k4,c4,rfl⟩:=V4.o.form;go_wp2_with fail;refine(CM.o _ _ V4.o).mono ?_;rintro q w5 ⟨u,rfl,hu,hb⟩;have F5:=h_ (F4.o.call hb);have U5:=h_ (U4.o.below hb);have V5:=h_ (V4.o.below hb);have W5:=h_ (hu);have c0_5:=F5.o.c3 0 rfl;obtain⟨a5,k5,c5,rfl⟩:=W5.o.fm;go_upto_region 16 with(fail)
   have F6:=h_ (F5.o.new 42 #[.bool on,.slice a5 k5 c5,.int .i64 oe] rfl);have U6:=h_ (U5.o.alloc (.cells #[.bool on,.slice a5 k5 c5,.int .i64 oe] 42));have V6:=h_ (V5.o.alloc (.cells #[.bool on,.slice a5 k5 c5,.int .i64 oe] 42));have W6:=h_ (W5.o.alloc (.cells #[.bool on,.slice a5 k5 c5,.int .i64 oe] 42));obtain⟨g1,hg1⟩:∃g,g=(World.heap w5).size:=⟨_,rfl⟩
   rw[<-hg1]at F6 |-;clear hg1;simp only[nil_append,cons_append]at F6;generalize alloc w5 _=W6 at F6 U6 V6 W6 |-;have c0_6:=F6.o.c3 0 rfl;have c1_6:=F6.o.c3 1 rfl;go_wp2_with fail;refine(CE.o _ _ W6.o).mono ?_;rintro q w7 ⟨rfl,hb⟩;have F7:=h_ (F6.o.call hb);have U7:=h_ (U6.o.below hb);have V7:=h_ (V6.o.below hb);have W7:=h_ (W6.o.below hb);have c0_7:=F7.o.c3 0 rfl;have c1_7:=F7.o.c3 1 rfl;go_wp2_with fail;refine(CG.o _).mono ?_;rintro q w8 ⟨rfl,rfl⟩;go_wp2;refine bodyPost_ret (v:=.tuple #[.int .u64 (b:Int),.int .u8 0,.int .i64 0]) (by simp[results,Tryz.results40,go_sem]) rfl ?_;exact⟨rfl,F7.o.b⟩
  case true =>
   cases tn
   case false =>
    have F0:=h_ (Fx.one w 42 #[.bool d.neg,.slice a1 k1 c1,.int .i64 d.e] rfl);have X0:=h_ (HUU.o.alloc (.cells #[.bool d.neg,.slice a1 k1 c1,.int .i64 d.e] 42));clear HUU;go_enter Tryz.func40,Tryz.ntmps40;go_upto_region 1 with(fail)
    generalize alloc _ _=w0 at F0 X0 |-;have c0_0:=F0.o.c3 0 rfl;go_wp2_with fail;refine(CR.o _ X0.o).mono ?_;rintro q w1 ⟨u,rfl,hu,hb⟩;have F1:=h_ (F0.o.call hb);have X1:=h_ (X0.o.below hb);have U1:=h_ (hu);have c0_1:=F1.o.c3 0 rfl;obtain⟨a3,k3,c3,rfl⟩:=U1.o.fm;go_upto_region 4 with(fail)
    obtain⟨f,p⟩:=F1.o.s3 0 rfl (.bool false) (.slice a3 k3 c3) (.int .i64 e) rfl rfl rfl;generalize setCell _ _ _=W at f p |-;have F2:=h_ (f);have U2:=h_ (U1.o.kp p);simp only[set_cons_zero]at F2;have c0_2:=F2.o.c3 0 rfl;go_wp2_with fail;refine(CT.o _ _ U2.o).mono ?_;rintro q w3 ⟨rfl,hb⟩;have F3:=h_ (F2.o.call hb);have U3:=h_ (U2.o.below hb);have c0_3:=F3.o.c3 0 rfl;go_wp2_with fail;refine(CW.o _ _ U3.o).mono ?_;rintro q w4 ⟨u,rfl,hu,hb⟩;have F4:=h_ (F3.o.call hb);have U4:=h_ (U3.o.below hb);have V4:=h_ (hu);have c0_4:=F4.o.c3 0 rfl;obtain⟨a4,k4,c4,rfl⟩:=V4.o.form;go_wp2_with fail;refine(CM.o _ _ V4.o).mono ?_;rintro q w5 ⟨u,rfl,hu,hb⟩;have F5:=h_ (F4.o.call hb);have U5:=h_ (U4.o.below hb);have V5:=h_ (V4.o.below hb);have W5:=h_ (hu);have c0_5:=F5.o.c3 0 rfl;obtain⟨a5,k5,c5,rfl⟩:=W5.o.fm;go_upto_region 16 with(fail)
    have F6:=h_ (F5.o.new 42 #[.bool on,.slice a5 k5 c5,.int .i64 oe] rfl);have U6:=h_ (U5.o.alloc (.cells #[.bool on,.slice a5 k5 c5,.int .i64 oe] 42));have V6:=h_ (V5.o.alloc (.cells #[.bool on,.slice a5 k5 c5,.int .i64 oe] 42));have W6:=h_ (W5.o.alloc (.cells #[.bool on,.slice a5 k5 c5,.int .i64 oe] 42));obtain⟨g1,hg1⟩:∃g,g=(World.heap w5).size:=⟨_,rfl⟩
    rw[<-hg1]at F6 |-;clear hg1;simp only[nil_append,cons_append]at F6;generalize alloc w5 _=W6 at F6 U6 V6 W6 |-;have c0_6:=F6.o.c3 0 rfl;have c1_6:=F6.o.c3 1 rfl;go_wp2_with fail;refine(CE.o _ _ W6.o).mono ?_;rintro q w7 ⟨rfl,hb⟩;have F7:=h_ (F6.o.call hb);have U7:=h_ (U6.o.below hb);have V7:=h_ (V6.o.below hb);have W7:=h_ (W6.o.below hb);have c0_7:=F7.o.c3 0 rfl;have c1_7:=F7.o.c3 1 rfl;go_wp2_with fail;refine(CG.o _).mono ?_;rintro q w8 ⟨rfl,rfl⟩;go_wp2;refine bodyPost_ret (v:=.tuple #[.int .u64 (b:Int),.int .u8 1,.int .i64 0]) (by simp[results,Tryz.results40,go_sem]) rfl ?_;exact⟨rfl,F7.o.b⟩
   case true =>
    have F0:=h_ (Fx.one w 42 #[.bool d.neg,.slice a1 k1 c1,.int .i64 d.e] rfl);have X0:=h_ (HUU.o.alloc (.cells #[.bool d.neg,.slice a1 k1 c1,.int .i64 d.e] 42));clear HUU;go_enter Tryz.func40,Tryz.ntmps40;go_upto_region 1 with(fail)
    generalize alloc _ _=w0 at F0 X0 |-;have c0_0:=F0.o.c3 0 rfl;go_wp2_with fail;refine(CR.o _ X0.o).mono ?_;rintro q w1 ⟨u,rfl,hu,hb⟩;have F1:=h_ (F0.o.call hb);have X1:=h_ (X0.o.below hb);have U1:=h_ (hu);have c0_1:=F1.o.c3 0 rfl;obtain⟨a3,k3,c3,rfl⟩:=U1.o.fm;go_upto_region 4 with(fail)
    obtain⟨f,p⟩:=F1.o.s3 0 rfl (.bool false) (.slice a3 k3 c3) (.int .i64 e) rfl rfl rfl;generalize setCell _ _ _=W at f p |-;have F2:=h_ (f);have U2:=h_ (U1.o.kp p);simp only[set_cons_zero]at F2;have c0_2:=F2.o.c3 0 rfl;go_wp2_with fail;refine(CT.o _ _ U2.o).mono ?_;rintro q w3 ⟨rfl,hb⟩;have F3:=h_ (F2.o.call hb);have U3:=h_ (U2.o.below hb);have c0_3:=F3.o.c3 0 rfl;go_wp2_with fail;refine(CW.o _ _ U3.o).mono ?_;rintro q w4 ⟨u,rfl,hu,hb⟩;have F4:=h_ (F3.o.call hb);have U4:=h_ (U3.o.below hb);have V4:=h_ (hu);have c0_4:=F4.o.c3 0 rfl;obtain⟨a4,k4,c4,rfl⟩:=V4.o.form;go_wp2_with fail;refine(CM.o _ _ V4.o).mono ?_;rintro q w5 ⟨u,rfl,hu,hb⟩;have F5:=h_ (F4.o.call hb);have U5:=h_ (U4.o.below hb);have V5:=h_ (V4.o.below hb);have W5:=h_ (hu);have c0_5:=F5.o.c3 0 rfl;obtain⟨a5,k5,c5,rfl⟩:=W5.o.fm;go_upto_region 16 with(fail)
    have F6:=h_ (F5.o.new 42 #[.bool on,.slice a5 k5 c5,.int .i64 oe] rfl);have U6:=h_ (U5.o.alloc (.cells #[.bool on,.slice a5 k5 c5,.int .i64 oe] 42));have V6:=h_ (V5.o.alloc (.cells #[.bool on,.slice a5 k5 c5,.int .i64 oe] 42));have W6:=h_ (W5.o.alloc (.cells #[.bool on,.slice a5 k5 c5,.int .i64 oe] 42));obtain⟨g1,hg1⟩:∃g,g=(World.heap w5).size:=⟨_,rfl⟩
    rw[<-hg1]at F6 |-;clear hg1;simp only[nil_append,cons_append]at F6;generalize alloc w5 _=W6 at F6 U6 V6 W6 |-;have c0_6:=F6.o.c3 0 rfl;have c1_6:=F6.o.c3 1 rfl;go_wp2_with fail;refine(CE.o _ _ W6.o).mono ?_;rintro q w7 ⟨rfl,hb⟩;have F7:=h_ (F6.o.call hb);have U7:=h_ (U6.o.below hb);have V7:=h_ (V6.o.below hb);have W7:=h_ (W6.o.below hb);have c0_7:=F7.o.c3 0 rfl;have c1_7:=F7.o.c3 1 rfl;go_wp2_with fail;refine(CG.o _).mono ?_;rintro q w8 ⟨rfl,rfl⟩;go_wp2;refine bodyPost_ret (v:=.tuple #[.int .u64 (b:Int),.int .u8 3,.int .i64 0]) (by simp[results,Tryz.results40,go_sem]) rfl ?_;exact⟨rfl,F7.o.b⟩
theorem Kd{w:World}{u:Value}{d:Dn}(hu:Cy w u d):Calls Tryz.prog 97 #[u,.bool false] w (Mb d w):=by
 obtain⟨n,m,e⟩:=d;obtain⟨a1,k1,c1,rfl⟩:=hu.fm;have HX:=h_ hu;clear hu;go_enter Tryz.func97,Tryz.ntmps97;have F0:=h_ (Fx.two w 42 #[.bool n,.slice a1 k1 c1,.int .i64 e] 42 #[.bool false,.slice none 0 0,.int .i64 0] rfl rfl);have X0:=h_ ((HX.o.alloc (.cells #[.bool n,.slice a1 k1 c1,.int .i64 e] 42)).alloc (.cells #[.bool false,.slice none 0 0,.int .i64 0] 42));go_upto_region 1 with(fail)
 generalize alloc (alloc _ _) _=w0 at F0 X0 |-;have c0_0:=F0.o.c3 0 rfl;have c1_0:=F0.o.c3 1 rfl;go_wp2;obtain⟨f0,p0⟩:=F0.o.s3 1 rfl (.bool n) (.slice a1 k1 c1) (.int .i64 e) rfl rfl rfl;have p:=p0;have f:=f0;generalize setCell _ _ _=W at f p |-;have g1:=f.c3 1 rfl;refine bodyPost_ret (v:=.agg #[.bool n,.slice a1 k1 c1,.int .i64 e]) (by simp[results,Tryz.results97,go_sem,g1]) rfl ?_;exact⟨_,rfl,X0.o.kp p,f.b⟩
theorem Bx{w:World}(z:Int)(hz:0<=z/\z<=3):Calls Tryz.prog 92 #[.int .i64 1,.bool false,.int .i64 z] w fun e w'=>e=.returned (.tuple #[.int .u64 (Xm z:Nat),.int .u8 5,.bool true])/\Below w.heap.size w w':=by
 have HF:=h_ (show Fx w ((w.alloc (.cells #[.int .u64 1] 22)).alloc (.cells #[.bool false,.slice (some ⟨w.heap.size,0,none⟩) 1 1,.int .i64 0] 42)) [(w.heap.size+1,42,#[.bool false,.slice (some ⟨w.heap.size,0,none⟩) 1 1,.int .i64 0])]from by
  have:=((Fx.nil w).alloc (.cells #[.int .u64 1] 22)).new 42 #[.bool false,.slice (some ⟨w.heap.size,0,none⟩) 1 1,.int .i64 0] rfl;simpa using this)
 have CO:=h_ (fun w=>Bh z hz w);generalize Xm z=b at *
 have t1:decide (z<0)=false:=decide_eq_false (by omega);have t2:decide (3<z)=false:=decide_eq_false (by omega);have t3:¬z<0:=by omega
 have t4:¬3<z:=by omega
 clear hz;go_enter Tryz.func92,Tryz.ntmps92;go_wp2_with fail;refine(CO.o _).mono ?_;rintro q w1 ⟨rfl,rfl⟩;go_wp2;refine bodyPost_ret (v:=.tuple #[.int .u64 (b:Int),.int .u8 5,.bool true]) (by simp[results,Tryz.results92,go_sem]) rfl ?_;exact⟨rfl,HF.o.b⟩
theorem Be{w:World}(z:Int)(hz:0<=z/\z<=3):Calls Tryz.prog 92 #[.int .i64 2,.bool false,.int .i64 z] w fun e w'=>e=.returned (.tuple #[.int .u64 (Jc z:Nat),.int .u8 3,.bool true])/\Below w.heap.size w w':=by
 have HF:=h_ (show Fx w ((w.alloc (.cells #[.int .u64 1] 22)).alloc (.cells #[.bool false,.slice (some ⟨w.heap.size,0,none⟩) 1 1,.int .i64 0] 42)) [(w.heap.size+1,42,#[.bool false,.slice (some ⟨w.heap.size,0,none⟩) 1 1,.int .i64 0])]from by
  have:=((Fx.nil w).alloc (.cells #[.int .u64 1] 22)).new 42 #[.bool false,.slice (some ⟨w.heap.size,0,none⟩) 1 1,.int .i64 0] rfl;simpa using this)
 have CO:=h_ (fun w=>Eu z hz w);generalize Jc z=b at *
 have t1:decide (z<0)=false:=decide_eq_false (by omega);have t2:decide (3<z)=false:=decide_eq_false (by omega);have t3:¬z<0:=by omega
 have t4:¬3<z:=by omega
 clear hz;go_enter Tryz.func92,Tryz.ntmps92;go_wp2_with fail;refine(CO.o _).mono ?_;rintro q w1 ⟨rfl,rfl⟩;go_wp2;refine bodyPost_ret (v:=.tuple #[.int .u64 (b:Int),.int .u8 3,.bool true]) (by simp[results,Tryz.results92,go_sem]) rfl ?_;exact⟨rfl,HF.o.b⟩
end Go.Proofs.YtobpioceopfkpaaGreatDoor
namespace Go.Proofs.YtobpioceopfkpaaGreatDoor.Rl
def Jr(f:Nat->Rat):Nat->Rat:=fun k=>f (k+1)
def cv:(Nat->Rat)->(Nat->Rat)->Nat->Rat
 | f,g,0=>f 0*g 0
 | f,g,n+1=>f 0*g (n+1)+cv (Jr f) g n
def Za(f:Nat->Rat):Nat->Rat
 | 0=>0
 | n+1=>Za f n+f n
theorem Di(f:Nat->Rat)(n:Nat):Za f (n+1)=f 0+Za (Jr f) n:=by
 induction n with
 | zero=>simp only[Za];grind
 | succ n ih=>rw[Za,ih,Za];simp only[Jr];grind
theorem Le(c:Rat)(f g h:Nat->Rat)(n:Nat):cv (fun k=>c*f k+g k) h n=c*cv f h n+cv g h n:=by
 induction n generalizing f g with
 | zero=>simp only[cv];grind
 | succ n ih =>
  simp only[cv];have:=ih (Jr f) (Jr g);have e:Jr (fun k=>c*f k+g k)=fun k=>c*Jr f k+Jr g k:=rfl;rw[e,this];grind
theorem Cj(f g h:Nat->Rat)(n:Nat):cv (cv f g) h n=cv f (cv g h) n:=by
 induction n generalizing f g h with
 | zero=>simp only[cv];grind
 | succ n ih =>
  have e:Jr (cv f g)=fun k=>f 0*Jr g k+cv (Jr f) g k:=rfl;rw[cv,e,Le,ih];simp only[cv];grind
theorem Qdj(f g:Nat->Rat)(n:Nat):cv f g (n+1)=cv f (Jr g) n+f (n+1)*g 0:=by
 induction n generalizing f with
 | zero=>simp only[cv,Jr]
 | succ n ih =>
  rw[cv,ih];simp only[cv,Jr];grind
theorem Yb(f g:Nat->Rat)(n:Nat):cv f g n=cv g f n:=by
 induction n generalizing f g with
 | zero=>simp only[cv];grind
 | succ n ih=>rw[cv,Qdj,ih];grind
theorem Qgw(f g h:Nat->Rat)(n:Nat):cv f (cv g h) n=cv g (cv f h) n:=by rw[<-Cj,<-Cj];have:cv f g=cv g f:=funext (Yb f g);rw[this]
def Xe(f:Nat->Rat):Nat->Rat:=fun k=>((k+1:Nat):Rat)*f (k+1)
theorem Ci(f g:Nat->Rat)(n:Nat):Xe (cv f g) n=cv (Xe f) g n+cv f (Xe g) n:=by
 induction n generalizing f with
 | zero=>simp only[Xe,cv,Jr];grind
 | succ n ih =>
  have h:=ih (Jr f);have e:Xe (Jr f)=fun k=>(-1:Rat)*Jr (Jr f) k+Jr (Xe f) k:=by funext k;simp only[Xe,Jr];push_cast;grind
  rw[e,Le]at h;simp only[Xe,cv]at h ⊢;simp only[cv,Jr,Xe]at *
  push_cast at *
  grind
theorem Hu{f g:Nat->Rat}(hf:∀k,0<=f k)(hg:∀k,0<=g k)(n:Nat):0<=cv f g n:=by
 induction n generalizing f with
 | zero=>exact Rat.mul_nonneg (hf 0) (hg 0)
 | succ n ih =>
  have h1:=ih (f:=Jr f) (fun k=>hf (k+1));have h2:=Rat.mul_nonneg (hf 0) (hg (n+1));rw[cv];grind
theorem Uk{f:Nat->Rat}(hf:∀k,0<=f k)(n:Nat):0<=Za f n:=by
 induction n with
 | zero=>exact Rat.le_refl
 | succ n ih=>rw[Za];have:=hf n;grind
theorem K8{f:Nat->Rat}(hf:∀k,0<=f k)(n m:Nat):Za f n<=Za f (n+m):=by
 induction m with
 | zero=>exact Rat.le_refl
 | succ m ih=>rw[<-Nat.add_assoc,Za];have:=hf (n+m);grind
theorem Au(f g:Nat->Rat)(n:Nat):Za (cv f g) (n+1)=f 0*Za g (n+1)+Za (cv (Jr f) g) n:=by
 induction n with
 | zero=>simp only[Za,cv];grind
 | succ n ih=>rw[Za,ih,Za];simp only[Za,cv];grind
theorem Mm{f g:Nat->Rat}(hf:∀k,0<=f k)(hg:∀k,0<=g k)(n:Nat):Za (cv f g) n<=Za f n*Za g n:=by
 induction n generalizing f with
 | zero=>simp only[Za];grind
 | succ n ih =>
  have h1:=ih (f:=Jr f) (fun k=>hf (k+1));have h2:=K8 hg n 1;have h3:=Uk (f:=Jr f) (fun k=>hf (k+1)) n;have h4:=Rat.mul_le_mul_of_nonneg_left h2 h3;rw[Au,Di f];grind
theorem Mn{f g:Nat->Rat}(hf:∀k,0<=f k)(hg:∀k,0<=g k)(n m:Nat):Za f n*Za g m<=Za (cv f g) (n+m):=by
 induction n generalizing f with
 | zero=>have:=Uk (Hu hf hg) (0+m);simp only[Za];grind
 | succ n ih =>
  have h1:=ih (f:=Jr f) (fun k=>hf (k+1));have h2:=K8 hg m (n+1);have h4:=Rat.mul_le_mul_of_nonneg_left h2 (hf 0);have e:n+1+m=n+m+1:=by omega
  have e2:m+(n+1)=n+m+1:=by omega
  rw[e2]at h4;rw[e,Au,Di f];grind
theorem M0{a:Rat}(h:0<=a):0<=a⁻¹:=by
 by_cases h0:a=0
 .rw[h0];simp
 .exact Rat.le_of_lt (Rat.inv_pos.2 (Rat.lt_of_le_of_ne h (Ne.symm h0)))
def ex(a:Rat):Nat->Rat
 | 0=>1
 | k+1=>ex a k*a/((k+1:Nat):Rat)
theorem Xx{a:Rat}(ha:0<=a)(k:Nat):0<=ex a k:=by
 induction k with
 | zero=>exact(by decide:(0:Rat)<=1)
 | succ k ih =>
  rw[ex,Rat.div_def];exact Rat.mul_nonneg (Rat.mul_nonneg ih ha) (M0 (by exact_mod_cast Nat.zero_le _))
theorem Yt(n:Nat):((n+1:Nat):Rat)≠0:=by
 intro h;have:n+1=0:=by exact_mod_cast h
 omega
theorem Qbr(a:Rat)(k:Nat):Xe (ex a) k=a*ex a k:=by
 simp only[Xe,ex];have:=Yt k;generalize ((k+1:Nat):Rat)=q at *
 grind
theorem Qgn(a:Rat)(h:Nat->Rat)(h0:h 0=1)(hs:∀n,Xe h n=a*h n)(n:Nat):h n=ex a n:=by
 induction n with
 | zero=>exact h0
 | succ n ih =>
  have h1:=hs n;simp only[Xe]at h1;rw[ex,<-ih];have:=Yt n;generalize ((n+1:Nat):Rat)=q at *
  grind
theorem Sa(c:Rat)(f g:Nat->Rat)(n:Nat):cv (fun k=>c*f k) g n=c*cv f g n:=by
 have:=Le c f (fun _=>0) g n;have e:cv (fun _=>0) g n=0:=by
  clear this
  induction n with
  | zero=>simp only[cv];grind
  | succ n ih=>simp only[cv];have:Jr (fun _=>(0:Rat))=fun _=>0:=(rfl);rw[this,ih];grind
 have e2:(fun k=>c*f k+(fun _=>(0:Rat)) k)=fun k=>c*f k:=by funext k;grind
 rw[e2]at this;rw[this,e];grind
theorem Qbk(a b:Rat)(n:Nat):cv (ex a) (ex b) n=ex (a+b) n:=by refine Qgn (a+b) _ (by simp[cv,ex]) (fun n=>?_) n;have ea:Xe (ex a)=fun k=>a*ex a k:=funext (Qbr a);have eb:Xe (ex b)=fun k=>b*ex b k:=funext (Qbr b);rw[Ci,ea,eb,Sa,Yb (ex a) (fun k=>b*ex b k),Sa,Yb (ex b)];grind
def E(a:Rat)(n:Nat):Rat:=Za (ex a) n
theorem Qjq{a b:Rat}(ha:0<=a)(hb:0<=b)(n:Nat):E (a+b) n<=E a n*E b n:=by have:=Mm (Xx ha) (Xx hb) n;have e:cv (ex a) (ex b)=ex (a+b):=funext (Qbk a b);rw[e]at this;exact this
theorem Qed{a b:Rat}(ha:0<=a)(hb:0<=b)(n m:Nat):E a n*E b m<=E (a+b) (n+m):=by have:=Mn (Xx ha) (Xx hb) n m;have e:cv (ex a) (ex b)=ex (a+b):=funext (Qbk a b);rw[e]at this;exact this
theorem Qjp{a:Rat}(ha:0<=a)(n m:Nat):E a n<=E a (n+m):=K8 (Xx ha) n m
theorem Rt{a:Rat}(ha:0<=a)(n:Nat):1<=E a (n+1):=by
 have h:=K8 (Xx ha) 1 n;have e:Za (ex a) 1=1:=by simp only[Za,ex];grind
 rw[e,Nat.add_comm]at h;exact h
def U(a u:Rat):Prop:=∀n,E a n<=u
def R(a b u:Rat):Prop:=∀n w,U b w->E a n<=u*w
theorem Bl{a:Rat}(ha:0<=a)(n:Nat):0<=E a n:=Uk (Xx ha) n
theorem U.pos{a u:Rat}(ha:0<=a)(h:U a u):1<=u:=Rat.le_trans (Rt ha 0) (h 1)
theorem Mv{a b c d:Rat}(h1:a<=b)(h2:c<=d)(h3:0<=b)(h4:0<=c):a*c<=b*d :=
 Rat.le_trans (Rat.mul_le_mul_of_nonneg_right h1 h4) (Rat.mul_le_mul_of_nonneg_left h2 h3)
theorem U.add{a b u v:Rat}(ha:0<=a)(hb:0<=b)(h:U a u)(k:U b v):U (a+b) (u*v):=fun n =>
 Rat.le_trans (Qjq ha hb n) (Mv (h n) (k n) (by have:=h.pos ha;grind) (Bl hb n))
theorem U.half{a:Rat}(ha:0<=a)(h:a+a<=1):U a 2:=by
 have key:∀n,E a n+2*ex a n<=2/\ex a (n+1)+ex a (n+1)<=ex a n:=by
  intro n;have st:∀n,ex a (n+1)+ex a (n+1)<=ex a n:=by
   intro n;have h0:=Xx ha n;have h1:ex a (n+1)*((n+1:Nat):Rat)=ex a n*a:=by simp only[ex];have:=Yt n;generalize ((n+1:Nat):Rat)=q at *;grind
   have h2:(1:Rat)<=((n+1:Nat):Rat):=by exact_mod_cast Nat.le_add_left 1 n
   have h3:=Xx ha (n+1);have h4:=Rat.mul_le_mul_of_nonneg_left h2 h3;have h5:=Rat.mul_le_mul_of_nonneg_left h h0;generalize ((n+1:Nat):Rat)=q at *
   grind
  refine⟨?_,st n⟩
  induction n with
  | zero=>simp only[E,Za,ex];grind
  | succ n ih =>
   have:=st n;have e:E a (n+1)=E a n+ex a n:=rfl;rw[e];grind
 intro n;have:=(key n).1;have h0:=Xx ha n;grind
theorem Iz(a:Rat):∃n:Nat,a<=(n:Rat):=by
 refine⟨(a.floor+1).toNat,?_⟩;have h:=Rat.lt_floor_add_one a;have h2:(a.floor+1:Int)<=((a.floor+1).toNat:Int):=Int.self_le_toNat _;have h3:((a.floor+1:Int):Rat)<=(((a.floor+1).toNat:Int):Rat):=by exact_mod_cast h2
 exact Rat.le_trans (Rat.le_of_lt h) h3
theorem U.halves(n:Nat):∃u,U ((n:Rat)/2) u:=by
 induction n with
 | zero =>
  have e:((0:Nat):Rat)/2=0:=by grind
  exact⟨2,by rw[e];exact U.half (by grind) (by grind)⟩
 | succ n ih =>
  obtain⟨u,h⟩:=ih;have e:((n+1:Nat):Rat)/2=(n:Rat)/2+1/2:=by push_cast;grind
  have h0:(0:Rat)<=(n:Rat)/2:=by
   have:(0:Rat)<=(n:Rat):=by exact_mod_cast Nat.zero_le n
   grind
  exact⟨u*2,by rw[e];exact h.add h0 (by grind) (U.half (by grind) (by grind))⟩
theorem Nf{a d:Rat}(ha:0<=a)(hd:0<=d)(n:Nat):E a n<=E (a+d) (n+1):=by have h1:=Qed ha hd n 1;have h2:=Rt hd 0;have h3:=Bl ha n;have h4:=Rat.mul_le_mul_of_nonneg_left h2 h3;have e:(0:Nat)+1=1:=rfl;rw[e]at h4;grind
theorem U.anti{a d u:Rat}(ha:0<=a)(hd:0<=d)(h:U (a+d) u):U a u:=fun n=>Rat.le_trans (Nf ha hd n) (h (n+1))
theorem U.some{a:Rat}(ha:0<=a):∃u,U a u:=by
 obtain⟨n,hn⟩:=Iz (a+a);obtain⟨u,h⟩:=U.halves n;refine⟨u,U.anti (d:=(n:Rat)/2-a) ha (by grind) ?_⟩;have e:a+((n:Rat)/2-a)=(n:Rat)/2:=by grind
 rw[e];exact h
theorem U.least{c r:Rat}(hc:0<=c)(hr:r<1)(h:∀w,U c w->U c (r*w)):False:=by
 have key:∀k:Nat,∀w,U c w->1+(k:Rat)*(1-r)<=w:=by
  intro k
  induction k with
  | zero=>intro w hw;have:=hw.pos hc;grind
  | succ k ih =>
   intro w hw;have h1:=ih _ (h w hw);have h2:=hw.pos hc;have h3:r*w=w-(1-r)*w:=by grind
   have h4:(1-r)*1<=(1-r)*w:=Rat.mul_le_mul_of_nonneg_left h2 (by grind);push_cast;grind
 obtain⟨u,hu⟩:=U.some hc;obtain⟨k,hk⟩:=Iz (u/(1-r));have h1:=key k u hu;have hp:0<1-r:=by grind
 have h2:=Rat.mul_le_mul_of_nonneg_right hk (Rat.le_of_lt hp);have h3:u/(1-r)*(1-r)=u:=by have:1-r≠0:=(by grind);grind
 rw[h3]at h2;grind
theorem Jh{a b c:Rat}(hc:0<c):a<=b/c↔a*c<=b:=by rw[<-Rat.not_lt,Rat.div_lt_iff hc,Rat.not_lt]
theorem Wt{a b:Rat}(ha:0<=a)(hb:0<=b):0<=a/b:=by rw[Rat.div_def];exact Rat.mul_nonneg ha (M0 hb)
theorem Sv(a:Rat):E a 0=0:=rfl
theorem R.add{a b c d u v:Rat}(ha:0<=a)(hb:0<=b)(hc:0<=c)(hd:0<=d)(hu:0<u)(hv:0<v)(h:R a b u)(k:R c d v):R (a+c) (b+d) (u*v):=by
 intro n w hw;have hw1:=hw.pos (by grind);by_cases hn:n=0
 .subst hn;rw[Sv];exact Rat.mul_nonneg (Rat.mul_nonneg (Rat.le_of_lt hu) (Rat.le_of_lt hv)) (by grind)
 obtain⟨m,rfl⟩:∃m,n=m+1:=⟨n-1,by omega⟩
 have h1:=Qjq ha hc (m+1);have pa:1<=E a (m+1):=Rt ha m;have pa0:0<E a (m+1):=by grind
 have h2:U d (u*w/E a (m+1)):=by
  intro j;by_cases hj:j=0
  .subst hj;rw[Sv];exact Wt (Rat.mul_nonneg (Rat.le_of_lt hu) (by grind)) (by grind)
  obtain⟨i,rfl⟩:∃i,j=i+1:=⟨j-1,by omega⟩
  have pd:1<=E d (i+1):=Rt hd i;have h3:U b (w/E d (i+1)):=by intro k;rw[Jh (by grind)];exact Rat.le_trans (Qed hb hd k (i+1)) (hw _)
  have h4:=h (m+1) _ h3;rw[Jh pa0];generalize E a (m+1)=A at *
  generalize E d (i+1)=D at *
  have h5:u*(w/D)=(u*w)/D:=by grind
  rw[h5,Jh (by grind)]at h4;grind
 have h6:=k (m+1) _ h2;generalize E a (m+1)=A at *
 generalize E c (m+1)=C at *
 have h5:v*(u*w/A)=(u*v*w)/A:=by grind
 rw[h5,Jh pa0]at h6;grind
theorem R.refl(a:Rat):R a a 1:=fun n w hw=>by have:=hw n;grind
theorem R.cancel{a b c u:Rat}(ha:0<=a)(hb:0<=b)(hc:0<=c)(hu:0<u)(h:R (a+c) (b+c) u):R a b u:=by
 intro n w hw;have hw1:=hw.pos hb;rw[<-Rat.not_lt];intro hlt;have hn:n≠0:=by intro hn;subst hn;rw[Sv]at hlt;have:=Rat.mul_nonneg (Rat.le_of_lt hu) (by grind:0<=w);grind
 obtain⟨m,rfl⟩:∃m,n=m+1:=⟨n-1,by omega⟩
 have pa:1<=E a (m+1):=Rt ha m;have pa0:0<E a (m+1):=by grind
 refine U.least (c:=c) (r:=u*w/E a (m+1)) hc ?_ ?_
 .rw[Rat.div_lt_iff pa0];grind
 .intro v hv j;have h1:U (b+c) (w*v):=hw.add hb hc hv;have h2:=Rat.le_trans (Qed ha hc (m+1) j) (h _ _ h1);generalize E a (m+1)=A at *
  have e:u*w/A*v=(u*w*v)/A:=by grind
  rw[e,Jh pa0];grind
def P(z x:Rat):Prop:=∃a b:Rat,0<=a/\0<=b/\z=a-b/\0<x/\R a b x
def Q(z x:Rat):Prop:=0<x/\P (-z) (1/x)
theorem P.xpos{z x:Rat}(h:P z x):0<x:=h.elim fun _ h=>h.elim fun _ h=>h.2.2.2.1
theorem P.o{z x:Rat}(h:P z x){a b:Rat}(ha:0<=a)(hb:0<=b)(hz:z=a-b):R a b x:=by
 obtain⟨c,d,hc,hd,hz2,hx,hr⟩:=h;have h1:=hr.add hc hd ha ha hx (by grind) (R.refl a);have e:x*1=x:=by grind
 have e2:d+a=b+c:=by grind
 have e3:c+a=a+c:=by grind
 rw[e,e2,e3]at h1;exact h1.cancel ha hb hc hx
theorem P.add{z x y v:Rat}(h:P z x)(k:P y v):P (z+y) (x*v):=by obtain⟨a,b,ha,hb,hz,hx,hr⟩:=h;obtain⟨c,d,hc,hd,hy,hv,hs⟩:=k;exact⟨a+c,b+d,by grind,by grind,by grind,Rat.mul_pos hx hv,hr.add ha hb hc hd hx hv hs⟩
theorem P.zero{x:Rat}(h:1<=x):P 0 x:=by
 refine⟨0,0,by grind,by grind,by grind,by grind,fun n w hw=>?_⟩;have h1:=hw n;have h2:=hw.pos (by grind);have:w<=x*w:=by have:=Rat.mul_le_mul_of_nonneg_right h (by grind:0<=w);grind
 grind
theorem P.le_x{z x v:Rat}(h:P z x)(k:x<=v):P z v:=by obtain⟨a,b,ha,hb,hz,hx,hr⟩:=h;refine⟨a,b,ha,hb,hz,by grind,fun n w hw=>?_⟩;have h1:=hr n w hw;have h2:=hw.pos hb;have:=Rat.mul_le_mul_of_nonneg_right k (by grind:0<=w);grind
theorem P.le_z{z x y:Rat}(h:P z x)(k:y<=z):P y x:=by obtain⟨a,b,ha,hb,hz,hx,hr⟩:=h;refine⟨a,b+(z-y),ha,by grind,by grind,hx,fun n w hw=>hr n w (U.anti hb (by grind) hw)⟩
theorem P.one{x:Rat}(h:P 0 x):1<=x:=by
 have h1:=h.o (a:=0) (b:=0) (by grind) (by grind) (by grind);have h2:U 0 1:=by
  intro n;have:∀n,E 0 (n+1)=1/\ex 0 (n+1)=0:=by
   intro n
   induction n with
   | zero=>simp only[E,Za,ex];grind
   | succ n ih =>
    have e:E 0 (n+1+1)=E 0 (n+1)+ex 0 (n+1):=rfl;refine⟨by grind,?_⟩;rw[ex];grind
  match n with
  | 0=>rw[Sv];grind
  | n+1=>rw[(this n).1];grind
 have h3:=h1 1 1 h2;have h4:=Rt (a:=0) (by grind) 0;grind
theorem P.ofU{a u:Rat}(ha:0<=a)(h:U a u):P a u:=by have hu:=h.pos ha;refine⟨a,0,ha,by grind,by grind,by grind,fun n w hw=>?_⟩;have h1:=hw.pos (by grind);have:=Rat.mul_le_mul_of_nonneg_left h1 (by grind:0<=u);have:=h n;grind
theorem Q.ofE{a v:Rat}(ha:0<=a)(hv:0<v)(h:∀u,U a u->v<=u):Q a v:=by
 refine⟨hv,0,a,by grind,ha,by grind,?_,fun n w hw=>?_⟩
 .rw[Rat.div_def];have:=Rat.inv_pos.2 hv;grind
 .have h1:=h w hw;have h2:E 0 n<=1:=by
   match n with
   | 0=>rw[Sv];grind
   | n+1 =>
    have:∀n,E 0 (n+1)=1/\ex 0 (n+1)=0:=by
     intro n
     induction n with
     | zero=>simp only[E,Za,ex];grind
     | succ n ih =>
      have e:E 0 (n+1+1)=E 0 (n+1)+ex 0 (n+1):=rfl;refine⟨by grind,?_⟩;rw[ex];grind
    rw[(this n).1];grind
  have h3:1<=w/v:=by rw[Jh hv];grind
  have h4:1/v*w=w/v:=by grind
  grind
theorem Q.add{z x y v:Rat}(h:Q z x)(k:Q y v):Q (z+y) (x*v):=by
 refine⟨Rat.mul_pos h.1 k.1,?_⟩;have:=h.2.add k.2;have e1:-z+-y=-(z+y):=by grind
 have hx:=h.1;have hv:=k.1;have e2:1/x*(1/v)=1/(x*v):=by grind
 rw[e1,e2]at this;exact this
theorem P.neg{z x:Rat}(h:P z x):Q (-z) (1/x):=by
 have hx:=h.xpos;have e:1/(1/x)=x:=by grind
 refine⟨?_,?_⟩
 .rw[Rat.div_def];have:=Rat.inv_pos.2 hx;grind
 .rw[e,Rat.neg_neg];exact h
theorem Q.neg{z x:Rat}(h:Q z x):P (-z) (1/x):=h.2
theorem PQ{z x y:Rat}(h:P z x)(k:Q z y):y<=x:=by
 have h1:=(h.add k.2)
 have e:z+-z=0:=by grind
 rw[e]at h1;have h2:=h1.one;have hy:=k.1;have e2:x*(1/y)=x/y:=by grind
 rw[e2,Jh hy]at h2;grind
theorem Q.le_x{z x v:Rat}(h:Q z x)(hv:0<v)(k:v<=x):Q z v:=by
 refine⟨hv,h.2.le_x ?_⟩;have hx:=h.1;rw[Jh hv];have e:1/x*v=v/x:=by grind
 rw[e,<-Rat.not_lt,Rat.lt_div_iff hx];grind
theorem Q.le_z{z x y:Rat}(h:Q z x)(k:z<=y):Q y x:=⟨h.1,h.2.le_z (by grind)⟩
theorem P.pow{z x:Rat}(h:P z x)(n:Nat):P ((n:Rat)*z) (x^n):=by
 induction n with
 | zero =>
  have e:((0:Nat):Rat)*z=0:=by grind
  rw[e,Rat.pow_zero];exact P.zero (by grind)
 | succ n ih =>
  have h1:=ih.add h;have e:(n:Rat)*z+z=((n+1:Nat):Rat)*z:=by push_cast;grind
  rw[e]at h1;rw[Rat.pow_succ];exact h1
theorem Q.pow{z x:Rat}(h:Q z x)(n:Nat):Q ((n:Rat)*z) (x^n):=by
 induction n with
 | zero =>
  have e:((0:Nat):Rat)*z=0:=by grind
  rw[e,Rat.pow_zero];have h1:=(P.zero (x:=1) (by grind)).neg;have e2:-(0:Rat)=0:=by grind
  have e3:(1:Rat)/1=1:=by grind
  rw[e2,e3]at h1;exact h1
 | succ n ih =>
  have h1:=ih.add h;have e:(n:Rat)*z+z=((n+1:Nat):Rat)*z:=by push_cast;grind
  rw[e]at h1;rw[Rat.pow_succ];exact h1
theorem Qfy{f g:Nat->Rat}(h:∀k,f k<=g k)(n:Nat):Za f n<=Za g n:=by
 induction n with
 | zero=>exact Rat.le_refl
 | succ n ih=>simp only[Za];have:=h n;grind
theorem Qgv{d f g:Nat->Rat}(hd:∀k,0<=d k)(n:Nat)(h:∀k,k<=n->f k<=g k):cv d f n<=cv d g n:=by
 induction n generalizing d with
 | zero=>simp only[cv];exact Rat.mul_le_mul_of_nonneg_left (h 0 (Nat.le_refl _)) (hd 0)
 | succ n ih =>
  simp only[cv];have h1:=ih (d:=Jr d) (fun k=>hd (k+1)) (fun k hk=>h k (by omega));have h2:=Rat.mul_le_mul_of_nonneg_left (h (n+1) (Nat.le_refl _)) (hd 0);grind
theorem Qdk{d f g:Nat->Rat}(n:Nat)(h:∀k,k<=n->f k=g k):cv d f n=cv d g n:=by
 induction n generalizing d with
 | zero=>simp only[cv];rw[h 0 (Nat.le_refl _)]
 | succ n ih =>
  simp only[cv];rw[ih (d:=Jr d) (fun k hk=>h k (by omega)),h (n+1) (Nat.le_refl _)]
def Jf(t:Rat)(k:Nat):Rat:=if k%2=1 then 2*t^k/(k:Rat)else 0
def ft(t:Rat)(k:Nat):Rat:=if k=0 then 1 else 2*t^k
theorem Wk{t:Rat}(ht:0<=t)(k:Nat):0<=t^k:=Rat.pow_nonneg ht
theorem Mx{t:Rat}(ht:0<=t)(k:Nat):0<=Jf t k:=by
 unfold Jf;split
 .have h1:=Wk ht k;have h2:(0:Rat)<=(k:Rat):=by exact_mod_cast Nat.zero_le k
  exact Wt (by grind) h2
 .exact Rat.le_refl
theorem Qkh{t:Rat}(ht:0<=t)(k:Nat):0<=ft t k:=by
 unfold ft;split
 .grind
 .have h1:=Wk ht k;grind
theorem Qbp(t:Rat)(k:Nat):Xe (Jf t) k=if k%2=0 then 2*t^(k+1)else 0:=by
 unfold Xe Jf;have:=Yt k;by_cases h:k%2=0
 .rw[if_pos (by omega),if_pos h];generalize ((k+1:Nat):Rat)=q at *
  grind
 .rw[if_neg (by omega),if_neg h];grind
theorem Qbe(t:Rat)(n:Nat):Xe (ft t) n=cv (Xe (Jf t)) (ft t) n/\Xe (ft t) (n+1)=cv (Xe (Jf t)) (ft t) (n+1):=by
 have ed:Xe (Jf t)=fun k=>if k%2=0 then 2*t^(k+1)else 0:=funext (Qbp t)
 have es:Jr (Jr (Xe (Jf t)))=fun k=>t^2*Xe (Jf t) k:=by
  rw[ed];funext k;simp only[Jr];by_cases h:k%2=0
  .rw[if_pos (by omega),if_pos h];grind
  .rw[if_neg (by omega),if_neg h];grind
 induction n with
 | zero =>
  constructor
  .rw[ed];simp only[Xe,cv,ft];grind
  .rw[ed];simp only[Xe,cv,ft,Jr];grind
 | succ n ih =>
  refine⟨ih.2,?_⟩;have h1:=ih.1;rw[cv,cv,es,Sa,<-h1,ed];simp only[Xe,ft,Jr];push_cast;grind
def pl(t:Rat):Nat->Nat->Rat
 | 0=>fun k=>if k=0 then 1 else 0
 | m+1=>fun k=>cv (Jf t) (pl t m) k/((m+1:Nat):Rat)
theorem Ie{t:Rat}(ht:0<=t)(m k:Nat):0<=pl t m k:=by
 induction m generalizing k with
 | zero=>simp only[pl];split<;>grind
 | succ m ih=>simp only[pl];exact Wt (Hu (Mx ht) ih k) (by exact_mod_cast Nat.zero_le _)
theorem Sq(f:Nat->Rat)(q:Rat):(fun k=>f k/q)=fun k=>q⁻¹*f k:=by funext k;rw[Rat.div_def];grind
theorem Ht(c:Rat)(f:Nat->Rat)(k:Nat):Xe (fun k=>c*f k) k=c*Xe f k:=by simp only[Xe];grind
theorem Sr(c:Rat)(f g:Nat->Rat)(n:Nat):cv g (fun k=>c*f k) n=c*cv g f n:=by rw[Yb,Sa,Yb]
theorem Qi1(t:Rat)(m k:Nat):Xe (pl t (m+1)) k=cv (Xe (Jf t)) (pl t m) k:=by
 induction m generalizing k with
 | zero =>
  have e:pl t 1=fun k=>((0+1:Nat):Rat)⁻¹*cv (Jf t) (pl t 0) k:=Sq _ _;have e1:(((0+1:Nat):Rat))⁻¹=1:=by grind
  rw[e,Ht,Ci,e1];have e2:Xe (pl t 0)=fun _=>0:=by funext k;simp only[Xe,pl];grind
  rw[e2];have e3:cv (Jf t) (fun _=>0) k=0:=by
   have:=Sr 0 (fun _=>0) (Jf t) k;have e4:(fun k=>(0:Rat)*(fun(_:Nat)=>(0:Rat)) k)=fun _=>0:=by funext k;grind
   rw[e4]at this;grind
  rw[e3];grind
 | succ m ih =>
  have e:pl t (m+1+1)=fun k=>((m+1+1:Nat):Rat)⁻¹*cv (Jf t) (pl t (m+1)) k:=Sq _ _;have ih':Xe (pl t (m+1))=cv (Xe (Jf t)) (pl t m):=funext ih;rw[e,Ht,Ci,ih',Qgw];have e5:pl t (m+1)=fun k=>((m+1:Nat):Rat)⁻¹*cv (Jf t) (pl t m) k:=Sq _ _;have h5:cv (Xe (Jf t)) (pl t (m+1)) k=((m+1:Nat):Rat)⁻¹*cv (Xe (Jf t)) (cv (Jf t) (pl t m)) k:=by rw[e5,Sr]
  have n1:=Yt m;have n2:=Yt (m+1);have e6:((m+1+1:Nat):Rat)=((m+1:Nat):Rat)+1:=by push_cast;grind
  rw[e6]at n2 ⊢;generalize ((m+1:Nat):Rat)=q at *
  generalize cv (Xe (Jf t)) (cv (Jf t) (pl t m)) k=X at *
  rw[h5];have:q*q⁻¹=1:=Rat.mul_inv_cancel q n1;have h2:(q+1)*(q+1)⁻¹=1:=Rat.mul_inv_cancel _ n2;grind
def gs(t:Rat):Nat->Nat->Rat
 | 0=>fun _=>0
 | n+1=>fun k=>gs t n k+pl t n k
theorem Qi3(d f g:Nat->Rat)(n:Nat):cv d (fun k=>f k+g k) n=cv d f n+cv d g n:=by
 have h:=Le 1 f g d n;have e:(fun k=>1*f k+g k)=fun k=>f k+g k:=by funext k;grind
 rw[e]at h;rw[Yb,h,Yb d f,Yb d g];grind
theorem Qbq(t:Rat)(n k:Nat):Xe (gs t (n+1)) k=cv (Xe (Jf t)) (gs t n) k:=by
 induction n with
 | zero =>
  have e:cv (Xe (Jf t)) (gs t 0) k=0:=by
   have:=Sr 0 (fun _=>0) (Xe (Jf t)) k;have e4:(fun k=>(0:Rat)*(fun(_:Nat)=>(0:Rat)) k)=fun _=>0:=by funext k;grind
   rw[e4]at this;have e5:gs t 0=fun _=>0:=rfl;rw[e5,this];grind
  rw[e];simp only[Xe,gs,pl];grind
 | succ n ih =>
  have e:gs t (n+1)=fun k=>gs t n k+pl t n k:=rfl;have h:cv (Xe (Jf t)) (gs t (n+1)) k=cv (Xe (Jf t)) (gs t n) k+cv (Xe (Jf t)) (pl t n) k:=by rw[e,Qi3]
  rw[h,<-ih,<-Qi1];simp only[Xe,gs];grind
theorem Qfz(t:Rat)(m:Nat):pl t (m+1) 0=0:=by simp only[pl,cv,Jf];grind
theorem Ei(t:Rat)(n:Nat):gs t (n+1) 0=1:=by
 induction n with
 | zero=>simp only[gs,pl];grind
 | succ n ih =>
  have e:gs t (n+1+1) 0=gs t (n+1) 0+pl t (n+1) 0:=rfl;rw[e,ih,Qfz];grind
theorem Qbo{t:Rat}(ht:0<=t)(k:Nat):0<=Xe (Jf t) k:=by
 rw[Qbp];split
 .have:=Wk ht (k+1);grind
 .exact Rat.le_refl
theorem Qkf{t:Rat}(ht:0<=t)(n k:Nat):gs t n k<=ft t k:=by
 induction n generalizing k with
 | zero=>exact Qkh ht k
 | succ n ih =>
  match k with
  | 0=>rw[Ei];simp only[ft];grind
  | k+1 =>
   have h1:=Qbq t n k;have h2:=(Qbe t k).1;have h3:=Qgv (Qbo ht) k (fun j _=>ih j);rw[<-h1,<-h2]at h3;simp only[Xe]at h3;have h4:(0:Rat)<((k+1:Nat):Rat):=by exact_mod_cast Nat.succ_pos k
   exact Rat.le_of_mul_le_mul_left h3 h4
theorem Qkg(t:Rat)(n k:Nat)(h:k<n):gs t n k=ft t k:=by
 induction n generalizing k with
 | zero=>omega
 | succ n ih =>
  match k with
  | 0=>rw[Ei];simp only[ft];grind
  | k+1 =>
   have h1:=Qbq t n k;have h2:=(Qbe t k).1;have h3:=Qdk (d:=Xe (Jf t)) k (fun j hj=>ih j (by omega));rw[<-h1,<-h2]at h3;simp only[Xe]at h3;have h4:=Yt k;generalize ((k+1:Nat):Rat)=q at *
   grind
theorem Ml(c:Rat)(f:Nat->Rat)(n:Nat):Za (fun k=>c*f k) n=c*Za f n:=by
 induction n with
 | zero=>simp only[Za];grind
 | succ n ih=>simp only[Za];rw[ih];grind
theorem Dj(f g:Nat->Rat)(n:Nat):Za (fun k=>f k+g k) n=Za f n+Za g n:=by
 induction n with
 | zero=>simp only[Za];grind
 | succ n ih=>simp only[Za];rw[ih];grind
def Ls(t:Rat)(n:Nat):Rat:=Za (Jf t) n
theorem Fj{t:Rat}(ht:0<=t)(n:Nat):0<=Ls t n:=Uk (Mx ht) n
theorem Qj5{t:Rat}(ht:0<=t)(m n:Nat)(hn:0<n):Za (pl t m) n<=ex (Ls t n) m:=by
 induction m with
 | zero =>
  have:∀j,Za (pl t 0) (j+1)=1:=by
   intro j
   induction j with
   | zero=>simp only[Za,pl];grind
   | succ j ih=>rw[Za,ih];simp only[pl];grind
  obtain⟨j,rfl⟩:∃j,n=j+1:=⟨n-1,by omega⟩
  rw[this];simp only[ex];grind
 | succ m ih =>
  have e:pl t (m+1)=fun k=>((m+1:Nat):Rat)⁻¹*cv (Jf t) (pl t m) k:=Sq _ _;rw[e,Ml];have h1:=Mm (Mx ht) (Ie ht m) n;have h2:=Rat.mul_le_mul_of_nonneg_left ih (Fj ht n);have h3:=Rat.le_trans h1 h2;have h4:(0:Rat)<=((m+1:Nat):Rat)⁻¹:=M0 (by exact_mod_cast Nat.zero_le _);have h5:=Rat.mul_le_mul_of_nonneg_left h3 h4;have e2:ex (Ls t n) (m+1)=((m+1:Nat):Rat)⁻¹*(Ls t n*ex (Ls t n) m):=by rw[ex,Rat.div_def];grind
  rw[e2];exact h5
theorem Qj6{t:Rat}(ht:0<=t)(m n:Nat):ex (Ls t n) m<=Za (pl t m) (n*m+1):=by
 induction m with
 | zero=>simp only[Za,pl,ex,Nat.mul_zero];grind
 | succ m ih =>
  have e:pl t (m+1)=fun k=>((m+1:Nat):Rat)⁻¹*cv (Jf t) (pl t m) k:=Sq _ _;rw[e,Ml];have h1:=Mn (Mx ht) (Ie ht m) n (n*m+1);have h2:=Rat.mul_le_mul_of_nonneg_left ih (Fj ht n);have h3:=Rat.le_trans h2 h1;have h4:(0:Rat)<=((m+1:Nat):Rat)⁻¹:=M0 (by exact_mod_cast Nat.zero_le _);have h5:=Rat.mul_le_mul_of_nonneg_left h3 h4;have e2:ex (Ls t n) (m+1)=((m+1:Nat):Rat)⁻¹*(Ls t n*ex (Ls t n) m):=by rw[ex,Rat.div_def];grind
  have e3:n*(m+1)+1=n+(n*m+1):=by rw[Nat.mul_add];omega
  rw[e2,e3];exact h5
theorem Io{t:Rat}(ht:0<=t)(m n:Nat)(hn:0<n):Za (gs t m) n<=E (Ls t n) m:=by
 induction m with
 | zero =>
  have:Za (gs t 0) n=0:=by
   clear hn
   induction n with
   | zero=>rfl
   | succ n ih=>rw[Za,ih];simp only[gs];grind
  rw[this];exact Rat.le_refl
 | succ m ih =>
  have e:gs t (m+1)=fun k=>gs t m k+pl t m k:=rfl;have e2:E (Ls t n) (m+1)=E (Ls t n) m+ex (Ls t n) m:=rfl;rw[e,Dj,e2];have:=Qj5 ht m n hn;grind
theorem Ip{t:Rat}(ht:0<=t)(m n M:Nat)(h:m<=M):E (Ls t n) m<=Za (gs t m) (n*M+1):=by
 induction m with
 | zero =>
  have:∀n,Za (gs t 0) n=0:=by
   intro n
   induction n with
   | zero=>rfl
   | succ n ih=>rw[Za,ih];simp only[gs];grind
  rw[this];exact Rat.le_refl
 | succ m ih =>
  have e:gs t (m+1)=fun k=>gs t m k+pl t m k:=rfl;have e2:E (Ls t n) (m+1)=E (Ls t n) m+ex (Ls t n) m:=rfl;rw[e,Dj,e2];have h1:=Qj6 ht m n;have h2:=K8 (Ie ht m) (n*m+1) (n*M-n*m);have h3:n*m<=n*M:=Nat.mul_le_mul_left n (by omega);have e3:n*m+1+(n*M-n*m)=n*M+1:=by omega
  rw[e3]at h2;have:=ih (by omega);grind
theorem Qbd{t:Rat}(h1:t<1)(n:Nat):Za (ft t) (n+1)=(1+t)/(1-t)-2*t^(n+1)/(1-t):=by
 have h:1-t≠0:=by grind
 induction n with
 | zero=>simp only[Za,ft];grind
 | succ n ih=>rw[Za,ih];simp only[ft];grind
theorem Qkd{t:Rat}(ht:0<=t)(h1:t<1)(n:Nat):P (Ls t n) ((1+t)/(1-t)):=by refine P.ofU (Fj ht n) fun m=>?_;have a1:=Ip ht m n m (Nat.le_refl _);have a2:=Qfy (Qkf ht m) (n*m+1);have a3:=Qbd h1 (n*m);have a4:0<=2*t^(n*m+1)/(1-t):=Wt (by have:=Wk ht (n*m+1);grind) (by grind);rw[a3]at a2;grind
theorem Om{a b:Rat}(ha:0<=a)(h:a<=b)(n:Nat):E a n<=E b (n+1):=by
 have h1:=Nf (d:=b-a) ha (by grind) n;have e:a+(b-a)=b:=by grind
 rw[e]at h1;exact h1
theorem Qax{t:Rat}(ht:0<=t)(h:t+t<=1)(n:Nat):t^n*((n+1:Nat):Rat)<=1:=by
 induction n with
 | zero=>rw[Rat.pow_zero];grind
 | succ n ih =>
  have h0:=Wk ht n;have hn:(0:Rat)<=(n:Rat):=by exact_mod_cast Nat.zero_le n
  rw[Rat.pow_succ];push_cast at *
  have h2:=Rat.mul_le_mul_of_nonneg_left h h0;have h3:=Rat.mul_nonneg h0 ht;have h4:=Rat.mul_nonneg h3 hn;have h5:=Rat.mul_le_mul_of_nonneg_right h2 hn;grind
theorem Qkc{t u:Rat}(ht:0<=t)(h1:t+t<=1)(hu:∀n,Ls t n<=u):Q u ((1+t)/(1-t)):=by
 have hu0:0<=u:=by have:=hu 0;have e:Ls t 0=0:=rfl;grind
 have hp:0<1-t:=by grind
 refine Q.ofE hu0 ?_ fun v hv=>?_
 .rw[Rat.lt_div_iff hp];grind
 have key:∀n:Nat,(1+t)/(1-t)-2*t^(n+1)/(1-t)<=v:=by
  intro n;rw[<-Qbd (by grind) n];have a1:Za (ft t) (n+1)=Za (gs t (n+1)) (n+1):=by
   have:∀j,j<=n+1->Za (ft t) j=Za (gs t (n+1)) j:=by
    intro j
    induction j with
    | zero=>intro _;rfl
    | succ j ih=>intro hj;rw[Za,Za,ih (by omega),Qkg t (n+1) j (by omega)]
   exact this (n+1) (Nat.le_refl _)
  rw[a1];have a2:=Io ht (n+1) (n+1) (by omega);have a3:=Om (Fj ht (n+1)) (hu (n+1)) (n+1);have a4:=hv (n+1+1);grind
 rw[<-Rat.not_lt];intro hlt;obtain⟨k,hk⟩:=Iz (4/((1+t)/(1-t)-v));have hd:0<(1+t)/(1-t)-v:=by grind
 have b1:=key k;have b2:=Qax ht h1 (k+1);have b3:2*t^(k+1)/(1-t)<=4*t^(k+1):=by rw[<-Rat.not_lt,Rat.lt_div_iff hp,Rat.not_lt];have:=Wk ht (k+1);have:=Rat.mul_le_mul_of_nonneg_left h1 this;grind
 have b4:(1+t)/(1-t)-v<=4*t^(k+1):=by grind
 generalize (1+t)/(1-t)-v=d at *
 have b5:4<=(k:Rat)*d:=by have:4/d<=(k:Rat):=hk;rw[<-Rat.not_lt,Rat.lt_div_iff hd,Rat.not_lt]at this;exact this
 push_cast at b2;have hk0:(0:Rat)<=(k:Rat):=by exact_mod_cast Nat.zero_le k
 have b6:=Rat.mul_le_mul_of_nonneg_left b4 hk0;have hp2:=Wk ht (k+1);generalize t^(k+1)=T at *
 generalize (k:Rat)=K at *
 by_cases hT:T=0
 .rw[hT]at b4;grind
 .grind
end Go.Proofs.YtobpioceopfkpaaGreatDoor.Rl
namespace Go.Proofs.YtobpioceopfkpaaGreatDoor
namespace Rl
theorem Vn{a b:Rat}(h:a=b):a<=b:=h▸Rat.le_refl
theorem Ty{a b:Nat}(hb:0<b):((a/b:Nat):Rat)<=(a:Rat)/(b:Rat):=by
 have hb':(0:Rat)<(b:Rat):=by exact_mod_cast hb
 rw[Jh hb'];have:a/b*b<=a:=Nat.div_mul_le_self a b;exact_mod_cast this
theorem Si{a b:Nat}(hb:0<b):(a:Rat)/(b:Rat)<=((if a%b=0 then a/b else a/b+1:Nat):Rat):=by
 have hb':(0:Rat)<(b:Rat):=by exact_mod_cast hb
 rw[<-Rat.not_lt,Rat.lt_div_iff hb',Rat.not_lt];have h1:=Nat.div_add_mod a b;have h2:=Nat.mod_lt a hb;have h3:a<=(if a%b=0 then a/b else a/b+1)*b:=by
  split
  .rw[Nat.mul_comm (a/b)];omega
  .rw[Nat.add_mul,Nat.mul_comm (a/b)];omega
 exact_mod_cast h3
def Yr(s:Nat)(p:Pr)(r:Rat):Prop:=(p.lo:Rat)<=(2:Rat)^s*r/\(2:Rat)^s*r<=(p.hi:Rat)
theorem Zl(s:Nat):(0:Rat)<(2:Rat)^s:=Rat.pow_pos (by decide)
theorem nn(n:Nat):(0:Rat)<=(n:Rat):=by exact_mod_cast Nat.zero_le n
theorem Xt(s:Nat):((2^s:Nat):Rat)=(2:Rat)^s:=by push_cast;rfl
theorem Qbf{num den s:Nat}(h:0<den):Yr s (Qt num den s) ((num:Rat)/(den:Rat)):=by
 have h1:=Ty (a:=num*2^s) h;have h2:=Si (a:=num*2^s) h;have e:((num*2^s:Nat):Rat)/(den:Rat)=(2:Rat)^s*((num:Rat)/(den:Rat)):=by push_cast;rw[Rat.div_def,Rat.div_def];grind
 rw[e]at h1 h2;exact⟨h1,h2⟩
theorem Fw{a b s:Nat}{x y:Rat}(hx:(a:Rat)<=(2:Rat)^s*x)(hy:(b:Rat)<=(2:Rat)^s*y)(h0:0<=x):((a*b/2^s:Nat):Rat)<=(2:Rat)^s*(x*y):=by
 have h1:=Ty (a:=a*b) (Nat.two_pow_pos s)
 have h2:=Mv hx hy (Rat.mul_nonneg (Rat.le_of_lt (Zl s)) h0) (nn b);refine Rat.le_trans h1 ?_;rw[Xt,<-Rat.not_lt,Rat.lt_div_iff (Zl s),Rat.not_lt];push_cast;generalize (2:Rat)^s=q at *
 grind
theorem Fy{a b s:Nat}{x y:Rat}(hx:(2:Rat)^s*x<=(a:Rat))(hy:(2:Rat)^s*y<=(b:Rat))(h0:0<=y):(2:Rat)^s*(x*y)<=((Md (a*b) s:Nat):Rat):=by
 have h1:=Si (a:=a*b) (Nat.two_pow_pos s)
 have h2:=Mv hx hy (nn a) (Rat.mul_nonneg (Rat.le_of_lt (Zl s)) h0);refine Rat.le_trans ?_ h1;rw[Xt,Jh (Zl s)];push_cast;generalize (2:Rat)^s=q at *
 grind
theorem Qeu{a n:Nat}{q x:Rat}(hn:0<n)(hx:(a:Rat)<=q*x):((a/n:Nat):Rat)<=q*(x/(n:Rat)):=by
 have h1:=Ty (a:=a) hn;have hn':(0:Rat)<(n:Rat):=by exact_mod_cast hn
 refine Rat.le_trans h1 ?_;rw[<-Rat.not_lt,Rat.lt_div_iff hn',Rat.not_lt];have:q*(x/(n:Rat))*(n:Rat)=q*x:=by grind
 rw[this];exact hx
theorem Qev{a n:Nat}{q x:Rat}(hn:0<n)(hx:q*x<=(a:Rat)):q*(x/(n:Rat))<=((if a%n=0 then a/n else a/n+1:Nat):Rat):=by
 have h1:=Si (a:=a) hn;have hn':(0:Rat)<(n:Rat):=by exact_mod_cast hn
 refine Rat.le_trans ?_ h1;rw[Jh hn'];have:q*(x/(n:Rat))*(n:Rat)=q*x:=by grind
 rw[this];exact hx
theorem Me{p q:Pr}{s:Nat}{x y:Rat}(hp:Yr s p x)(hq:Yr s q y)(hx:0<=x)(hy:0<=y):Yr s (Qn p q s) (x*y) :=
 ⟨Fw hp.1 hq.1 hx,Fy hp.2 hq.2 hy⟩
theorem Qg3{p:Pr}{s n:Nat}{x:Rat}(hp:Yr s p x)(hn:0<n):Yr s (Jk p n) (x/(n:Rat)):=⟨Qeu hn hp.1,Qev hn hp.2⟩
theorem Qaz{p q:Pr}{s:Nat}{x y:Rat}(hp:Yr s p x)(hq:Yr s q y):Yr s (Jv p q) (x+y):=by obtain⟨h1,h2⟩:=hp;obtain⟨h3,h4⟩:=hq;unfold Yr Jv;simp only;push_cast;constructor<;>grind
theorem Qb9{t:Rat}{n:Nat}(hn:n%2=1):Ls t (n+2)=Ls t n+2*t^n/(n:Rat):=by have e:Ls t (n+2)=Ls t n+Jf t n+Jf t (n+1):=rfl;rw[e];unfold Jf;rw[if_pos hn,if_neg (by omega)];grind
theorem Qg5{s:Nat}{t:Rat}(h0:0<=t)(f n:Nat)(S T X:Pr)(hn:n%2=1)(hS:Yr s S (Ls t n/2))(hT:Yr s T (t^n))(hX:Yr s X (t*t)) :
  ∃m,m%2=1/\Yr s (Kc f n S T X s).1 (Ls t m/2)/\Yr s (Kc f n S T X s).2 (t^m):=by
 induction f generalizing n S T with
 | zero=>exact⟨n,hn,hS,hT⟩
 | succ f ih =>
  unfold Kc;split
  .exact⟨n,hn,hS,hT⟩
  .refine ih (n+2) _ _ (by omega) ?_ ?_
   .have h1:=Qaz hS (Qg3 hT (by omega:0<n));rw[Qb9 hn];have e:(Ls t n+2*t^n/(n:Rat))/2=Ls t n/2+t^n/(n:Rat):=by rw[Rat.div_def,Rat.div_def,Rat.div_def,Rat.div_def];grind
    rw[e];exact h1
   .have h1:=Me hT hX (Wk h0 n) (Rat.mul_nonneg h0 h0);have e:t^(n+2)=t^n*(t*t):=by rw[Rat.pow_succ,Rat.pow_succ];grind
    rw[e];exact h1
theorem Qhq{t:Rat}(h0:0<=t)(h1:t*t+t*t<=1){n:Nat}(hn:n%2=1)(j:Nat):Ls t j<=Ls t n+4*t^n:=by
 have key:∀i,Ls t (n+2*i)+4*t^(n+2*i)<=Ls t n+4*t^n:=by
  intro i
  induction i with
  | zero=>exact Rat.le_refl
  | succ i ih =>
   have e:n+2*(i+1)=n+2*i+2:=by omega
   rw[e,Qb9 (by omega)];have hp:=Wk h0 (n+2*i);have h2:2*t^(n+2*i)/((n+2*i:Nat):Rat)<=2*t^(n+2*i):=by
    have hq:(1:Rat)<=((n+2*i:Nat):Rat):=by exact_mod_cast (by omega:1<=n+2*i)
    generalize ((n+2*i:Nat):Rat)=q at *
    rw[<-Rat.not_lt,Rat.lt_div_iff (by grind),Rat.not_lt];have:=Rat.mul_le_mul_of_nonneg_left hq hp;grind
   have h3:t^(n+2*i+2)=t^(n+2*i)*(t*t):=by rw[Rat.pow_succ,Rat.pow_succ];grind
   have h4:=Rat.mul_le_mul_of_nonneg_left h1 hp;rw[h3];grind
 have h2:Ls t j<=Ls t (n+2*j):=by
  have:=K8 (Mx h0) j (n+j);have e:j+(n+j)=n+2*j:=by omega
  rw[e]at this;exact this
 have h3:=key j;have h4:=Wk h0 (n+2*j);grind
theorem Ix{num den s:Nat}(h:0<den)(h3:num*3<=den) :
  (∃m,((Qd num den s).lo:Rat)<=(2:Rat)^s*(Ls ((num:Rat)/(den:Rat)) m/2)) /\
  (∀m,(2:Rat)^s*(Ls ((num:Rat)/(den:Rat)) m/2)<=((Qd num den s).hi:Rat)):=by
 have hd:(0:Rat)<(den:Rat):=by exact_mod_cast h
 have h0:0<=(num:Rat)/(den:Rat):=Wt (nn num) (nn den);have h13:(num:Rat)/(den:Rat)*3<=1:=by
  have:(num:Rat)*3<=(den:Rat):=by exact_mod_cast h3
  have e:(num:Rat)/(den:Rat)*3=((num:Rat)*3)/(den:Rat):=by rw[Rat.div_def,Rat.div_def];grind
  rw[e,<-Rat.not_lt,Rat.lt_div_iff hd,Rat.not_lt];grind
 have hf:=Qbf (num:=num) (s:=s) h;by_cases hn:num=0
 .have e:Qd num den s=⟨0,0⟩:=by unfold Qd;rw[if_pos hn]
  have hz:(num:Rat)/(den:Rat)=0:=by subst hn;rw[Rat.div_def];grind
  have hL:∀m,Ls 0 m=0:=by
   intro m
   induction m with
   | zero=>rfl
   | succ m ih =>
    have e2:Ls 0 (m+1)=Ls 0 m+Jf 0 m:=rfl;rw[e2,ih];unfold Jf;split
    .obtain⟨k,rfl⟩:∃k,m=k+1:=⟨m-1,by omega⟩
     rw[Rat.pow_succ,Rat.div_def];grind
    .grind
  rw[e,hz];simp only[hL];refine⟨⟨0,?_⟩,fun _=>?_⟩<;>push_cast<;>grind
 .have e:Qd num den s=Yi (Kc (s+1) 1 ⟨0,0⟩ (Qt num den s) (Qn (Qt num den s) (Qt num den s) s) s).1 (Kc (s+1) 1 ⟨0,0⟩ (Qt num den s) (Qn (Qt num den s) (Qt num den s) s) s).2:=by unfold Qd;rw[if_neg hn]
  generalize (num:Rat)/(den:Rat)=t at *
  have hq:=Me hf hf h0 h0;have hL1:Ls t 1/2=0:=by have e2:Ls t 1=0+Jf t 0:=rfl;rw[e2];unfold Jf;rw[Rat.div_def];grind
  have hS:Yr s ⟨0,0⟩ (Ls t 1/2):=by rw[hL1];unfold Yr;simp only;push_cast;constructor<;>grind
  have hT:Yr s (Qt num den s) (t^1):=by have:t^1=t:=(by grind);rw[this];exact hf
  obtain⟨m,hm,h1,h2⟩:=Qg5 h0 (s+1) 1 ⟨0,0⟩ (Qt num den s) _ (by decide) hS hT hq;rw[e];generalize Kc (s+1) 1 ⟨0,0⟩ (Qt num den s) (Qn (Qt num den s) (Qt num den s) s) s=R at *
  refine⟨⟨m,h1.1⟩,fun j=>?_⟩;have htt:t*t+t*t<=1:=by have:=Rat.mul_le_mul_of_nonneg_left h13 h0;grind
  have h3:=Qhq h0 htt hm j;have h4:=h1.2;have h5:=h2.2;have h6:=Rat.mul_le_mul_of_nonneg_left h3 (Rat.le_of_lt (Zl s));unfold Yi;simp only;push_cast;generalize (2:Rat)^s=q at *
  have e1:q*(Ls t j/2)=(q*Ls t j)/2:=by rw[Rat.div_def,Rat.div_def];grind
  have e2:q*(Ls t m/2)=(q*Ls t m)/2:=by rw[Rat.div_def,Rat.div_def];grind
  rw[e1];rw[e2]at h4;grind
theorem Qgo{s:Nat}{a b:Rat}(ha:0<=a)(hb:0<=b)(f n:Nat)(S T X:Pr)(hn:0<n)
  (hS1:(S.lo:Rat)<=(2:Rat)^s*E a n) (hS2:(2:Rat)^s*E b n<=(S.hi:Rat)) (hT1:(T.lo:Rat)<=(2:Rat)^s*ex a (n-1)) (hT2:(2:Rat)^s*ex b (n-1)<=(T.hi:Rat))
  (hX1:(X.lo:Rat)<=(2:Rat)^s*a) (hX2:(2:Rat)^s*b<=(X.hi:Rat)) :
  ∃m,0<m/\((Nc f n S T X s).1.lo:Rat)<=(2:Rat)^s*E a m/\(2:Rat)^s*E b m<=((Nc f n S T X s).1.hi:Rat)/\(2:Rat)^s*ex b (m-1)<=((Nc f n S T X s).2.hi:Rat):=by
 induction f generalizing n S T with
 | zero=>exact⟨n,hn,hS1,hS2,hT2⟩
 | succ f ih =>
  obtain⟨k,rfl⟩:∃k,n=k+1:=⟨n-1,by omega⟩
  have hk:k+1-1=k:=by omega
  rw[hk]at hT1 hT2;have t1:=Qeu hn (Fw hT1 hX1 (Xx ha k));have t2:=Qev hn (Fy hT2 hX2 hb);have e1:∀c,ex c k*c/((k+1:Nat):Rat)=ex c (k+1):=fun _=>rfl;rw[e1]at t1 t2;have s1:((Jv S (Jk (Qn T X s) (k+1))).lo:Rat)<=(2:Rat)^s*E a (k+1+1):=by have e:E a (k+1+1)=E a (k+1)+ex a (k+1):=rfl;rw[e];unfold Jv Jk Qn;simp only;push_cast;grind
  have s2:(2:Rat)^s*E b (k+1+1)<=((Jv S (Jk (Qn T X s) (k+1))).hi:Rat):=by have e:E b (k+1+1)=E b (k+1)+ex b (k+1):=rfl;rw[e];have e2:(Jv S (Jk (Qn T X s) (k+1))).hi=S.hi+(Jk (Qn T X s) (k+1)).hi:=rfl;rw[e2];have t2':(2:Rat)^s*ex b (k+1)<=((Jk (Qn T X s) (k+1)).hi:Rat):=t2;push_cast;grind
  unfold Nc;split
  .exact⟨k+1,hn,hS1,hS2,hT2⟩
  .split
   .exact⟨k+1+1,by omega,s1,s2,t2⟩
   .exact ih (k+1+1) _ _ (by omega) s1 s2 t1 t2
theorem Qce{b:Rat}(hb:0<=b)(h1:b<=1){m:Nat}(hm:0<m)(j:Nat):E b j<=E b m+2*ex b (m-1):=by
 have key:∀i,E b (m+i)+2*ex b (m+i)<=E b m+2*ex b m:=by
  intro i
  induction i with
  | zero=>exact Rat.le_refl
  | succ i ih =>
   have e:E b (m+(i+1))=E b (m+i)+ex b (m+i):=rfl;have e2:ex b (m+(i+1))=ex b (m+i)*b/((m+i+1:Nat):Rat):=rfl;have hp:=Xx hb (m+i);have h2:ex b (m+i)*b/((m+i+1:Nat):Rat)*2<=ex b (m+i):=by
    have hq:(2:Rat)<=((m+i+1:Nat):Rat):=by exact_mod_cast (by omega:2<=m+i+1)
    generalize ((m+i+1:Nat):Rat)=q at *
    have e3:ex b (m+i)*b/q*2=(ex b (m+i)*b*2)/q:=by rw[Rat.div_def,Rat.div_def];grind
    rw[e3,<-Rat.not_lt,Rat.lt_div_iff (by grind),Rat.not_lt];have a1:=Rat.mul_le_mul_of_nonneg_left hq hp;have a2:=Rat.mul_le_mul_of_nonneg_left h1 hp;grind
   rw[e,e2];grind
 have h2:E b j<=E b (m+j):=by
  have:=Qjp hb j m;have e:j+m=m+j:=by omega
  rw[e]at this;exact this
 have h3:=key j;have h4:=Xx hb (m+j);obtain⟨k,rfl⟩:∃k,m=k+1:=⟨m-1,by omega⟩
 have h5:ex b (k+1)<=ex b k:=by
  have hp:=Xx hb k;have e2:ex b (k+1)=ex b k*b/((k+1:Nat):Rat):=rfl;rw[e2];have hq:(1:Rat)<=((k+1:Nat):Rat):=by exact_mod_cast (by omega:1<=k+1)
  generalize ((k+1:Nat):Rat)=q at *
  rw[<-Rat.not_lt,Rat.lt_div_iff (by grind),Rat.not_lt];have a1:=Rat.mul_le_mul_of_nonneg_left hq hp;have a2:=Rat.mul_le_mul_of_nonneg_left h1 hp;grind
 have e:k+1-1=k:=by omega
 rw[e];grind
theorem Cg{a b s:Nat}(hbs:b<=2^s) :
  (∃m,((Xj a b s).lo:Rat)<=(2:Rat)^s*E ((a:Rat)/(2:Rat)^s) m) /\
  (∀m,(2:Rat)^s*E ((b:Rat)/(2:Rat)^s) m<=((Xj a b s).hi:Rat)):=by
 have hp:=Zl s;have h1:(b:Rat)<=(2:Rat)^s:=by rw[<-Xt];exact_mod_cast hbs
 have ha0:0<=(a:Rat)/(2:Rat)^s:=Wt (nn a) (Rat.le_of_lt hp);have hb0:0<=(b:Rat)/(2:Rat)^s:=Wt (nn b) (Rat.le_of_lt hp);have hb1:(b:Rat)/(2:Rat)^s<=1:=by rw[<-Rat.not_lt,Rat.lt_div_iff hp,Rat.not_lt];grind
 have ea:(a:Rat)=(2:Rat)^s*((a:Rat)/(2:Rat)^s):=by generalize (2:Rat)^s=q at *;grind
 have eb:(b:Rat)=(2:Rat)^s*((b:Rat)/(2:Rat)^s):=by generalize (2:Rat)^s=q at *;grind
 have e1:∀c,E c 1=1:=fun c=>by simp only[E,Za,ex];grind
 have e2:∀c,ex c (1-1)=1:=fun c=>rfl;have e3:((2^s:Nat):Rat)=(2:Rat)^s*1:=by rw[Xt];grind
 obtain⟨m,hm,k1,k2,k3⟩:=Qgo (s:=s) ha0 hb0 (s+2) 1 ⟨2^s,2^s⟩ ⟨2^s,2^s⟩ ⟨a,b⟩ (by decide)
  (by rw[e1];exact Vn e3) (by rw[e1];exact Vn e3.symm) (by rw[e2];exact Vn e3) (by rw[e2];exact Vn e3.symm) (Vn ea) (Vn eb.symm)
 have er:Nc (s+2) 1 ⟨2^s,2^s⟩ ⟨2^s,2^s⟩ ⟨a,b⟩ s=Nt a b s:=rfl;rw[er]at k1 k2 k3;unfold Xj Yi;refine⟨⟨m,k1⟩,fun j=>?_⟩;have h3:=Qce hb0 hb1 hm j;have h6:=Rat.mul_le_mul_of_nonneg_left h3 (Rat.le_of_lt hp);simp only;push_cast;generalize (2:Rat)^s=q at *
 grind
end Rl
end Go.Proofs.YtobpioceopfkpaaGreatDoor
