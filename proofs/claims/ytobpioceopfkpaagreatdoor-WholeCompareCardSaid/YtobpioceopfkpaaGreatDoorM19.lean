/-
  Lemmas for WholeCompare (part 19); without conditions.
-/
import Derived.Test.YtobpioceopfkpaaGreatDoorM13
set_option maxRecDepth 100000
set_option maxHeartbeats 4000000
namespace Go.Proofs.YtobpioceopfkpaaGreatDoor
open Go.RowKit
open World (setCell alloc drew)
open List (set_cons_zero set_cons_succ setIfInBounds_toArray cons_append nil_append)
def Qp(b:Nat):Nat:=b/4503599627370496%2048
def Xs(b:Nat):Nat:=b%4503599627370496
def J7(b:Nat):Bool:=decide (9223372036854775808<=b)
def Xi(b:Nat):Nat:=if Qp b=0 then Xs b else Xs b+4503599627370496
def Jt(b:Nat):Int:=max (Qp b:Int) 1-1075
def Qf(b:Nat):Dn:=Qa ⟨J7 b,Xi b,Jt b⟩
theorem Lw(b:Nat):Xi b<9007199254740992:=by have:Xs b<4503599627370496:=Nat.mod_lt _ (by decide);unfold Xi;split<;>omega
theorem L0{b:Nat}(hb:b<18446744073709551616)(w:World):Calls Tryz.prog 24 #[.int .u64 (b:Int)] w fun e w'=>e=.returned (.int .i64 (Qp b:Nat))/\w=w':=by
 have h1:=Qbz hb;have h2:Qp b<2048:=Nat.mod_lt _ (by decide);have h3:b/4503599627370496%2048=Qp b:=rfl;rw[h3]at h1;generalize Qp b=f at *
 clear h3;have h4:wrap64 (f:Int)=(f:Int):=by unfold wrap64;omega
 go_enter Tryz.func24,Tryz.ntmps24;go_wp2;refine bodyPost_ret (v:=.int .i64 (f:Int)) (by simp[results,Tryz.results24,go_sem]) rfl ⟨rfl,rfl⟩
theorem Ff{b:Nat}(hb:b<18446744073709551616)(w:World):Calls Tryz.prog 10 #[.int .u64 (b:Int)] w fun e w'=>e=.returned (.bool (J7 b))/\w=w':=by
 have h1:=Qdt hb;have h2:J7 b=decide (9223372036854775808<=b):=rfl;rw[h2];by_cases h:9223372036854775808<=b
 .rw[if_pos h]at h1;rw[decide_eq_true h];have h1:bits .and .u64 (b:Int) 9223372036854775808=9223372036854775808:=h1;clear h h2;go_enter Tryz.func10,Tryz.ntmps10;go_wp2;exact bodyPost_ret (v:=.bool true) (by simp[results,Tryz.results10,go_sem]) rfl ⟨rfl,rfl⟩
 .rw[if_neg h]at h1;rw[decide_eq_false h];have h1:bits .and .u64 (b:Int) 9223372036854775808=0:=h1;clear h h2;go_enter Tryz.func10,Tryz.ntmps10;go_wp2;exact bodyPost_ret (v:=.bool false) (by simp[results,Tryz.results10,go_sem]) rfl ⟨rfl,rfl⟩
theorem Cf{b:Nat}(hb:b<18446744073709551616)(w:World):Calls Tryz.prog 9 #[.int .u64 (b:Int)] w fun e w'=>e=.returned (.bool (decide (Qp b<2047)))/\w=w':=by
 have C:=h_ (fun w=>L0 hb w);generalize Qp b=f at *
 obtain⟨g,hg⟩:∃g,g=decide (f<2047):=⟨_,rfl⟩
 have z1:decide ((f:Int)<2047)=g:=by
  rw[hg];by_cases h:f<2047
  .have:(f:Int)<2047:=by omega
   simp only[h,this]
  .have:¬(f:Int)<2047:=by omega
   simp only[h,this]
 rw[<-hg];have HG:=h_ hg;clear hg;go_enter Tryz.func9,Tryz.ntmps9;go_wp2_with fail;refine(C.o _).mono ?_;rintro q w1 ⟨rfl,rfl⟩;go_wp2;refine bodyPost_ret (v:=.bool g) (by rw[HG.o];simp[results,Tryz.results9,go_sem]) rfl ⟨rfl,rfl⟩
theorem Mz{b:Nat}(hb:b<18446744073709551616)(hf:Qp b<2047)(h0:¬(Qp b=0/\Xs b=0))(w:World):Calls Tryz.prog 13 #[.int .u64 (b:Int)] w fun e w'=>e=.returned (.int .i64 (if Qp b=0 then 1 else 2))/\w=w':=by
 have C:=h_ (fun w=>L0 hb w);have h1:=Cu hb;have h3:b%4503599627370496=Xs b:=rfl;rw[h3]at h1;obtain⟨k,hk⟩:∃k:Int,k=if Qp b=0 then 1 else 2:=⟨_,rfl⟩
 rw[<-hk];generalize Qp b=f at *
 generalize Xs b=r at *
 clear h3;by_cases hf0:f=0
 .subst hf0;obtain rfl:k=1:=hk;have z1:((r:Int)==0)=false:=by rw[beq_eq_false_iff_ne];intro h;exact h0 ⟨rfl,by omega⟩
  have z2:(r==0)=false:=by rw[beq_eq_false_iff_ne];intro h;exact h0 ⟨rfl,h⟩
  clear h0 hf;go_enter Tryz.func13,Tryz.ntmps13;go_wp2_with fail;refine(C.o _).mono ?_;rintro q w1 ⟨rfl,rfl⟩;go_wp2;refine bodyPost_ret (v:=.int .i64 1) (by simp[results,Tryz.results13,go_sem]) rfl ⟨rfl,rfl⟩
 .obtain rfl:k=2:=by rw[hk,if_neg hf0]
  have z1:((f:Int)==0)=false:=by rw[beq_eq_false_iff_ne];omega
  have z2:(f==0)=false:=by rw[beq_eq_false_iff_ne];omega
  have z3:decide ((f:Int)<2047)=true:=decide_eq_true (by omega);clear h0 hf0;go_enter Tryz.func13,Tryz.ntmps13;go_wp2_with fail;refine(C.o _).mono ?_;rintro q w1 ⟨rfl,rfl⟩;go_wp2;refine bodyPost_ret (v:=.int .i64 2) (by simp[results,Tryz.results13,go_sem]) rfl ⟨rfl,rfl⟩
theorem Ur{b:Nat}(hb:b<18446744073709551616)(hf:Qp b<2047){w:World}(t:Qq w):Calls Tryz.prog 15 #[.int .u64 (b:Int)] w fun e w'=>∃u,e=.returned (.tuple #[u,.bool true])/\Cy w' u (Qf b)/\Below w.heap.size w w':=by
 have C1:=h_ (fun w=>Cf hb w);have C2:=h_ (fun w=>L0 hb w);have C3:=h_ (fun w=>Ff hb w);rw[decide_eq_true hf]at C1;have h1:=Cu hb;have h3:b%4503599627370496=Xs b:=rfl;rw[h3]at h1;have hr:Xs b<4503599627370496:=Nat.mod_lt _ (by decide);have h5:=Qa1 hr;have hml:=Lw b;have hm:Xi b=if Qp b=0 then Xs b else Xs b+4503599627370496:=rfl
 obtain⟨e,he⟩:∃e,e=Jt b:=⟨_,rfl⟩
 have he2:e=max (Qp b:Int) 1-1075:=he;have heb:-1074<=e/\e<=1000:=by omega
 obtain⟨mx,hmx⟩:∃x,x=max (Qp b:Int) 1:=⟨_,rfl⟩
 have q1:max (Qp b:Int) 1=mx:=hmx.symm;have q2:IntKind.i64.wrap (mx-1075)=e:=by rw[IntWalk.i64_in _ (by omega)];omega
 have CM:=h_ (fun w (h:Rd w (.slice (some ⟨w.heap.size-1,0,none⟩) 1 1) (Xi b))=>h);have HD:Qf b=Qa ⟨J7 b,Xi b,e⟩:=by rw[he];rfl
 rw[HD];have CK:=h_ (fun w u (h:Rd w u (Xi b))=>Kf (neg:=J7 b) (e:=e) h (Nat.le_trans (Zs (by omega)) (by decide)) (by omega));generalize Qa ⟨J7 b,Xi b,e⟩=R at *
 obtain⟨rn,rm,re⟩:=R;generalize Qp b=f at *
 generalize Xs b=r at *
 generalize J7 b=g at *
 generalize Xi b=m at *
 have HT:=h_ t;have HM:=h_ hm;have HML:=h_ hml;have HE:=h_ he2;clear h3 he he2 heb hmx HD CM t hm hml;by_cases hf0:f=0
 .subst hf0;obtain rfl:m=r:=HM.o;obtain rfl:e=-1074:=by have:=HE.o;omega
  clear q1 q2 HE;go_enter Tryz.func15,Tryz.ntmps15;go_upto_region 1 with(fail)
  have F0:=h_ (Fx.one w 42 #[.bool false,.slice none 0 0,.int .i64 0] rfl);have T0:=h_ (HT.o.alloc (.cells #[.bool false,.slice none 0 0,.int .i64 0] 42));generalize alloc _ _=w0 at F0 T0 |-;have c0:=F0.o.c3 0 rfl;go_wp2_with fail;refine(C1.o _).mono ?_;rintro q w1 ⟨rfl,rfl⟩;go_wp2_with fail;refine(C2.o _).mono ?_;rintro q w1 ⟨rfl,rfl⟩;go_wp2_with fail;refine(C3.o _).mono ?_;rintro q w1 ⟨rfl,rfl⟩;go_wp2_with fail;have hR:=Vr (Wr T0.o (n:=m) (by have:=HML.o;omega));have F1:=h_ (F0.o.alloc (.cells #[.int .u64 (m:Int)] 22));clear c0;refine(CK.o _ _ hR).mono ?_;rintro q w2 ⟨u,rfl,hu,hb⟩;have F2:=h_ (F1.o.call hb);have U2:=h_ hu;clear hb hR F1;obtain⟨a3,k3,c3,rfl⟩:=U2.o.fm;go_upto_region 7 with(fail)
  have F3:=h_ (F2.o.new 42 #[.bool rn,.slice a3 k3 c3,.int .i64 re] rfl);have U3:=h_ (U2.o.alloc (.cells #[.bool rn,.slice a3 k3 c3,.int .i64 re] 42));obtain⟨g1,hg1⟩:∃g,g=(World.heap w2).size:=⟨_,rfl⟩
  rw[<-hg1]at F3 |-;clear hg1;simp only[nil_append,cons_append]at F3;generalize alloc w2 _=W3 at F3 U3 |-;have c0_3:=F3.o.c3 0 rfl;have c1_3:=F3.o.c3 1 rfl;go_wp2;obtain⟨f0,p0⟩:=F3.o.s3 0 rfl (.bool rn) (.slice a3 k3 c3) (.int .i64 re) rfl rfl rfl;have p:=p0;have f:=f0;generalize setCell _ _ _=W at f p |-;have g0:=f.c3 0 rfl;refine bodyPost_ret (v:=.tuple #[.agg #[.bool rn,.slice a3 k3 c3,.int .i64 re],.bool true]) (by simp[results,Tryz.results15,go_sem,g0]) rfl ?_;exact⟨_,rfl,U3.o.kp p,f.b⟩
 .have z0:decide (0<(f:Int))=true:=decide_eq_true (by omega);have z0':decide (0<f)=true:=decide_eq_true (by omega);have hmr:r+4503599627370496=m:=by rw[HM.o,if_neg hf0]
  rw[hmr]at h5;clear hf0;go_enter Tryz.func15,Tryz.ntmps15;go_upto_region 1 with(fail)
  have F0:=h_ (Fx.one w 42 #[.bool false,.slice none 0 0,.int .i64 0] rfl);have T0:=h_ (HT.o.alloc (.cells #[.bool false,.slice none 0 0,.int .i64 0] 42));generalize alloc _ _=w0 at F0 T0 |-;have c0:=F0.o.c3 0 rfl;go_wp2_with fail;refine(C1.o _).mono ?_;rintro q w1 ⟨rfl,rfl⟩;go_wp2_with fail;refine(C2.o _).mono ?_;rintro q w1 ⟨rfl,rfl⟩;go_wp2_with fail;refine(C3.o _).mono ?_;rintro q w1 ⟨rfl,rfl⟩;go_wp2_with fail;have hR:=Vr (Wr T0.o (n:=m) (by have:=HML.o;omega));have F1:=h_ (F0.o.alloc (.cells #[.int .u64 (m:Int)] 22));clear c0;refine(CK.o _ _ hR).mono ?_;rintro q w2 ⟨u,rfl,hu,hb⟩;have F2:=h_ (F1.o.call hb);have U2:=h_ hu;clear hb hR F1;obtain⟨a3,k3,c3,rfl⟩:=U2.o.fm;go_upto_region 7 with(fail)
  have F3:=h_ (F2.o.new 42 #[.bool rn,.slice a3 k3 c3,.int .i64 re] rfl);have U3:=h_ (U2.o.alloc (.cells #[.bool rn,.slice a3 k3 c3,.int .i64 re] 42));obtain⟨g1,hg1⟩:∃g,g=(World.heap w2).size:=⟨_,rfl⟩
  rw[<-hg1]at F3 |-;clear hg1;simp only[nil_append,cons_append]at F3;generalize alloc w2 _=W3 at F3 U3 |-;have c0_3:=F3.o.c3 0 rfl;have c1_3:=F3.o.c3 1 rfl;go_wp2;obtain⟨f0,p0⟩:=F3.o.s3 0 rfl (.bool rn) (.slice a3 k3 c3) (.int .i64 re) rfl rfl rfl;have p:=p0;have f:=f0;generalize setCell _ _ _=W at f p |-;have g0:=f.c3 0 rfl;refine bodyPost_ret (v:=.tuple #[.agg #[.bool rn,.slice a3 k3 c3,.int .i64 re],.bool true]) (by simp[results,Tryz.results15,go_sem,g0]) rfl ?_;exact⟨_,rfl,U3.o.kp p,f.b⟩
theorem Qfe{b:Nat}(hb:b<18446744073709551616)(hf:Qp b<2047)(he:(Qf b).e<0){w:World}(t:Qq w):Calls Tryz.prog 28 #[.int .u64 (b:Int)] w fun e w'=>e=.returned (.tuple #[.bool false,.bool false])/\Below w.heap.size w w':=by
 have C:=h_ (fun w (t:Qq w)=>Ur hb hf t);generalize Qf b=D at *
 obtain⟨n,m,e⟩:=D;simp only at he;have z1:decide ((0:Int)<=e)=false:=decide_eq_false (by omega);have z2:(e==0)=false:=beq_eq_false_iff_ne.2 (by omega);have HT:=h_ t;clear t;go_enter Tryz.func28,Tryz.ntmps28;have F0:=h_ (Fx.nil w);go_wp2_with fail;refine(C.o _ HT.o).mono ?_;rintro q w1 ⟨u,rfl,hu,hb⟩;have F1:=h_ (F0.o.call hb);have U1:=h_ (hu);clear hb;obtain⟨a3,k3,c3,rfl⟩:=U1.o.fm;go_upto_region 2 with(fail)
 have F2:=h_ (F1.o.new 42 #[.bool n,.slice a3 k3 c3,.int .i64 e] rfl);have U2:=h_ (U1.o.alloc (.cells #[.bool n,.slice a3 k3 c3,.int .i64 e] 42));obtain⟨g1,hg1⟩:∃g,g=(World.heap w1).size:=⟨_,rfl⟩
 rw[<-hg1]at F2 |-;clear hg1;simp only[nil_append]at F2;generalize alloc w1 _=W2 at F2 U2 |-;have c0_2:=F2.o.c3 0 rfl;clear he;go_quiet (fail);go_wp2;refine bodyPost_ret (v:=.tuple #[.bool false,.bool false]) (by simp[results,Tryz.results28,go_sem]) rfl ?_;exact⟨rfl,(F2.o.drewN _).b⟩
theorem Hm{b:Nat}(hb:b<18446744073709551616)(hf:Qp b<2047)(h0:¬(Qp b=0/\Xs b=0))(w:World):Calls Tryz.prog 59 #[.int .u64 (b:Int)] w fun e w'=>e=.returned (.bool false)/\w=w':=by
 have C:=h_ (fun w=>Mz hb hf h0 w);have hk:(if Qp b=0 then(1:Int)else 2)=1\/(if Qp b=0 then(1:Int)else 2)=2:=by split<;>simp
 generalize (if Qp b=0 then(1:Int)else 2)=k at *
 clear hf h0;rcases hk with rfl|rfl
 .go_enter Tryz.func59,Tryz.ntmps59;go_wp2_with fail;refine(C.o _).mono ?_;rintro q w1 ⟨rfl,rfl⟩;go_wp2;exact bodyPost_ret (v:=.bool false) (by simp[results,Tryz.results59,go_sem]) rfl ⟨rfl,rfl⟩
 .go_enter Tryz.func59,Tryz.ntmps59;go_wp2_with fail;refine(C.o _).mono ?_;rintro q w1 ⟨rfl,rfl⟩;go_wp2;exact bodyPost_ret (v:=.bool false) (by simp[results,Tryz.results59,go_sem]) rfl ⟨rfl,rfl⟩
theorem Dq{b:Nat}(hb:b<18446744073709551616)(hf:Qp b<2047)(h0:¬(Qp b=0/\Xs b=0))(w:World):Calls Tryz.prog 61 #[.int .u64 (b:Int)] w fun e w'=>e=.returned (.bool false)/\w=w':=by
 have C:=h_ (fun w=>Mz hb hf h0 w);have hk:(if Qp b=0 then(1:Int)else 2)=1\/(if Qp b=0 then(1:Int)else 2)=2:=by split<;>simp
 generalize (if Qp b=0 then(1:Int)else 2)=k at *
 clear hf h0;rcases hk with rfl|rfl
 .go_enter Tryz.func61,Tryz.ntmps61;go_wp2_with fail;refine(C.o _).mono ?_;rintro q w1 ⟨rfl,rfl⟩;go_wp2;exact bodyPost_ret (v:=.bool false) (by simp[results,Tryz.results61,go_sem]) rfl ⟨rfl,rfl⟩
 .go_enter Tryz.func61,Tryz.ntmps61;go_wp2_with fail;refine(C.o _).mono ?_;rintro q w1 ⟨rfl,rfl⟩;go_wp2;exact bodyPost_ret (v:=.bool false) (by simp[results,Tryz.results61,go_sem]) rfl ⟨rfl,rfl⟩
theorem Qen{b:Nat}(hb:b<18446744073709551616)(hf:Qp b<2047)(h0:¬(Qp b=0/\Xs b=0))(w:World):Calls Tryz.prog 63 #[.int .u64 (b:Int)] w fun e w'=>e=.returned (.bool false)/\w=w':=by
 have C:=h_ (fun w=>Mz hb hf h0 w);have hk:(if Qp b=0 then(1:Int)else 2)=1\/(if Qp b=0 then(1:Int)else 2)=2:=by split<;>simp
 generalize (if Qp b=0 then(1:Int)else 2)=k at *
 clear hf h0;rcases hk with rfl|rfl
 .go_enter Tryz.func63,Tryz.ntmps63;go_wp2_with fail;refine(C.o _).mono ?_;rintro q w1 ⟨rfl,rfl⟩;go_wp2;exact bodyPost_ret (v:=.bool false) (by simp[results,Tryz.results63,go_sem]) rfl ⟨rfl,rfl⟩
 .go_enter Tryz.func63,Tryz.ntmps63;go_wp2_with fail;refine(C.o _).mono ?_;rintro q w1 ⟨rfl,rfl⟩;go_wp2;exact bodyPost_ret (v:=.bool false) (by simp[results,Tryz.results63,go_sem]) rfl ⟨rfl,rfl⟩
theorem Qeo{b:Nat}(hb:b<18446744073709551616)(hf:Qp b<2047)(h0:¬(Qp b=0/\Xs b=0))(w:World):Calls Tryz.prog 64 #[.int .u64 (b:Int)] w fun e w'=>e=.returned (.bool false)/\w=w':=by
 have C:=h_ (fun w=>Mz hb hf h0 w);have hk:(if Qp b=0 then(1:Int)else 2)=1\/(if Qp b=0 then(1:Int)else 2)=2:=by split<;>simp
 generalize (if Qp b=0 then(1:Int)else 2)=k at *
 clear hf h0;rcases hk with rfl|rfl
 .go_enter Tryz.func64,Tryz.ntmps64;go_wp2_with fail;refine(C.o _).mono ?_;rintro q w1 ⟨rfl,rfl⟩;go_wp2;exact bodyPost_ret (v:=.bool false) (by simp[results,Tryz.results64,go_sem]) rfl ⟨rfl,rfl⟩
 .go_enter Tryz.func64,Tryz.ntmps64;go_wp2_with fail;refine(C.o _).mono ?_;rintro q w1 ⟨rfl,rfl⟩;go_wp2;exact bodyPost_ret (v:=.bool false) (by simp[results,Tryz.results64,go_sem]) rfl ⟨rfl,rfl⟩
end Go.Proofs.YtobpioceopfkpaaGreatDoor
