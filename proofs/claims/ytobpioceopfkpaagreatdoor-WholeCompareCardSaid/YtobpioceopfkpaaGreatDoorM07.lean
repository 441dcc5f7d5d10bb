/-
  Lemmas for WholeCompare (part 7); without conditions.
-/
import Derived.Test.YtobpioceopfkpaaGreatDoorM06
import Derived.Test.YtobpioceopfkpaaGreatDoorM02
set_option maxRecDepth 100000
set_option maxHeartbeats 4000000
set_option exponentiation.threshold 9000
namespace Go.Proofs.YtobpioceopfkpaaGreatDoor.Rf
open Go.RowKit
open World (setCell alloc drew)
open List (set_cons_zero set_cons_succ setIfInBounds_toArray cons_append nil_append)
def NO(w:World)(v:Value)(z lo:Int):Prop:=∃ng m e,Yf w v ng m e/\lo<=e/\e<=2200/\nv ng m e=z/\(m=0\/m%2=1)
def Gj(z lo:Int)(w:World)(q:Ending)(w':World):Prop:=∃v,q=.returned v/\NO w' v z lo/\Below w.heap.size w w'
theorem NO.nz{w:World}{v:Value}{z lo:Int}(h:NO w v z lo):NZ w v z lo:=by obtain⟨ng,m,e,h1,h2,h3,h4,_⟩:=h;exact⟨ng,m,e,h1,h2,by omega,h4⟩
theorem Qgk(b:Nat):((b:Int)/4503599627370496%2048)=(Uw b:Nat):=by unfold Uw;omega
theorem Qgh(b:Nat):((b:Int)%4503599627370496)=(Uv b:Nat):=by unfold Uv;omega
theorem Qc1{b f x:Nat}{e:Int}{neg:Bool}(hneg:neg=Dv b)(hx:Zd (b%2^63)=x*2^f)(he:e=(f:Int)-1074)(hf:f<=2100){w w':World}{q:Ending}(h:Oc neg x e w q w'):Gj (val b*2^4926) (-1074) w q w':=by
 obtain⟨v,ng,m,e',rfl,hn,hb,h0,h1⟩:=h;by_cases hx0:x=0
 .obtain⟨rfl,rfl⟩:=h0 hx0;refine⟨v,rfl,⟨ng,0,0,hn,by omega,by omega,?_,.inl rfl⟩,hb⟩;rw[Pk];have:val b=0:=by unfold val;rw[hx,hx0,Nat.zero_mul];unfold sg;split<;>simp
  rw[this,Int.zero_mul]
 .obtain⟨rfl,hodd,low,hlow,rfl,hm⟩:=h1 hx0;refine⟨v,rfl,⟨ng,m,e+low,hn,by omega,by omega,?_,.inr hodd⟩,hb⟩;unfold nv val;rw[hx,<-hm,hneg,he,show((f:Int)-1074+low+6000).toNat=low+f+4926 by omega,Nat.pow_add,<-Nat.mul_assoc,Qh8,Nat.pow_add,<-Nat.mul_assoc];simp
theorem NO.form{w:World}{v:Value}{z lo:Int}(h:NO w v z lo):∃ng a k c e,v=.agg #[.bool ng,.slice a k c,.int .i64 e]:=by obtain⟨ng,m,e,⟨s,rfl,hs⟩,_⟩:=h;obtain⟨a,k,c,rfl,_⟩:=hs.form;exact⟨ng,a,k,c,e,rfl⟩
theorem NZ.form{w:World}{v:Value}{z lo:Int}(h:NZ w v z lo):∃ng a k c e,v=.agg #[.bool ng,.slice a k c,.int .i64 e]:=by obtain⟨ng,m,e,⟨s,rfl,hs⟩,_⟩:=h;obtain⟨a,k,c,rfl,_⟩:=hs.form;exact⟨ng,a,k,c,e,rfl⟩
theorem NO.st3{w:World}{v:Value}{z lo:Int}{R:Nat}(h:NO w v z lo)(hp:Gk w R)(a b c:Value):NO (((w.setCell ⟨R,0,none⟩ a).setCell ⟨R,1,none⟩ b).setCell ⟨R,2,none⟩ c) v z lo:=by obtain⟨ng,m,e,⟨s,rfl,hs⟩,h⟩:=h;exact⟨ng,m,e,⟨s,rfl,hs.st3 hp a b c⟩,h⟩
def Uu(w:World)(R:Nat):Prop:=Qi w R 65 #[.bool false,.slice none 0 0,.int .i64 0]
theorem Uu.parts{w:World}{R:Nat}(h:Uu w R):Gk w R:=⟨_,_,_,_,h,_,_,_,rfl⟩
theorem Uu.cells{w:World}{R:Nat}(h:Uu w R):w.cell? ⟨R,0,none⟩=some (.bool false)/\w.cell? ⟨R,1,none⟩=some (.slice none 0 0)/\w.cell? ⟨R,2,none⟩=some (.int .i64 0)/\w.frozen? ⟨R,0,none⟩=false/\w.frozen? ⟨R,1,none⟩=false/\w.frozen? ⟨R,2,none⟩=false :=
 ⟨h.at 0 (.bool false) rfl,h.at 1 (.slice none 0 0) rfl,h.at 2 (.int .i64 0) rfl,h.frozen 0,h.frozen 1,h.frozen 2⟩
theorem Sl.lit1(w:World)(u:Value)(t:TypeId):Sl (w.alloc (.cells #[u] t)) (.slice (some ⟨w.heap.size,0,none⟩) 1 1) [u]:=by
 refine⟨_,1,rfl,fun _=>⟨w.heap.size,0,rfl,fun i x hx=>?_⟩⟩;rcases i with _|i
 .simp at hx;subst hx;exact(Qi.new w t #[u]).at 0 u rfl
 .simp at hx
theorem Sl.lit1'(w:World)(o:Obj)(u:Value)(t:TypeId):Sl ((w.alloc o).alloc (.cells #[u] t)) (.slice (some ⟨w.heap.size+1,0,none⟩) 1 1) [u]:=by have:=Sl.lit1 (w.alloc o) u t;rwa[show(w.alloc o).heap.size=w.heap.size+1 by simp]at this
theorem Hi{b:Nat}(h:b<18446744073709551616)(w:World):Calls Tryz.prog 53 #[.int .u64 b] w (Gj (val b*2^4926) (-1074) w):=by
 have h1:=Qgk b;have h2:=Qgh b;have h3:=Qa5 b;have h4:=Qgj b;have h5:Uv b<4503599627370496:=Ej b;have hneg:Dv b=decide ((9223372036854775808:Int)<=b):=by
  unfold Dv;by_cases hb:2^63<=b
  .rw[decide_eq_true (by omega),show b/2^63=1 by omega];rfl
  .rw[decide_eq_false (by omega),show b/2^63=0 by omega];rfl
 have HW:Qb (∀x e w q w',Oc (decide ((9223372036854775808:Int)<=b)) x e w q w'->∀f:Nat,Zd (b%2^63)=x*2^f->e=(f:Int)-1074->f<=2100->Gj (val b*2^4926) (-1074) w q w') :=
  fun x e w q w' hr f hx he hf=>Qc1 hneg.symm hx he hf hr
 clear hneg;have HM:=h_ h3;clear h3;generalize Zd (b%2^63)=M at *
 generalize Uw b=e at *
 generalize Uv b=f at *
 generalize val b*2^4926=Z at *
 go_enter Tryz.func53,Tryz.ntmps53;by_cases he:e=0
 .subst he;have HX:=h_ (fun w q w' hr=>HW.o f (-1074) w q w' hr 0 (by rw[HM.o];simp) (by omega) (by omega));by_cases hn:(9223372036854775808:Int)<=b
  .have hd:decide ((9223372036854775808:Int)<=b)=true:=decide_eq_true hn;rw[hd]at HX;go_wp2_with fail;refine(Zu (Sl.lit1' _ _ _ _) (by omega) (by omega)).mono ?_;intro q w1 hr;obtain⟨v,rfl,hv,hb⟩:=HX.o _ _ _ hr;obtain⟨k1,-,B1,-,-⟩:=Du (Below.refl w.heap.size w) (Nat.le_refl _) hb;clear hb HX hr;obtain⟨ng,a,k,c,e',rfl⟩:=hv.form;obtain⟨r0,r1,r2,z0,z1,z2⟩:=Uu.cells k1;have K1:=h_ k1;have BB:=h_ B1;have HV:=h_ hv;clear k1 B1 hv;go_wp2;obtain⟨q1,q2⟩:=Tx K1.o BB.o (Nat.le_refl _) (.bool ng) (.slice a k c) (.int .i64 e');have q3:=HV.o.st3 (Uu.parts K1.o) (.bool ng) (.slice a k c) (.int .i64 e');generalize (setCell (setCell (setCell _ _ _) _ _) _ _)=W at q1 q2 q3 |-;obtain⟨g0,g1,g2⟩:=Zx q1;exact bodyPost_ret (v:=.agg #[.bool ng,.slice a k c,.int .i64 e']) (by simp[results,Tryz.results53,go_sem,g0,g1,g2]) rfl ⟨_,rfl,q3,q2⟩
  .have hd:decide ((9223372036854775808:Int)<=b)=false:=decide_eq_false hn;rw[hd]at HX;go_wp2_with fail;refine(Zu (Sl.lit1' _ _ _ _) (by omega) (by omega)).mono ?_;intro q w1 hr;obtain⟨v,rfl,hv,hb⟩:=HX.o _ _ _ hr;obtain⟨k1,-,B1,-,-⟩:=Du (Below.refl w.heap.size w) (Nat.le_refl _) hb;clear hb HX hr;obtain⟨ng,a,k,c,e',rfl⟩:=hv.form;obtain⟨r0,r1,r2,z0,z1,z2⟩:=Uu.cells k1;have K1:=h_ k1;have BB:=h_ B1;have HV:=h_ hv;clear k1 B1 hv;go_wp2;obtain⟨q1,q2⟩:=Tx K1.o BB.o (Nat.le_refl _) (.bool ng) (.slice a k c) (.int .i64 e');have q3:=HV.o.st3 (Uu.parts K1.o) (.bool ng) (.slice a k c) (.int .i64 e');generalize (setCell (setCell (setCell _ _ _) _ _) _ _)=W at q1 q2 q3 |-;obtain⟨g0,g1,g2⟩:=Zx q1;exact bodyPost_ret (v:=.agg #[.bool ng,.slice a k c,.int .i64 e']) (by simp[results,Tryz.results53,go_sem,g0,g1,g2]) rfl ⟨_,rfl,q3,q2⟩
 .have he':((e:Int)==0)=false:=by rw[beq_eq_false_iff_ne];omega
  have HX:=h_ (fun w q w' hr=>HW.o (f+4503599627370496) ((e:Int)-1075) w q w' hr (e-1) (by rw[HM.o,if_neg he,Nat.add_comm (2^52)]) (by omega) (by omega));by_cases hn:(9223372036854775808:Int)<=b
  .have hd:decide ((9223372036854775808:Int)<=b)=true:=decide_eq_true hn;rw[hd]at HX;go_wp2_with fail;refine(Zu (x:=f+4503599627370496) (Sl.lit1' _ _ _ _) (by omega) (by omega)).mono ?_;intro q w1 hr;obtain⟨v,rfl,hv,hb⟩:=HX.o _ _ _ hr;obtain⟨k1,-,B1,-,-⟩:=Du (Below.refl w.heap.size w) (Nat.le_refl _) hb;clear hb HX hr;obtain⟨ng,a,k,c,e',rfl⟩:=hv.form;obtain⟨r0,r1,r2,z0,z1,z2⟩:=Uu.cells k1;have K1:=h_ k1;have BB:=h_ B1;have HV:=h_ hv;clear k1 B1 hv;go_wp2;obtain⟨q1,q2⟩:=Tx K1.o BB.o (Nat.le_refl _) (.bool ng) (.slice a k c) (.int .i64 e');have q3:=HV.o.st3 (Uu.parts K1.o) (.bool ng) (.slice a k c) (.int .i64 e');generalize (setCell (setCell (setCell _ _ _) _ _) _ _)=W at q1 q2 q3 |-;obtain⟨g0,g1,g2⟩:=Zx q1;exact bodyPost_ret (v:=.agg #[.bool ng,.slice a k c,.int .i64 e']) (by simp[results,Tryz.results53,go_sem,g0,g1,g2]) rfl ⟨_,rfl,q3,q2⟩
  .have hd:decide ((9223372036854775808:Int)<=b)=false:=decide_eq_false hn;rw[hd]at HX;go_wp2_with fail;refine(Zu (x:=f+4503599627370496) (Sl.lit1' _ _ _ _) (by omega) (by omega)).mono ?_;intro q w1 hr;obtain⟨v,rfl,hv,hb⟩:=HX.o _ _ _ hr;obtain⟨k1,-,B1,-,-⟩:=Du (Below.refl w.heap.size w) (Nat.le_refl _) hb;clear hb HX hr;obtain⟨ng,a,k,c,e',rfl⟩:=hv.form;obtain⟨r0,r1,r2,z0,z1,z2⟩:=Uu.cells k1;have K1:=h_ k1;have BB:=h_ B1;have HV:=h_ hv;clear k1 B1 hv;go_wp2;obtain⟨q1,q2⟩:=Tx K1.o BB.o (Nat.le_refl _) (.bool ng) (.slice a k c) (.int .i64 e');have q3:=HV.o.st3 (Uu.parts K1.o) (.bool ng) (.slice a k c) (.int .i64 e');generalize (setCell (setCell (setCell _ _ _) _ _) _ _)=W at q1 q2 q3 |-;obtain⟨g0,g1,g2⟩:=Zx q1;exact bodyPost_ret (v:=.agg #[.bool ng,.slice a k c,.int .i64 e']) (by simp[results,Tryz.results53,go_sem,g0,g1,g2]) rfl ⟨_,rfl,q3,q2⟩
theorem Qil{w w':World}(h:Below (w.alloc (.cells #[.bool false,.slice none 0 0,.int .i64 0] 65)).heap.size (w.alloc (.cells #[.bool false,.slice none 0 0,.int .i64 0] 65)) w'):Uu w' w.heap.size/\Below w.heap.size w w':=by obtain⟨k1,B1,_,_⟩:=Qk7 (Below.refl w.heap.size w) (Nat.le_refl _) h;exact⟨k1,B1⟩
theorem Qc8:nv false 1 1024=(Zd Km:Int)*2^4926:=by rw[Nr];unfold nv sg;rw[if_neg (by decide),Nat.one_mul,show((1024:Int)+6000).toNat=2098+4926 by decide,Nat.pow_add,Int.natCast_mul];rfl
theorem Hp(w:World):Calls Tryz.prog 52 #[] w (Gj ((Zd Km:Int)*2^4926) (-1074) w):=by
 have HL:=h_ Qc8;generalize (Zd Km:Int)*2^4926=Z at *
 go_enter Tryz.func52,Tryz.ntmps52;go_wp2;have hs:Sl ((w.alloc (.cells #[.bool false,.slice (some ⟨w.heap.size+1,0,none⟩) 1 1,.int .i64 1024] 65)).alloc (.cells #[.int .u32 1] 113)) (.slice (some ⟨w.heap.size+1,0,none⟩) 1 1) [.int .u32 1]:=Sl.lit1' _ _ _ _;exact bodyPost_ret (v:=.agg #[.bool false,.slice (some ⟨w.heap.size+1,0,none⟩) 1 1,.int .i64 1024]) (by simp[results,Tryz.results52,go_sem]) rfl
  ⟨_,rfl,⟨false,1,1024,⟨_,rfl,[1],hs,⟨by intro d hd;simp at hd;omega,rfl,fun _=>by simp⟩⟩,by omega,by omega,HL.o,.inr rfl⟩,((Below.refl _ _).alloc (Nat.le_refl _) _).alloc (by simp) _⟩
theorem Hk{b:Nat}(h:b<9223372036854775808):val b=(Zd b:Int):=by unfold val Dv;rw[show b/2^63=0 by omega,show b%2^63=b by omega];rfl
theorem Ow{b:Nat}(h:b<=9218868437227405312)(w:World):Calls Tryz.prog 103 #[.int .u64 b] w (Gj ((Zd b:Int)*2^4926) (-1074) w):=by
 by_cases hi:b=9218868437227405312
 .have HL:Qb (∀w,Calls Tryz.prog 52 #[] w (Gj ((Zd b:Int)*2^4926) (-1074) w)):=fun w=>by rw[hi];exact Hp w
  have e1:((b:Int)==9218868437227405312)=true:=by rw[beq_iff_eq];omega
  clear hi h;generalize (Zd b:Int)*2^4926=Z at *
  go_enter Tryz.func103,Tryz.ntmps103;go_wp2_with fail;refine(HL.o _).mono ?_;rintro q w1 ⟨v,rfl,hv,hb⟩;obtain⟨k1,B1⟩:=Qil hb;obtain⟨ng,a,k,c,e',rfl⟩:=hv.form;obtain⟨r0,r1,r2,z0,z1,z2⟩:=Uu.cells k1;have K1:=h_ k1;have BB:=h_ B1;have HV:=h_ hv;clear k1 B1 hv;go_wp2;obtain⟨q1,q2⟩:=Tx K1.o BB.o (Nat.le_refl _) (.bool ng) (.slice a k c) (.int .i64 e');have q3:=HV.o.st3 (Uu.parts K1.o) (.bool ng) (.slice a k c) (.int .i64 e');generalize (setCell (setCell (setCell _ _ _) _ _) _ _)=W at q1 q2 q3 |-;obtain⟨g0,g1,g2⟩:=Zx q1;exact bodyPost_ret (v:=.agg #[.bool ng,.slice a k c,.int .i64 e']) (by simp[results,Tryz.results103,go_sem,g0,g1,g2]) rfl ⟨_,rfl,q3,q2⟩
 .have HL:Qb (∀w,Calls Tryz.prog 53 #[.int .u64 b] w (Gj ((Zd b:Int)*2^4926) (-1074) w)):=fun w=>by rw[<-Hk (by omega)];exact Hi (by omega) w
  have e1:((b:Int)==9218868437227405312)=false:=by rw[beq_eq_false_iff_ne];omega
  clear hi;generalize (Zd b:Int)*2^4926=Z at *
  go_enter Tryz.func103,Tryz.ntmps103;go_wp2_with fail;refine(HL.o _).mono ?_;rintro q w1 ⟨v,rfl,hv,hb⟩;obtain⟨k1,B1⟩:=Qil hb;obtain⟨ng,a,k,c,e',rfl⟩:=hv.form;obtain⟨r0,r1,r2,z0,z1,z2⟩:=Uu.cells k1;have K1:=h_ k1;have BB:=h_ B1;have HV:=h_ hv;clear k1 B1 hv;go_wp2;obtain⟨q1,q2⟩:=Tx K1.o BB.o (Nat.le_refl _) (.bool ng) (.slice a k c) (.int .i64 e');have q3:=HV.o.st3 (Uu.parts K1.o) (.bool ng) (.slice a k c) (.int .i64 e');generalize (setCell (setCell (setCell _ _ _) _ _) _ _)=W at q1 q2 q3 |-;obtain⟨g0,g1,g2⟩:=Zx q1;exact bodyPost_ret (v:=.agg #[.bool ng,.slice a k c,.int .i64 e']) (by simp[results,Tryz.results103,go_sem,g0,g1,g2]) rfl ⟨_,rfl,q3,q2⟩
theorem Hc{r:Nat}(h:r<=Km):Bz ((Zd r:Int)*2^4926):=by
 have h1:=Ly h;rw[Nr]at h1;have h2:((Zd r:Int)*2^4926).natAbs=Zd r*2^4926:=by rw[Int.natAbs_mul,Int.natAbs_pow];rfl
 unfold Bz;rw[h2];refine Nat.le_trans (Zp (k:=7025) ?_) (by decide);rw[show(7025:Nat)=2099+4926 by rfl,Nat.pow_add];refine Nat.mul_lt_mul_of_pos_right (Nat.lt_of_le_of_lt h1 ?_) (Nat.two_pow_pos _);exact Nat.pow_lt_pow_right (by omega) (by omega)
structure Ys(ng:Bool)(a:Option Addr)(k c:Nat)(e z lo:Int)(w wr:World):Prop where
 x:Qi wr w.heap.size 65 #[.bool ng,.slice a k c,.int .i64 e]
 v:NZ wr (.agg #[.bool ng,.slice a k c,.int .i64 e]) z lo
 b:Below w.heap.size w wr
theorem Ys.below{ng:Bool}{a:Option Addr}{k c:Nat}{e z lo:Int}{w wr w':World}(h:Ys ng a k c e z lo w wr)(hb:Below wr.heap.size wr w'):Ys ng a k c e z lo w w' :=
 ⟨h.x.below hb,h.v.below hb,h.b.trans (hb.mono h.b.size)⟩
theorem Ys.drew{ng:Bool}{a:Option Addr}{k c:Nat}{e z lo:Int}{w wr:World}(h:Ys ng a k c e z lo w wr):Ys ng a k c e z lo w wr.drew:=⟨h.x,h.v,Qw h.b 1⟩
theorem Ys.cells{ng:Bool}{a:Option Addr}{k c:Nat}{e z lo:Int}{w wr:World}(h:Ys ng a k c e z lo w wr) :
  wr.cell? ⟨w.heap.size,0,none⟩=some (.bool ng)/\wr.cell? ⟨w.heap.size,1,none⟩=some (.slice a k c)/\wr.cell? ⟨w.heap.size,2,none⟩=some (.int .i64 e) :=
 ⟨h.x.at 0 (.bool ng) rfl,h.x.at 1 (.slice a k c) rfl,h.x.at 2 (.int .i64 e) rfl⟩
theorem Ys.start{ng:Bool}{a:Option Addr}{k c:Nat}{e z lo:Int}{w:World}(h:NZ w (.agg #[.bool ng,.slice a k c,.int .i64 e]) z lo):Ys ng a k c e z lo w (w.alloc (.cells #[.bool ng,.slice a k c,.int .i64 e] 65)) :=
 ⟨Qi.new w 65 _,h.alloc _,(Below.refl _ _).alloc (Nat.le_refl _) _⟩
def Bc(z:Int)(w:World)(q:Ending)(w':World):Prop:=∃r:Nat,q=.returned (.int .u64 r)/\Below w.heap.size w w'/\r<=Km/\(Zd r:Int)*2^4926<=z/\(r<Km->z<(Zd (r+1):Int)*2^4926)
theorem Qg0{a b:Int}:Wd a b<=0↔a<=b:=by
 rcases Int.lt_trichotomy a b with h|h|h
 .rw[G7 h];omega
 .rw[Rk h];omega
 .rw[G8 h];omega
def Kn(z:Int)(r:Nat):Prop:=(Zd r:Int)*2^4926<=z
theorem Kn.zero{z:Int}(h:0<=z):Kn z 0:=by unfold Kn;rw[Qa4];simpa using h
theorem Qbx{v:Value}{w:World}{z lo:Int}(h:NZ w v z lo)(hlo:-6000<=lo)(hlo2:lo≤-1074)(h0:0<=z)(hz:Bz z):Calls Tryz.prog 50 #[v] w (Bc z w):=by
 obtain⟨ng,a,k,c,e,rfl⟩:=h.form;have HB:=h_ (Ys.start h);clear h;have hi:Km=9218868437227405312:=by decide
 have HL:=h_ Hp;have HV:Qb (∀(r:Nat) w,r<=9218868437227405312->Calls Tryz.prog 103 #[.int .u64 r] w (Gj ((Zd r:Int)*2^4926) (-1074) w)):=fun r w hr=>Ow hr w;have HC:Qb (∀(r:Nat) w u,r<=9218868437227405312->NO w u ((Zd r:Int)*2^4926) (-1074)->NZ w (.agg #[.bool ng,.slice a k c,.int .i64 e]) z lo->Calls Tryz.prog 102 #[u,.agg #[.bool ng,.slice a k c,.int .i64 e]] w fun q w'=>q=.returned (.int .i64 (Wd ((Zd r:Int)*2^4926) z))/\Below w.heap.size w w'):=fun r w u hr hu hv=>by refine Cl ?_ hv hlo (Hc (by omega)) hz;obtain⟨n,m,e,h1,h2,h3⟩:=hu.nz;exact⟨n,m,e,h1,by omega,h3⟩
 have HI:=h_ hi;have HZ:=h_ (Kn.zero h0);clear hi hz hlo hlo2 h0;have HR:Qb (∀r:Nat,Wd ((Zd r:Int)*2^4926) z<=0↔Kn z r):=fun r=>Qg0;have HP:Qb (∀(r:Nat) w',r<=9218868437227405312->Kn z r->(r<9218868437227405312->¬Kn z (r+1))->Below w.heap.size w w'->Bc z w (.returned (.int .u64 r)) w'):=fun r w' h1 h2 h3 h4=>⟨r,rfl,h4,by rw[HI.o];exact h1,h2,fun h=>by
  have:=h3 (by rw[HI.o]at h;exact h);unfold Kn at this;omega⟩
 obtain⟨F,hF⟩:∃F:Nat->Int,F=fun r=>Wd ((Zd r:Int)*2^4926) z:=⟨_,rfl⟩
 have HCF:Qb (∀(r:Nat) w u,r<=9218868437227405312->NO w u ((Zd r:Int)*2^4926) (-1074)->NZ w (.agg #[.bool ng,.slice a k c,.int .i64 e]) z lo->Calls Tryz.prog 102 #[u,.agg #[.bool ng,.slice a k c,.int .i64 e]] w fun q w'=>q=.returned (.int .i64 (F r))/\Below w.heap.size w w'):=by rw[hF];exact HC.o
 have HRF:Qb (∀r:Nat,F r<=0↔Kn z r):=by rw[hF];exact HR.o
 clear hF HC HR;go_enter Tryz.func50,Tryz.ntmps50;go_upto_region 2 with(fail)
 generalize (alloc _ _)=w1 at HB |-;go_cut [9] (fun s wx=>s=.bool (decide (F 9218868437227405312<=0))/\Qb (Ys ng a k c e z lo w wx))
 case first =>
  have F0:=h_ HB.o.cells;have F1:=h_ HB.o.drew.cells;obtain⟨x0,x1,x2⟩:=F0.o
  go_region_held3 (fun w'=>w'.cell? ⟨w.heap.size,0,none⟩=some (.bool ng)/\w'.cell? ⟨w.heap.size,1,none⟩=some (.slice a k c)/\w'.cell? ⟨w.heap.size,2,none⟩=some (.int .i64 e)) (first|exact F0.o|exact F1.o|exact FA.o|exact FB.o) (first|(go_at_call 52;(with_reducible refine(HL.o _).mono ?_);rintro q w2 ⟨u,rfl,hu,hb⟩;have SA:=h_ (HB.o.drew.below hb);have FA:=h_ SA.o.cells;have HU:=h_ (show NO w2 u ((Zd 9218868437227405312:Int)*2^4926) (-1074)by rw[<-HI.o];exact hu))|(go_at_call 102;(with_reducible refine(HCF.o 9218868437227405312 _ _ (Nat.le_refl _) HU.o SA.o.v).mono ?_);rintro q w3 ⟨rfl,hb⟩;have SB:=h_ (SA.o.below hb);have FB:=h_ SB.o.cells))
  all_goals go_wp2_with fail
  all_goals go_meet
  all_goals exact⟨rfl,SB⟩
 case rest =>
  obtain⟨rfl,HB2⟩:=hcut;by_cases hl:F 9218868437227405312<=0
  .have HE:=h_ (HP.o 9218868437227405312 wc (Nat.le_refl _) ((HRF.o _).1 hl) (fun h=>absurd h (Nat.lt_irrefl _)) HB2.o.b);have hd:decide (F 9218868437227405312<=0)=true:=decide_eq_true hl;clear HP HRF HCF HV;go_wp2;go_ret;exact HE.o
  .have hd:decide (F 9218868437227405312<=0)=false:=decide_eq_false hl;have HN:Qb (¬Kn z 9218868437227405312):=fun h=>hl ((HRF.o _).2 h);rw[hd];clear hd hl;go_wp2
   go_loopw [3,4] (fun s t wr=>∃l h:Nat,s=.int .u64 l/\t=.int .u64 h/\l<h/\h<=9218868437227405312/\Qb (Kn z l/\¬Kn z h)/\Qb (Ys ng a k c e z lo w wr)) (fun s t _=>(intOf t-intOf s).toNat)
   case atStart=>exact⟨0,9218868437227405312,rfl,rfl,by omega,by omega,⟨HZ.o,HN.o⟩,HB2⟩
   case round =>
    obtain⟨l,h,rfl,rfl,hlh,hh,hrr,HB⟩:=hrel;by_cases hgap:l+1<h
    .obtain⟨mid,hm⟩:∃mid,mid=l+(h-l)/2:=⟨_,rfl⟩
     have hm1:l<mid:=by omega
     have hm2:mid<h:=by omega
     have hm3:((l:Int)+((h:Int)-l)/2)=mid:=by omega
     have hg1:(1:Int)<(h:Int)-l:=by omega
     clear hm;go_upto_region 6 with(fail)
     go_cut [25] (fun s wx=>s=.bool (decide (F mid<=0))/\Qb (Ys ng a k c e z lo w wx))
     case first =>
      have F0:=h_ HB.o.cells;have F1:=h_ HB.o.drew.cells;obtain⟨x0,x1,x2⟩:=F0.o
      go_region_held3 (fun w'=>w'.cell? ⟨w.heap.size,0,none⟩=some (.bool ng)/\w'.cell? ⟨w.heap.size,1,none⟩=some (.slice a k c)/\w'.cell? ⟨w.heap.size,2,none⟩=some (.int .i64 e)) (first|exact F0.o|exact F1.o|exact FA.o|exact FB.o) (first|(go_at_call 103;(with_reducible refine(HV.o mid _ (by omega)).mono ?_);rintro q w2 ⟨u,rfl,hu,hb⟩;have SA:=h_ (HB.o.drew.below hb);have FA:=h_ SA.o.cells;have HU:=h_ hu)|(go_at_call 102;(with_reducible refine(HCF.o mid _ _ (by omega) HU.o SA.o.v).mono ?_);rintro q w3 ⟨rfl,hb⟩;have SB:=h_ (SA.o.below hb);have FB:=h_ SB.o.cells))
      all_goals go_wp2_with fail
      all_goals go_meet
      all_goals exact⟨rfl,SB⟩
     case rest =>
      obtain⟨rfl,HB2⟩:=hcut;by_cases hl:F mid<=0
      .have HR2:Qb (Kn z mid/\¬Kn z h):=⟨(HRF.o _).1 hl,hrr.o.2⟩
       have hd:decide (F mid<=0)=true:=decide_eq_true hl;rw[hd];clear hd hl HP HRF HCF HV;go_wp2;go_roundw
       case rel=>exact⟨mid,h,rfl,rfl,hm2,hh,HR2,HB2⟩
       case measure=>simp[intOf];omega
      .have HR2:Qb (Kn z l/\¬Kn z mid):=⟨hrr.o.1,fun h=>hl ((HRF.o _).2 h)⟩
       have hd:decide (F mid<=0)=false:=decide_eq_false hl;rw[hd];clear hd hl HP HRF HCF HV;go_wp2;go_roundw
       case rel=>exact⟨l,mid,rfl,rfl,hm1,by omega,HR2,HB2⟩
       case measure=>simp[intOf];omega
    .obtain rfl:h=l+1:=by omega
     have hg1:decide ((1:Int)<((l+1:Nat):Int)-l)=false:=decide_eq_false (by omega);have HE:=h_ (HP.o l wr (by omega) hrr.o.1 (fun _=>hrr.o.2) HB.o.b);go_wp2;go_ret;exact HE.o
theorem Qct{u v:Value}{w:World}{z:Int}(h:NZ w u z (-1074))(k:NZ w v z (-1074))(hz:Bz z):Calls Tryz.prog 51 #[u,v] w fun q w'=>q=.returned (.bool true)/\Below w.heap.size w w':=by
 have CC:=h_ (fun w (h:NZ w u z (-1074)) (k:NZ w v z (-1074))=>Cl h k (by decide) hz hz);rw[Rk rfl]at CC;obtain⟨n1,a1,k1,c1,e1,rfl⟩:=h.form;obtain⟨n2,a2,k2,c2,e2,rfl⟩:=k.form;have F0:=h_ (Fx.two w 65 #[.bool n1,.slice a1 k1 c1,.int .i64 e1] 65 #[.bool n2,.slice a2 k2 c2,.int .i64 e2] rfl rfl);have H0:=h_ ((h.alloc (.cells #[.bool n1,.slice a1 k1 c1,.int .i64 e1] 65)).alloc (.cells #[.bool n2,.slice a2 k2 c2,.int .i64 e2] 65));have K0:=h_ ((k.alloc (.cells #[.bool n1,.slice a1 k1 c1,.int .i64 e1] 65)).alloc (.cells #[.bool n2,.slice a2 k2 c2,.int .i64 e2] 65));clear h k hz;go_enter Tryz.func51,Tryz.ntmps51;go_upto_region 1 with(fail)
 generalize alloc (alloc _ _) _=w0 at F0 H0 K0 |-;have c0:=F0.o.c3 0 rfl;have c1:=F0.o.c3 1 rfl;go_wp2_with fail;clear c0 c1;refine(CC.o _ H0.o K0.o).mono ?_;rintro q w1 ⟨rfl,hb⟩;have B:=h_ (F0.o.call hb).b;go_wp2;go_ret;exact⟨rfl,B.o⟩
theorem Qdq{v:Value}{w:World}{x:Nat}(hx:x<Km)(h:NZ w v ((Zd x:Int)*2^4926) (-1074)):Calls Tryz.prog 50 #[v] w fun q w'=>q=.returned (.int .u64 (x:Int))/\Below w.heap.size w w':=by
 refine(Qbx h (by decide) (by decide) (Int.mul_nonneg (by omega) (Int.le_of_lt (Int.pow_pos (by decide)))) (Hc (Nat.le_of_lt hx))).mono ?_;rintro q w' ⟨r,rfl,hb,-,h1,h2⟩;have p:(0:Int)<2^4926:=Int.pow_pos (by decide);have l1:Zd r<=Zd x:=by exact_mod_cast Int.le_of_mul_le_mul_right h1 p
 have l2:r<=x:=Nat.le_of_not_lt fun hlt=>by have:=Lx hlt;omega
 have l3:Zd x<Zd (r+1):=by exact_mod_cast Int.lt_of_mul_lt_mul_right (h2 (by omega)) (Int.le_of_lt p)
 have l4:x<r+1:=Nat.lt_of_not_le fun hle=>by have:=Ly hle;omega
 obtain rfl:r=x:=by omega
 exact⟨rfl,hb⟩
theorem Ys.st{a:Option Addr}{k c:Nat}{e z lo:Int}{w wr:World}(h:Ys false a k c e z lo w wr):Ys false a k c e z lo w (wr.setCell ⟨w.heap.size,0,none⟩ (.bool false)):=by
 have h1:Gk wr w.heap.size:=⟨_,_,_,_,h.x,_,_,_,rfl⟩
 refine⟨h.x.set 0 (.bool false),?_,h.b.setCell (Nat.le_refl _) _⟩;obtain⟨n,m,e',⟨s,hv,hd⟩,r⟩:=h.v;refine⟨n,m,e',⟨s,hv,hd.keep fun g o y hy=>?_⟩,r⟩;have hne:=h1.ne hy;rw[World.cell?_setCell_other _ _ _ _ (fun he=>hne (by injection he with h1;exact h1.symm))];exact hy
theorem Qbv{v:Value}{w:World}{x:Nat}(hx:x<Km)(hx0:0<x)(h:NZ w v ((Zd x:Int)*2^4926) (-1074)):Calls Tryz.prog 22 #[v] w fun q w'=>q=.returned (.bool true)/\Below w.heap.size w w':=by
 have hi:Km=9218868437227405312:=by decide
 have hz:Bz ((Zd x:Int)*2^4926):=Hc (Nat.le_of_lt hx);have CB:=h_ (fun w (h:NZ w v ((Zd x:Int)*2^4926) (-1074))=>Qdq hx h);have CW:=h_ (fun w=>Hi (b:=x) (by omega) w);rw[Hk (by omega)]at CW;have CS:=h_ (fun w u v (h:NZ w u ((Zd x:Int)*2^4926) (-1074)) (k:NZ w v ((Zd x:Int)*2^4926) (-1074))=>Qct h k hz);have e1:((x:Int)==9218868437227405312)=false:=by rw[beq_eq_false_iff_ne];omega
 have hpos:(0:Int)<(Zd x:Int)*2^4926:=by have:=Lx hx0;exact Int.mul_pos (by omega) (Int.pow_pos (by decide))
 obtain⟨a,k,c,e,k0,rfl⟩:∃a k c e,k≠0/\v=.agg #[.bool false,.slice a k c,.int .i64 e]:=by
  obtain⟨ng,m,e,⟨s,hv,hd⟩,-,-,hn⟩:=h;obtain⟨a,k,c,rfl,hk⟩:=hd.form;have m0:m≠0:=by rintro rfl;rw[Pk]at hn;omega
  cases ng
  .exact⟨a,k,c,e,fun h=>m0 (hk.2 h),hv⟩
  .exfalso;unfold nv sg at hn;rw[if_pos rfl]at hn;omega
 have e0:((k:Int)==0)=false:=by rw[beq_eq_false_iff_ne];omega
 have HB:=h_ (Ys.start h);clear h hx hx0 hi hz hpos k0;generalize (Zd x:Int)*2^4926=Z at *
 go_enter Tryz.func22,Tryz.ntmps22;go_upto_region 1 with(fail)
 generalize alloc _ _=w1 at HB |-;obtain⟨x0,x1,x2⟩:=HB.o.cells;have z0:=HB.o.x.frozen 0;go_upto_region 2 with(fail)
 clear x0 x1 x2 z0;have HC:=h_ HB.o.st;generalize setCell _ _ _=w2 at HC |-;obtain⟨x0,x1,x2⟩:=HC.o.cells;go_wp2_with fail;clear x0 x1 x2;refine(CB.o _ HC.o.v).mono ?_;rintro q w3 ⟨rfl,hb⟩;have HD:=h_ (HC.o.below hb);go_upto_region 7 with(fail)
 have FCD:=h_ HD.o.drew.cells;refine wp_region_held_drew (S:=fun w'=>w'.cell? ⟨w.heap.size,0,none⟩=some (.bool false)/\w'.cell? ⟨w.heap.size,1,none⟩=some (.slice a k c)/\w'.cell? ⟨w.heap.size,2,none⟩=some (.int .i64 e)) (by kernel_rfl) FCD.o (fun hHeld=>?_);refine wpAnyH_take (i:=0) (oi:=⟨some 16,_,_,_,_,_⟩) (v:=?_) rfl (by kernel_rfl) (by kernel_rfl) (by kernel_rfl) (fun _ _ _ h=>h) (Or.inl ⟨by rfl,?_⟩) (by assumption) ?_;rotate_left
 ·(intro w hSw;(try dsimp only at hSw);go_simp);try with_reducible rfl
 try simp only[Act.put,setIfInBounds_toArray,set_cons_zero,set_cons_succ]
 refine wpAnyH_take (i:=2) (oi:=⟨some 18,_,_,_,_,_⟩) (v:=?_) rfl (by kernel_rfl) (by kernel_rfl) (by kernel_rfl) (fun _ _ _ h=>h) (Or.inl ⟨by rfl,?_⟩) (by assumption) ?_;rotate_left
 ·(intro w hSw;(try dsimp only at hSw);go_simp);try with_reducible rfl
 try simp only[Act.put,setIfInBounds_toArray,set_cons_zero,set_cons_succ]
 refine wpAnyH_ready (rs:=[1]) (by kernel_rfl) (by simp) ?_;refine AllReadyH.cons (o:=_) rfl (fun K hK=>?_) AllReadyH.nil;go_simp
 (go_at_call 53;(with_reducible refine(CW.o _).mono ?_);rintro q w4 ⟨u,rfl,hu,hb⟩;have HE:=h_ (HD.o.drew.below hb);have HU:=h_ hu.nz;have FC:=h_ HE.o.cells;clear hb hu)
 go_wp2_with fail;refine hK.out _ _ FC.o (fun hHeld'=>?_);clear hK K hHeld;have hHeld:=hHeld';clear hHeld'
 try simp only[Act.put,setIfInBounds_toArray,set_cons_zero,set_cons_succ]
 refine wpAnyH_ready (rs:=[3]) (by kernel_rfl) (by simp) ?_;refine AllReadyH.cons (o:=_) rfl (fun K hK=>?_) AllReadyH.nil;go_simp
 (go_at_call 51;(with_reducible refine(CS.o _ _ _ HU.o HE.o.v).mono ?_);rintro q w5 ⟨rfl,hb⟩;have HG:=h_ (HE.o.below hb);have FC:=h_ HG.o.cells)
 go_wp2_with fail;refine hK.out _ _ FC.o (fun hHeld'=>?_);clear hK K hHeld;have hHeld:=hHeld';clear hHeld'
 try simp only[Act.put,setIfInBounds_toArray,set_cons_zero,set_cons_succ]
 refine wpAnyH_take (i:=4) (oi:=⟨some 20,_,_,_,_,_⟩) (v:=?_) rfl (by kernel_rfl) (by kernel_rfl) (by kernel_rfl) (fun _ _ _ h=>h) (Or.inl ⟨by rfl,?_⟩) (by assumption) ?_;rotate_left
 ·(intro w hSw;(try dsimp only at hSw);go_simp);try with_reducible rfl
 try simp only[Act.put,setIfInBounds_toArray,set_cons_zero,set_cons_succ]
 refine wpAnyH_take (i:=5) (oi:=⟨some 21,_,_,_,_,_⟩) (v:=undef) rfl (by kernel_rfl) (by kernel_rfl) (by kernel_rfl) (fun _ _ _ h=>h) (Or.inr ⟨by rfl,rfl⟩) (by assumption) ?_
 try simp only[Act.put,setIfInBounds_toArray,set_cons_zero,set_cons_succ]
 refine wpAnyH_take (i:=7) (oi:=⟨some 23,_,_,_,_,_⟩) (v:=undef) rfl (by kernel_rfl) (by kernel_rfl) (by kernel_rfl) (fun _ _ _ h=>h) (Or.inr ⟨by rfl,rfl⟩) (by assumption) ?_
 try simp only[Act.put,setIfInBounds_toArray,set_cons_zero,set_cons_succ]
 refine wpAnyH_take (i:=6) (oi:=⟨some 22,_,_,_,_,_⟩) (v:=undef) rfl (by kernel_rfl) (by kernel_rfl) (by kernel_rfl) (fun _ _ _ h=>h) (Or.inr ⟨by rfl,rfl⟩) (by assumption) ?_
 try simp only[Act.put,setIfInBounds_toArray,set_cons_zero,set_cons_succ]
 refine wpAnyH_take (i:=8) (oi:=⟨some 24,_,_,_,_,_⟩) (v:=undef) rfl (by kernel_rfl) (by kernel_rfl) (by kernel_rfl) (fun _ _ _ h=>h) (Or.inr ⟨by rfl,rfl⟩) (by assumption) ?_
 try simp only[Act.put,setIfInBounds_toArray,set_cons_zero,set_cons_succ]
 refine wpAnyH_take (i:=9) (oi:=⟨some 25,_,_,_,_,_⟩) (v:=?_) rfl (by kernel_rfl) (by kernel_rfl) (by kernel_rfl) (fun _ _ _ h=>h) (Or.inl ⟨by rfl,?_⟩) (by assumption) ?_;rotate_left
 ·(intro w hSw;(try dsimp only at hSw);go_simp);try with_reducible rfl
 try simp only[Act.put,setIfInBounds_toArray,set_cons_zero,set_cons_succ]
 refine wpAnyH_take (i:=10) (oi:=⟨some 2,_,_,_,_,_⟩) (v:=?_) rfl (by kernel_rfl) (by kernel_rfl) (by kernel_rfl) (fun _ _ _ h=>h) (Or.inl ⟨by rfl,?_⟩) (by assumption) ?_;rotate_left
 ·(intro w hSw;(try dsimp only at hSw);go_simp);try with_reducible rfl
 try simp only[Act.put,setIfInBounds_toArray,set_cons_zero,set_cons_succ]
 refine wpAnyH_done (by kernel_rfl) ?_ _;go_wp2;go_ret;exact⟨rfl,HG.o.b⟩
end Go.Proofs.YtobpioceopfkpaaGreatDoor.Rf
