/-
  Lemmas for WholeCompare (part 24); without conditions.
-/
import Derived.Test.YtobpioceopfkpaaGreatDoorM23
import Derived.Test.YtobpioceopfkpaaGreatDoorM22
set_option maxRecDepth 100000
set_option maxHeartbeats 4000000
namespace Go.Proofs.YtobpioceopfkpaaGreatDoor
open Go.RowKit
open World (setCell alloc drew)
open List (set_cons_zero set_cons_succ setIfInBounds_toArray cons_append nil_append)
def Zq(t:Int):Int:=max (t-52) (-1074)
def Xk(m:Nat)(e:Int)(more:Bool)(z:Int):Nat :=
 if 1023<(bl m:Int)-1+e then Xm z else if(bl m:Int)-1+e < -1075 then Jc z
 else(Zq ((bl m:Int)-1+e)+1074).toNat*4503599627370496+(Xf m (Zq ((bl m:Int)-1+e)-e) z more).1
def Wh(m:Nat)(e:Int)(more:Bool)(z:Int):Int :=
 if 1023<(bl m:Int)-1+e then 5 else if(bl m:Int)-1+e < -1075 then 3
 else if 9218868437227405312<=Xk m e more z then 5
 else if(Xf m (Zq ((bl m:Int)-1+e)-e) z more).2 then(if(bl m:Int)-1+e < -1022 then 3 else 1)else 0
theorem Nn{m:Nat}{n:Int}(h:(bl m:Int)-n<=53):(Zh m n).1<9007199254740992:=by
 have e53:(2:Nat)^53=9007199254740992:=by decide
 unfold Zh;by_cases hn:n<=0
 .rw[if_pos hn];show m*2^(-n).toNat<_;have h1:m*2^(-n).toNat<2^(bl m)*2^(-n).toNat:=Nat.mul_lt_mul_of_pos_right (Zb m) (Nat.two_pow_pos _);rw[<-Nat.pow_add]at h1;have h2:2^(bl m+(-n).toNat)<=2^53:=Nat.pow_le_pow_right (by decide) (by omega);omega
 .rw[if_neg hn];show m/2^n.toNat<_;refine Nat.div_lt_of_lt_mul ?_;rw[<-e53,<-Nat.pow_add];exact Nat.lt_of_lt_of_le (Zb m) (Nat.pow_le_pow_right (by decide) (by omega))
theorem Dl{m:Nat}{n:Int}(hm:m≠0)(h:(bl m:Int)-n=53):4503599627370496<=(Zh m n).1:=by
 have e52:(2:Nat)^52=4503599627370496:=by decide
 have hp:2^(bl m-1)<=m:=by rw[Zi hm];exact Nat.log2_self_le hm
 have hb:=Zi hm;unfold Zh;by_cases hn:n<=0
 .rw[if_pos hn];show _<=m*2^(-n).toNat
  have h1:2^(bl m-1)*2^(-n).toNat<=m*2^(-n).toNat:=Nat.mul_le_mul_right _ hp;rw[<-Nat.pow_add,show bl m-1+(-n).toNat=52 by omega,e52]at h1;exact h1
 .rw[if_neg hn];show _<=m/2^n.toNat
  rw[Nat.le_div_iff_mul_le (Nat.two_pow_pos _),<-e52,<-Nat.pow_add,show 52+n.toNat=bl m-1 by omega];exact hp
theorem Gp(m:Nat)(n z:Int)(more:Bool):(Xf m n z more).1=(Zh m n).1\/((Xf m n z more).1=(Zh m n).1+1/\(z=0\/z=2)):=by
 unfold Xf;simp only;by_cases h:Ul z ((Zh m n).1%2==1) (Zh m n).2.1 ((Zh m n).2.2||more)=true
 .right;rw[if_pos h];refine⟨rfl,?_⟩;unfold Ul at h;by_cases h0:z=0
  .exact .inl h0
  .rw[if_neg h0]at h;simp only[Bool.and_eq_true,beq_iff_eq]at h;exact .inr h.2
 .left;rw[if_neg h]
theorem E9{wm:Nat}{un:Int}(h0:wm≠0)(hun:-2000<=un/\un<=2000)(hb:bl wm<=100) :
  (Qa ⟨false,wm,un⟩).neg=false/\(Qa ⟨false,wm,un⟩).m≠0/\Qg (Qa ⟨false,wm,un⟩)=(bl wm:Int)-1+un/\Qa (Qa ⟨false,wm,un⟩)=Qa ⟨false,wm,un⟩ /\
  un<=(Qa ⟨false,wm,un⟩).e/\(Qa ⟨false,wm,un⟩).e<=un+100/\bl (Qa ⟨false,wm,un⟩).m<=100/\∀un2:Int,un2<=(Qa ⟨false,wm,un⟩).e->un2<=un->(Qa ⟨false,wm,un⟩).m*2^((Qa ⟨false,wm,un⟩).e-un2).toNat=wm*2^(un-un2).toNat:=by
 obtain⟨k,j,hw,hd,hl⟩:=Ji (n:=false) h0 (by omega:-100000<=un/\un<=100000);have h1:=Wz (n:=false) (j:=j) (e:=un+(k:Int)) (by omega);rw[hd];refine⟨rfl,by simp,?_,h1,by simp only;omega,by simp only;omega,by simp only;omega,fun un2 h2 h3=>?_⟩
 .unfold Qg;rw[h1,if_neg (by simp)];simp only;omega
 .simp only at h2 |-
  conv=>rhs;rw[hw]
  rw[show(un+(k:Int)-un2).toNat=k+(un-un2).toNat by omega,Nat.pow_add,Nat.mul_assoc]
theorem Qli{w:World}{u:Value}{d:Dn}(hu:Ry w u d)(sd:Sw d)(hneg:(Qa d).neg=false)(h0:(Qa d).m≠0)(ht:Qg (Qa d)=(bl (Qa d).m:Int)-1+(Qa d).e)(more:Bool)(z:Int)(hz:0<=z/\z<=3) :
  Calls Tryz.prog 40 #[u,.bool more,.int .i64 z] w fun e w'=>e=.returned (.tuple #[.int .u64 (Xk (Qa d).m (Qa d).e more z:Nat),.int .u8 (Wh (Qa d).m (Qa d).e more z),.int .i64 0])/\Below w.heap.size w w':=by
 have bd:=sd.bare;by_cases hover:1023<(bl (Qa d).m:Int)-1+(Qa d).e
 .have h1:Xk (Qa d).m (Qa d).e more z=Xm z:=by unfold Xk;rw[if_pos hover]
  have h2:Wh (Qa d).m (Qa d).e more z=5:=by unfold Wh;rw[if_pos hover]
  rw[h1,h2];exact Qha hu sd hneg h0 more z hz rfl (by rw[ht];exact hover)
 by_cases hunder:(bl (Qa d).m:Int)-1+(Qa d).e < -1075
 .have h1:Xk (Qa d).m (Qa d).e more z=Jc z:=by unfold Xk;rw[if_neg hover,if_pos hunder]
  have h2:Wh (Qa d).m (Qa d).e more z=3:=by unfold Wh;rw[if_neg hover,if_pos hunder]
  rw[h1,h2];exact Qdy hu sd hneg h0 more z hz rfl (by rw[ht];exact hunder)
 have hB:Xk (Qa d).m (Qa d).e more z=(Zq ((bl (Qa d).m:Int)-1+(Qa d).e)+1074).toNat*4503599627370496+(Xf (Qa d).m (Zq ((bl (Qa d).m:Int)-1+(Qa d).e)-(Qa d).e) z more).1:=by unfold Xk;rw[if_neg hover,if_neg hunder]
 have hF:Wh (Qa d).m (Qa d).e more z=if 9218868437227405312<=Xk (Qa d).m (Qa d).e more z then 5
   else if(Xf (Qa d).m (Zq ((bl (Qa d).m:Int)-1+(Qa d).e)-(Qa d).e) z more).2 then(if(bl (Qa d).m:Int)-1+(Qa d).e < -1022 then 3 else 1)else 0:=by
  unfold Wh;rw[if_neg hover,if_neg hunder]
 rw[hF,hB];obtain⟨t,et⟩:∃t,t=(bl (Qa d).m:Int)-1+(Qa d).e:=⟨_,rfl⟩
 rw[<-et]at hover hunder ht |-;obtain⟨un,eun⟩:∃un,un=Zq t:=⟨_,rfl⟩
 rw[<-eun];have eun2:un=max (t-52) (-1074):=eun;obtain⟨n,en⟩:∃n,n=un-(Qa d).e:=⟨_,rfl⟩
 rw[<-en];obtain⟨p,ep⟩:∃p:Nat,(p:Int)=un+1074:=⟨(un+1074).toNat,by omega⟩
 rw[show(un+1074).toNat=p by omega];have wlt:=Nn (m:=(Qa d).m) (n:=n) (by omega);have wge:un=-1074\/4503599627370496<=(Zh (Qa d).m n).1:=by
  by_cases h:t-52 < -1074
  .left;omega
  .right;exact Dl h0 (by omega)
 have wc:=Gp (Qa d).m n z more;obtain⟨wm,ewm⟩:∃wm,wm=(Xf (Qa d).m n z more).1:=⟨_,rfl⟩
 obtain⟨ix,eix⟩:∃ix,ix=(Xf (Qa d).m n z more).2:=⟨_,rfl⟩
 rw[<-ewm,<-eix];rw[<-ewm]at wc;have hwn:Xf (Qa d).m n z more=(wm,ix):=by rw[ewm,eix]
 have wm53:wm<=9007199254740992:=by omega
 have wm52:un=-1074\/4503599627370496<=wm:=by omega
 have wz:wm=9007199254740992->z=0\/z=2:=by omega
 have blw:bl wm<=54:=Zp (Nat.lt_of_le_of_lt wm53 (by decide));have key:∃(b:Nat) (fits:Bool),(∀w u,Cy w u (Qa ⟨false,wm,un⟩)->Calls Tryz.prog 87 #[u] w fun e w'=>e=.returned (.tuple #[.int .u64 (b:Int),.bool fits])/\Below w.heap.size w w') /\
   (if fits then b else Xm z)=p*4503599627370496+wm/\fits=!decide (9218868437227405312<=p*4503599627370496+wm):=by
  by_cases w0:wm=0
  .refine⟨0,true,fun w u h=>Oj h.ry (by rw[w0,Zg rfl]),?_,?_⟩
   .have:un=-1074:=by omega
    simp only[if_true];omega
   .have:un=-1074:=by omega
    rw[decide_eq_false (by omega)];rfl
  .obtain⟨k1,k2,k3,k4,k5,k6,k7,k8⟩:=E9 (un:=un) w0 (by omega) (by omega);have sO:Sw (Qa ⟨false,wm,un⟩):=⟨by omega,by omega,by omega⟩
   by_cases hbig:1023<(bl wm:Int)-1+un
   .have w53:wm=9007199254740992:=by apply Nat.le_antisymm wm53;apply Nat.le_of_not_lt;intro hlt;have:bl wm<=53:=Zp hlt;omega
    refine⟨0,false,fun w u h=>Qcc h.ry sO k2 rfl (by rw[k3];omega),?_,?_⟩
    .have:un=971:=by omega
     have hb:=wz w53;simp only[Bool.false_eq_true,if_false];unfold Xm;rw[if_pos hb];omega
    .have:un=971:=by omega
     rw[decide_eq_true (by omega)];rfl
   .have bw:=Zi w0;by_cases h53:wm=9007199254740992
    .have b54:bl wm=54:=by rw[h53];decide +kernel
     have hd:Qa ⟨false,wm,un⟩=⟨false,1,un+53⟩:=by
      rw[h53,Zy (d:=⟨false,9007199254740992,un⟩) (by simp)];have hl:lo 9007199254740992=53:=Fg (m:=0) (by decide);simp only;rw[hl,G5 (by omega)];have e1:9007199254740992/2^53=1:=by decide
      rw[e1];rfl
     have wm':wm=9007199254740992:=h53;refine⟨p*4503599627370496+wm,true,fun w u h=>?_,by simp,?_⟩
     .have:=Ey h.ry sO (by rw[k4];exact k1) k2 rfl (by rw[k3];omega) (un:=un+1) (by rw[k3];omega) (k:=52) (by rw[k4,hd];simp only;omega) (x:=4503599627370496) (by rw[k4,hd];show 4503599627370496=1*2^52;decide) (by omega) (.inl (Nat.le_refl _)) (p:=p+1) (by omega);rw[show(p+1)*4503599627370496+4503599627370496=p*4503599627370496+wm by omega]at this;exact this
     .rw[decide_eq_false (by omega)];rfl
    .have blw53:bl wm<=53:=Zp (by have e53:(2:Nat)^53=9007199254740992:=(by decide);omega);have hun2:un=max ((bl wm:Int)-1+un-52) (-1074):=by
      rcases wm52 with h|h
      .omega
      .have:53<=bl wm:=by
        apply Nat.le_of_not_lt;intro hlt;have h1:=Zb wm;have h2:2^bl wm<=2^52:=Nat.pow_le_pow_right (by decide) (by omega);have e52:(2:Nat)^52=4503599627370496:=by decide
        omega
       omega
     refine⟨p*4503599627370496+wm,true,fun w u h=>?_,by simp,?_⟩
     .have hx:=k8 un (by omega) (Int.le_refl _);rw[Int.sub_self,Int.toNat_zero,Nat.pow_zero,Nat.mul_one]at hx;exact Ey h.ry sO (by rw[k4];exact k1) k2 rfl (by rw[k3];omega) (by rw[k3];exact hun2) (k:=((Qa ⟨false,wm,un⟩).e-un).toNat) (by rw[k4];omega) (by rw[k4];exact hx.symm) (by omega) (by omega) ep
     .rw[decide_eq_false (by omega)];rfl
 obtain⟨b,fits,ce,hb,hfits⟩:=key;have T:=Qg9 hu sd hneg h0 more z hz ht.symm (by omega) eun2 en (by omega) hwn (by omega) (tn:=decide (t < -1022)) rfl ce;rw[hb]at T;have hfl:Qep fits ix (decide (t < -1022))=if 9218868437227405312<=p*4503599627370496+wm then 5 else if ix=true then(if t < -1022 then 3 else 1)else 0:=by
  rw[hfits];by_cases h:9218868437227405312<=p*4503599627370496+wm
  .rw[decide_eq_true h,if_pos h];rfl
  .rw[decide_eq_false h,if_neg h];by_cases h2:t < -1022
   .rw[decide_eq_true h2,if_pos h2];cases ix<;>rfl
   .rw[decide_eq_false h2,if_neg h2];cases ix<;>rfl
 rw[hfl]at T;exact T
theorem Qes{w:World}{u:Value}{d:Dn}(hu:Ry w u d)(sd:Sw d):Calls Tryz.prog 161 #[u] w fun e w'=>e=.returned (.bool true)/\Below w.heap.size w w':=by
 have CA:=h_ (fun w (h:Ry w u d)=>Ti h sd);obtain⟨a1,k1,c1,rfl⟩:=hu.form;generalize Qa d=D at *
 obtain⟨n,m,e⟩:=D;clear sd;go_enter Tryz.func161,Tryz.ntmps161;have F0:=h_ (Fx.one w 42 #[.bool d.neg,.slice a1 k1 c1,.int .i64 d.e] rfl);have X0:=h_ (hu.alloc (.cells #[.bool d.neg,.slice a1 k1 c1,.int .i64 d.e] 42));clear hu;go_upto_region 1 with(fail)
 generalize alloc _ _=w0 at F0 X0 |-;have c0_0:=F0.o.c3 0 rfl;go_wp2_with fail;refine(CA.o _ X0.o).mono ?_;rintro q w1 ⟨u,rfl,hu,hb⟩;have F1:=h_ (F0.o.call hb);have X1:=h_ (X0.o.below hb);have U1:=h_ (hu);have c0_1:=F1.o.c3 0 rfl;obtain⟨a3,k3,c3,rfl⟩:=U1.o.fm;go_wp2;go_ret;exact⟨rfl,(F1.o.alloc _).b⟩
theorem Qhg{w:World}{u:Value}{i:In}(hu:Iv w u i)(s1:Sw i.lo)(s2:Sw i.hi):Calls Tryz.prog 132 #[u] w fun e w'=>e=.returned (.bool (decide (Qh i.lo i.hi<=0)))/\Below w.heap.size w w':=by
 obtain⟨⟨n,m,e⟩,⟨n',m',e'⟩⟩:=i;obtain⟨a1,k1,c1,a2,k2,c2,rfl,hx,hy⟩:=hu.fm;simp only at s1 s2;have C1:=h_ (fun w u (h:Cy w u ⟨n,m,e⟩)=>Qes h.ry s1);have C2:=h_ (fun w u (h:Cy w u ⟨n',m',e'⟩)=>Qes h.ry s2);have CC:=h_ (fun w u v (h:Cy w u ⟨n,m,e⟩) (k:Cy w v ⟨n',m',e'⟩)=>Zv h.ry k.ry);simp only;generalize Qh ⟨n,m,e⟩ ⟨n',m',e'⟩=c at *
 have HX:=h_ hx;have HY:=h_ hy;clear hu hx hy s1 s2;go_enter Tryz.func132,Tryz.ntmps132;have F0:=h_ (Fx.one w 92 #[.bool n,.slice a1 k1 c1,.int .i64 e,.bool n',.slice a2 k2 c2,.int .i64 e'] rfl);have X0:=h_ (HX.o.alloc (.cells #[.bool n,.slice a1 k1 c1,.int .i64 e,.bool n',.slice a2 k2 c2,.int .i64 e'] 92));have Y0:=h_ (HY.o.alloc (.cells #[.bool n,.slice a1 k1 c1,.int .i64 e,.bool n',.slice a2 k2 c2,.int .i64 e'] 92));go_upto_region 1 with(fail)
 generalize alloc _ _=w0 at F0 X0 Y0 |-;have c0_0:=F0.o.c6 0 rfl;go_wp2_with fail;refine(C1.o _ _ X0.o).mono ?_;rintro q w1 ⟨rfl,hb⟩;have F1:=h_ (F0.o.call hb);have X1:=h_ (X0.o.below hb);have Y1:=h_ (Y0.o.below hb);have c0_1:=F1.o.c6 0 rfl;go_wp2_with fail;refine(C2.o _ _ Y1.o).mono ?_;rintro q w2 ⟨rfl,hb⟩;have F2:=h_ (F1.o.call hb);have X2:=h_ (X1.o.below hb);have Y2:=h_ (Y1.o.below hb);have c0_2:=F2.o.c6 0 rfl;go_wp2_with fail;refine(CC.o _ _ _ X2.o Y2.o).mono ?_;rintro q w3 ⟨rfl,hb⟩;have F3:=h_ (F2.o.call hb);have X3:=h_ (X2.o.below hb);have Y3:=h_ (Y2.o.below hb);have c0_3:=F3.o.c6 0 rfl;go_wp2;go_ret;exact⟨rfl,F3.o.b⟩
def Wm(m:Nat)(e:Int):Bool:=if 1023<(bl m:Int)-1+e then(e==1024)&&((bl m:Int)==1)else decide (Zq ((bl m:Int)-1+e)-1<=e)
theorem E0{w:World}{u:Value}{d:Dn}(hu:Ry w u d)(sd:Sw d)(h0:(Qa d).m≠0)(ht:Qg (Qa d)=(bl (Qa d).m:Int)-1+(Qa d).e) :
  Calls Tryz.prog 119 #[u] w fun e w'=>e=.returned (.bool (Wm (Qa d).m (Qa d).e))/\Below w.heap.size w w':=by
 have CA:=h_ (fun w (h:Ry w u d)=>Ti h sd);have bd:=sd.bare;obtain⟨a1,k1,c1,rfl⟩:=hu.form;unfold Wm Zq;generalize Qa d=D at *
 have CT:=h_ (fun w u (h:Cy w u D)=>Wg h.ry);rw[ht]at CT;obtain⟨n,m,e⟩:=D;simp only at h0 CT bd |-;have eg:decide (m≠0)=true:=decide_eq_true h0;rw[eg]at CT;obtain⟨l,el⟩:∃l,l=bl m:=⟨_,rfl⟩
 have CB:Qb (∀w u,Dg w u m->Calls Tryz.prog 36 #[u] w fun e w'=>e=.returned (.int .i64 (l:Int))/\Below w.heap.size w w'):=fun w u h=>by have:=Xh (h.rd (by omega));rw[<-el]at this;exact this
 rw[<-el]at CT bd |-;obtain⟨t,et⟩:∃t,t=(l:Int)-1+e:=⟨_,rfl⟩
 rw[<-et]at CT |-;obtain⟨un,hun⟩:∃un,un=t-52:=⟨_,rfl⟩
 rw[<-hun];obtain⟨q,hq⟩:∃q,q=max un (-1074):=⟨_,rfl⟩
 rw[<-hq];obtain⟨q1,hq1⟩:∃q1,q1=q-1:=⟨_,rfl⟩
 rw[<-hq1];have r1:IntKind.i64.wrap (t-52)=un:=by rw[hun];exact IntWalk.i64_in _ (by omega)
 have r1':t-52=un:=hun.symm;have r0:IntKind.i64.wrap un=un:=IntWalk.i64_in _ (by omega);have r2:max un (-1074)=q:=hq.symm;have r3:IntKind.i64.wrap (q-1)=q1:=by rw[hq1];exact IntWalk.i64_in _ (by omega)
 have r4:q-1=q1:=hq1.symm;have r5:IntKind.i64.wrap q1=q1:=IntWalk.i64_in _ (by omega);obtain⟨g,hg⟩:∃g,g=decide (q1<=e):=⟨_,rfl⟩
 have z2:decide (q1<=e)=g:=hg.symm;rw[<-hg];have HUU:=h_ hu;by_cases hbig:1023<t
 .have z1:decide ((1023:Int)<t)=true:=decide_eq_true hbig;rw[if_pos hbig];obtain⟨g1,hg1⟩:∃g1,g1=(e==1024):=⟨_,rfl⟩
  obtain⟨g2,hg2⟩:∃g2,g2=((l:Int)==1):=⟨_,rfl⟩
  have z3:(e==1024)=g1:=hg1.symm;have z4:((l:Int)==1)=g2:=hg2.symm;have z5:(l==1)=g2:=by
   rw[hg2];by_cases h:l=1
   .subst h;rfl
   .rw[beq_eq_false_iff_ne.2 h,beq_eq_false_iff_ne.2 (by omega:(l:Int)≠1)]
  rw[<-hg1,<-hg2];clear hu sd h0 eg hun hq hq1 hbig ht et el hg hg1 hg2 bd r1 r0 r2 r3 r4 r5 r1' z2 g;cases g1
  case false =>
   go_enter Tryz.func119,Tryz.ntmps119;have F0:=h_ (Fx.one w 42 #[.bool d.neg,.slice a1 k1 c1,.int .i64 d.e] rfl);have X0:=h_ (HUU.o.alloc (.cells #[.bool d.neg,.slice a1 k1 c1,.int .i64 d.e] 42));clear HUU;go_upto_region 1 with(fail)
   generalize alloc _ _=w0 at F0 X0 |-;have c0_0:=F0.o.c3 0 rfl;go_wp2_with fail;refine(CA.o _ X0.o).mono ?_;rintro q w1 ⟨u,rfl,hu,hb⟩;have F1:=h_ (F0.o.call hb);have X1:=h_ (X0.o.below hb);have U1:=h_ (hu);have c0_1:=F1.o.c3 0 rfl;obtain⟨a3,k3,c3,rfl⟩:=U1.o.fm;go_upto_region 2 with(fail)
   obtain⟨f,p⟩:=F1.o.s3 0 rfl (.bool n) (.slice a3 k3 c3) (.int .i64 e) rfl rfl rfl;generalize setCell _ _ _=W at f p |-;have F2:=h_ (f);have U2:=h_ (U1.o.kp p);simp only[set_cons_zero]at F2;have c0_2:=F2.o.c3 0 rfl;go_wp2_with fail;refine(CT.o _ _ U2.o).mono ?_;rintro q w3 ⟨rfl,hb⟩;have F3:=h_ (F2.o.call hb);have U3:=h_ (U2.o.below hb);have c0_3:=F3.o.c3 0 rfl;go_wp2;go_ret;exact⟨rfl,F3.o.b⟩
  case true =>
   go_enter Tryz.func119,Tryz.ntmps119;have F0:=h_ (Fx.one w 42 #[.bool d.neg,.slice a1 k1 c1,.int .i64 d.e] rfl);have X0:=h_ (HUU.o.alloc (.cells #[.bool d.neg,.slice a1 k1 c1,.int .i64 d.e] 42));clear HUU;go_upto_region 1 with(fail)
   generalize alloc _ _=w0 at F0 X0 |-;have c0_0:=F0.o.c3 0 rfl;go_wp2_with fail;refine(CA.o _ X0.o).mono ?_;rintro q w1 ⟨u,rfl,hu,hb⟩;have F1:=h_ (F0.o.call hb);have X1:=h_ (X0.o.below hb);have U1:=h_ (hu);have c0_1:=F1.o.c3 0 rfl;obtain⟨a3,k3,c3,rfl⟩:=U1.o.fm;go_upto_region 2 with(fail)
   obtain⟨f,p⟩:=F1.o.s3 0 rfl (.bool n) (.slice a3 k3 c3) (.int .i64 e) rfl rfl rfl;generalize setCell _ _ _=W at f p |-;have F2:=h_ (f);have U2:=h_ (U1.o.kp p);simp only[set_cons_zero]at F2;have c0_2:=F2.o.c3 0 rfl;go_wp2_with fail;refine(CT.o _ _ U2.o).mono ?_;rintro q w3 ⟨rfl,hb⟩;have F3:=h_ (F2.o.call hb);have U3:=h_ (U2.o.below hb);have c0_3:=F3.o.c3 0 rfl;go_wp2_with fail;refine(CB.o _ _ U3.o.dm).mono ?_;rintro q w4 ⟨rfl,hb⟩;have F4:=h_ (F3.o.call hb);have U4:=h_ (U3.o.below hb);have c0_4:=F4.o.c3 0 rfl;go_wp2;go_ret;exact⟨rfl,F4.o.b⟩
 .have z1:decide ((1023:Int)<t)=false:=decide_eq_false hbig;rw[if_neg hbig];clear hu sd h0 eg hun hq hq1 hbig ht et el hg bd;go_enter Tryz.func119,Tryz.ntmps119;have F0:=h_ (Fx.one w 42 #[.bool d.neg,.slice a1 k1 c1,.int .i64 d.e] rfl);have X0:=h_ (HUU.o.alloc (.cells #[.bool d.neg,.slice a1 k1 c1,.int .i64 d.e] 42));clear HUU;go_upto_region 1 with(fail)
  generalize alloc _ _=w0 at F0 X0 |-;have c0_0:=F0.o.c3 0 rfl;go_wp2_with fail;refine(CA.o _ X0.o).mono ?_;rintro q w1 ⟨u,rfl,hu,hb⟩;have F1:=h_ (F0.o.call hb);have X1:=h_ (X0.o.below hb);have U1:=h_ (hu);have c0_1:=F1.o.c3 0 rfl;obtain⟨a3,k3,c3,rfl⟩:=U1.o.fm;go_upto_region 2 with(fail)
  obtain⟨f,p⟩:=F1.o.s3 0 rfl (.bool n) (.slice a3 k3 c3) (.int .i64 e) rfl rfl rfl;generalize setCell _ _ _=W at f p |-;have F2:=h_ (f);have U2:=h_ (U1.o.kp p);simp only[set_cons_zero]at F2;have c0_2:=F2.o.c3 0 rfl;go_wp2_with fail;refine(CT.o _ _ U2.o).mono ?_;rintro q w3 ⟨rfl,hb⟩;have F3:=h_ (F2.o.call hb);have U3:=h_ (U2.o.below hb);have c0_3:=F3.o.c3 0 rfl;go_wp2;go_ret;exact⟨rfl,F3.o.b⟩
theorem Qiz(z:Int)(hz:0<=z/\z<=3)(w:World):Calls Tryz.prog 96 #[.bool false,.int .i64 z] w fun e w'=>e=.returned (.bool (z==1||z==3))/\w=w':=by
 have R0:Calls Tryz.prog 96 #[.bool false,.int .i64 0] w fun e w'=>e=.returned (.bool false)/\w=w':=by clear hz;go_enter Tryz.func96,Tryz.ntmps96;go_wp2;go_ret;exact⟨rfl,rfl⟩
 have R1:Calls Tryz.prog 96 #[.bool false,.int .i64 1] w fun e w'=>e=.returned (.bool true)/\w=w':=by clear hz;go_enter Tryz.func96,Tryz.ntmps96;go_wp2;go_ret;exact⟨rfl,rfl⟩
 have R2:Calls Tryz.prog 96 #[.bool false,.int .i64 2] w fun e w'=>e=.returned (.bool false)/\w=w':=by clear hz;go_enter Tryz.func96,Tryz.ntmps96;go_wp2;go_ret;exact⟨rfl,rfl⟩
 have R3:Calls Tryz.prog 96 #[.bool false,.int .i64 3] w fun e w'=>e=.returned (.bool true)/\w=w':=by clear hz;go_enter Tryz.func96,Tryz.ntmps96;go_wp2;go_ret;exact⟨rfl,rfl⟩
 rcases(by omega:z=0\/z=1\/z=2\/z=3)with rfl|rfl|rfl|rfl
 .exact R0
 .exact R1
 .exact R2
 .exact R3
theorem Bm{w:World}{u:Value}{i:In}(hu:Iv w u i)(s1:Sw i.lo)(s2:Sw i.hi)(hc:Qh i.lo i.hi<=0)(z:Int)(hz:0<=z/\z<=3){g:Bool}(hg:decide (0<Qe i.lo)=g):Calls Tryz.prog 95 #[u,.int .i64 z] w fun e w'=>e=.returned (.bool g)/\Below w.heap.size w w':=by
 have CR:=h_ (fun w u (h:Iv w u i)=>Qhg h s1 s2);have e1:decide (Qh i.lo i.hi<=0)=true:=decide_eq_true hc;rw[e1]at CR;obtain⟨⟨n,m,e⟩,⟨n',m',e'⟩⟩:=i;have CS:=h_ (fun w u (h:Cy w u ⟨n,m,e⟩)=>Jn h.ry);simp only at hg;generalize Qe ⟨n,m,e⟩=sg at *
 have t2:decide ((0:Int)<=z)=true:=decide_eq_true hz.1;have t3:decide (z<=3)=true:=decide_eq_true hz.2;obtain⟨a1,k1,c1,a2,k2,c2,rfl,hx,hy⟩:=hu.fm;have HX:=h_ hu;have HY:=h_ hx;clear hu hx hy s1 s2 hc hz e1;go_enter Tryz.func95,Tryz.ntmps95;have F0:=h_ (Fx.one w 92 #[.bool n,.slice a1 k1 c1,.int .i64 e,.bool n',.slice a2 k2 c2,.int .i64 e'] rfl);have X0:=h_ (HX.o.alloc (.cells #[.bool n,.slice a1 k1 c1,.int .i64 e,.bool n',.slice a2 k2 c2,.int .i64 e'] 92));have Y0:=h_ (HY.o.alloc (.cells #[.bool n,.slice a1 k1 c1,.int .i64 e,.bool n',.slice a2 k2 c2,.int .i64 e'] 92));go_upto_region 1 with(fail)
 generalize alloc _ _=w0 at F0 X0 Y0 |-;have c0_0:=F0.o.c6 0 rfl;go_wp2_with fail;refine(CR.o _ _ X0.o).mono ?_;rintro q w1 ⟨rfl,hb⟩;have F1:=h_ (F0.o.call hb);have X1:=h_ (X0.o.below hb);have Y1:=h_ (Y0.o.below hb);have c0_1:=F1.o.c6 0 rfl;go_wp2_with fail;refine(CS.o _ _ Y1.o).mono ?_;rintro q w2 ⟨rfl,hb⟩;have F2:=h_ (F1.o.call hb);have X2:=h_ (X1.o.below hb);have Y2:=h_ (Y1.o.below hb);have c0_2:=F2.o.c6 0 rfl;cases g<;>(go_wp2;go_ret;exact⟨rfl,F2.o.b⟩)
theorem Qd4{w:World}{u:Value}{i:In}(hu:Iv w u i)(z:Int){g b1 b2:Bool}(cr:∀w u,Iv w u i->Calls Tryz.prog 95 #[u,.int .i64 z] w fun e w'=>e=.returned (.bool g)/\Below w.heap.size w w')
  (c1:∀w u,Cy w u i.lo->Calls Tryz.prog 119 #[u] w fun e w'=>e=.returned (.bool b1)/\Below w.heap.size w w')
  (c2:∀w u,Cy w u i.hi->Calls Tryz.prog 119 #[u] w fun e w'=>e=.returned (.bool b2)/\Below w.heap.size w w') (h:g=true->b1=true\/b2=true) :
  Calls Tryz.prog 94 #[u,.bool false,.int .i64 z] w fun e w'=>e=.returned (.tuple #[.int .u64 0,.int .u8 0,.bool false])/\Below w.heap.size w w':=by
 obtain⟨⟨n,m,e⟩,⟨n',m',e'⟩⟩:=i;have CR:=h_ cr;have B1:=h_ c1;have B2:=h_ c2;obtain⟨a1,k1,c1',a2,k2,c2',rfl,hx,hy⟩:=hu.fm;have HX:=h_ hu;have HY:=h_ hx;have HZ:=h_ hy;clear hu hx hy cr c1 c2;cases g
 case false =>
  go_enter Tryz.func94,Tryz.ntmps94;have F0:=h_ (Fx.one w 92 #[.bool n,.slice a1 k1 c1',.int .i64 e,.bool n',.slice a2 k2 c2',.int .i64 e'] rfl);have X0:=h_ (HX.o.alloc (.cells #[.bool n,.slice a1 k1 c1',.int .i64 e,.bool n',.slice a2 k2 c2',.int .i64 e'] 92));have Y0:=h_ (HY.o.alloc (.cells #[.bool n,.slice a1 k1 c1',.int .i64 e,.bool n',.slice a2 k2 c2',.int .i64 e'] 92));have Z0:=h_ (HZ.o.alloc (.cells #[.bool n,.slice a1 k1 c1',.int .i64 e,.bool n',.slice a2 k2 c2',.int .i64 e'] 92));go_upto_region 1 with(fail)
  generalize alloc _ _=w0 at F0 X0 Y0 Z0 |-;have c0_0:=F0.o.c6 0 rfl;go_wp2_with fail;refine(CR.o _ _ X0.o).mono ?_;rintro q w1 ⟨rfl,hb⟩;have F1:=h_ (F0.o.call hb);have X1:=h_ (X0.o.below hb);have Y1:=h_ (Y0.o.below hb);have Z1:=h_ (Z0.o.below hb);have c0_1:=F1.o.c6 0 rfl;go_wp2;refine bodyPost_ret (v:=.tuple #[.int .u64 0,.int .u8 0,.bool false]) (by simp[results,Tryz.results94,go_sem]) rfl ?_;exact⟨rfl,F1.o.b⟩
 case true =>
  cases b1
  case true =>
   go_enter Tryz.func94,Tryz.ntmps94;have F0:=h_ (Fx.one w 92 #[.bool n,.slice a1 k1 c1',.int .i64 e,.bool n',.slice a2 k2 c2',.int .i64 e'] rfl);have X0:=h_ (HX.o.alloc (.cells #[.bool n,.slice a1 k1 c1',.int .i64 e,.bool n',.slice a2 k2 c2',.int .i64 e'] 92));have Y0:=h_ (HY.o.alloc (.cells #[.bool n,.slice a1 k1 c1',.int .i64 e,.bool n',.slice a2 k2 c2',.int .i64 e'] 92));have Z0:=h_ (HZ.o.alloc (.cells #[.bool n,.slice a1 k1 c1',.int .i64 e,.bool n',.slice a2 k2 c2',.int .i64 e'] 92));go_upto_region 1 with(fail)
   generalize alloc _ _=w0 at F0 X0 Y0 Z0 |-;have c0_0:=F0.o.c6 0 rfl;go_wp2_with fail;refine(CR.o _ _ X0.o).mono ?_;rintro q w1 ⟨rfl,hb⟩;have F1:=h_ (F0.o.call hb);have X1:=h_ (X0.o.below hb);have Y1:=h_ (Y0.o.below hb);have Z1:=h_ (Z0.o.below hb);have c0_1:=F1.o.c6 0 rfl;go_wp2_with fail;refine(B1.o _ _ Y1.o).mono ?_;rintro q w2 ⟨rfl,hb⟩;have F2:=h_ (F1.o.call hb);have X2:=h_ (X1.o.below hb);have Y2:=h_ (Y1.o.below hb);have Z2:=h_ (Z1.o.below hb);have c0_2:=F2.o.c6 0 rfl;go_wp2;refine bodyPost_ret (v:=.tuple #[.int .u64 0,.int .u8 0,.bool false]) (by simp[results,Tryz.results94,go_sem]) rfl ?_;exact⟨rfl,F2.o.b⟩
  case false =>
   obtain rfl:b2=true:=by simpa using h rfl
   go_enter Tryz.func94,Tryz.ntmps94;have F0:=h_ (Fx.one w 92 #[.bool n,.slice a1 k1 c1',.int .i64 e,.bool n',.slice a2 k2 c2',.int .i64 e'] rfl);have X0:=h_ (HX.o.alloc (.cells #[.bool n,.slice a1 k1 c1',.int .i64 e,.bool n',.slice a2 k2 c2',.int .i64 e'] 92));have Y0:=h_ (HY.o.alloc (.cells #[.bool n,.slice a1 k1 c1',.int .i64 e,.bool n',.slice a2 k2 c2',.int .i64 e'] 92));have Z0:=h_ (HZ.o.alloc (.cells #[.bool n,.slice a1 k1 c1',.int .i64 e,.bool n',.slice a2 k2 c2',.int .i64 e'] 92));go_upto_region 1 with(fail)
   generalize alloc _ _=w0 at F0 X0 Y0 Z0 |-;have c0_0:=F0.o.c6 0 rfl;go_wp2_with fail;refine(CR.o _ _ X0.o).mono ?_;rintro q w1 ⟨rfl,hb⟩;have F1:=h_ (F0.o.call hb);have X1:=h_ (X0.o.below hb);have Y1:=h_ (Y0.o.below hb);have Z1:=h_ (Z0.o.below hb);have c0_1:=F1.o.c6 0 rfl;go_wp2_with fail;refine(B1.o _ _ Y1.o).mono ?_;rintro q w2 ⟨rfl,hb⟩;have F2:=h_ (F1.o.call hb);have X2:=h_ (X1.o.below hb);have Y2:=h_ (Y1.o.below hb);have Z2:=h_ (Z1.o.below hb);have c0_2:=F2.o.c6 0 rfl;go_wp2_with fail;refine(B2.o _ _ Z2.o).mono ?_;rintro q w3 ⟨rfl,hb⟩;have F3:=h_ (F2.o.call hb);have X3:=h_ (X2.o.below hb);have Y3:=h_ (Y2.o.below hb);have Z3:=h_ (Z2.o.below hb);have c0_3:=F3.o.c6 0 rfl;go_wp2;refine bodyPost_ret (v:=.tuple #[.int .u64 0,.int .u8 0,.bool false]) (by simp[results,Tryz.results94,go_sem]) rfl ?_;exact⟨rfl,F3.o.b⟩
theorem Qb3{w:World}{u:Value}{i:In}(hu:Iv w u i)(z:Int){g b1 b2:Bool}(cr:∀w u,Iv w u i->Calls Tryz.prog 95 #[u,.int .i64 z] w fun e w'=>e=.returned (.bool g)/\Below w.heap.size w w')
  (c1:∀w u,Cy w u i.lo->Calls Tryz.prog 119 #[u] w fun e w'=>e=.returned (.bool b1)/\Below w.heap.size w w')
  (c2:∀w u,Cy w u i.hi->Calls Tryz.prog 119 #[u] w fun e w'=>e=.returned (.bool b2)/\Below w.heap.size w w') (hg:g=true) (h1:b1=false) (h2:b2=false) {B C:Nat} {f k:Int}
  (t1:∀w u,Cy w u i.lo->Calls Tryz.prog 40 #[u,.bool false,.int .i64 z] w fun e w'=>e=.returned (.tuple #[.int .u64 (B:Int),.int .u8 f,.int .i64 0])/\Below w.heap.size w w')
  (t2:∀w u,Cy w u i.hi->Calls Tryz.prog 40 #[u,.bool false,.int .i64 z] w fun e w'=>e=.returned (.tuple #[.int .u64 (C:Int),.int .u8 k,.int .i64 0])/\Below w.heap.size w w') :
  Calls Tryz.prog 94 #[u,.bool false,.int .i64 z] w fun e w'=>e=.returned (.tuple (if B=C/\f=k then #[.int .u64 (B:Int),.int .u8 f,.bool true]else #[.int .u64 0,.int .u8 0,.bool false]))/\Below w.heap.size w w':=by
 subst hg h1 h2;obtain⟨⟨n,m,e⟩,⟨n',m',e'⟩⟩:=i;have CR:=h_ cr;have B1:=h_ c1;have B2:=h_ c2;have T1:=h_ t1;have T2:=h_ t2;obtain⟨a1,k1,c1',a2,k2,c2',rfl,hx,hy⟩:=hu.fm;have HX:=h_ hu;have HY:=h_ hx;have HZ:=h_ hy;obtain⟨R,hR⟩:∃R,R=(if B=C/\f=k then #[Value.int .u64 (B:Int),Value.int .u8 f,Value.bool true]else #[Value.int .u64 0,Value.int .u8 0,Value.bool false]):=⟨_,rfl⟩
 rw[<-hR];have HR:=h_ hR;clear hu hx hy cr c1 c2 t1 t2 hR;by_cases hB:B=C
 .have zb:((B:Int)==(C:Int))=true:=by rw[beq_iff_eq];omega
  have zb':(B==C)=true:=by rw[beq_iff_eq];exact hB
  have zc:((B:Int) != (C:Int))=false:=by rw[bne,zb];rfl
  have zc':(B != C)=false:=by rw[bne,zb'];rfl
  by_cases hf:f=k
  .have zf:(f==k)=true:=by rw[beq_iff_eq];exact hf
   have zg:(f != k)=false:=by rw[bne,zf];rfl
   have HE:Qb (R=#[.int .u64 (B:Int),.int .u8 f,.bool true]):=by rw[Qb,HR.o,if_pos ⟨hB,hf⟩]
   clear hB hf HR;go_enter Tryz.func94,Tryz.ntmps94;have F0:=h_ (Fx.one w 92 #[.bool n,.slice a1 k1 c1',.int .i64 e,.bool n',.slice a2 k2 c2',.int .i64 e'] rfl);have X0:=h_ (HX.o.alloc (.cells #[.bool n,.slice a1 k1 c1',.int .i64 e,.bool n',.slice a2 k2 c2',.int .i64 e'] 92));have Y0:=h_ (HY.o.alloc (.cells #[.bool n,.slice a1 k1 c1',.int .i64 e,.bool n',.slice a2 k2 c2',.int .i64 e'] 92));have Z0:=h_ (HZ.o.alloc (.cells #[.bool n,.slice a1 k1 c1',.int .i64 e,.bool n',.slice a2 k2 c2',.int .i64 e'] 92));go_upto_region 1 with(fail)
   generalize alloc _ _=w0 at F0 X0 Y0 Z0 |-;have c0_0:=F0.o.c6 0 rfl;go_wp2_with fail;refine(CR.o _ _ X0.o).mono ?_;rintro q w1 ⟨rfl,hb⟩;have F1:=h_ (F0.o.call hb);have X1:=h_ (X0.o.below hb);have Y1:=h_ (Y0.o.below hb);have Z1:=h_ (Z0.o.below hb);have c0_1:=F1.o.c6 0 rfl;go_wp2_with fail;refine(B1.o _ _ Y1.o).mono ?_;rintro q w2 ⟨rfl,hb⟩;have F2:=h_ (F1.o.call hb);have X2:=h_ (X1.o.below hb);have Y2:=h_ (Y1.o.below hb);have Z2:=h_ (Z1.o.below hb);have c0_2:=F2.o.c6 0 rfl;go_wp2_with fail;refine(B2.o _ _ Z2.o).mono ?_;rintro q w3 ⟨rfl,hb⟩;have F3:=h_ (F2.o.call hb);have X3:=h_ (X2.o.below hb);have Y3:=h_ (Y2.o.below hb);have Z3:=h_ (Z2.o.below hb);have c0_3:=F3.o.c6 0 rfl;go_wp2_with fail;refine(Kd Y3.o).mono ?_;rintro q w4 ⟨u,rfl,hu,hb⟩;have F4:=h_ (F3.o.call hb);have X4:=h_ (X3.o.below hb);have Y4:=h_ (Y3.o.below hb);have Z4:=h_ (Z3.o.below hb);have U4:=h_ (hu);have c0_4:=F4.o.c6 0 rfl;obtain⟨a3,k3,c3,rfl⟩:=U4.o.fm;go_wp2_with fail;refine(T1.o _ _ U4.o).mono ?_;rintro q w5 ⟨rfl,hb⟩;have F5:=h_ (F4.o.call hb);have X5:=h_ (X4.o.below hb);have Y5:=h_ (Y4.o.below hb);have Z5:=h_ (Z4.o.below hb);have U5:=h_ (U4.o.below hb);have c0_5:=F5.o.c6 0 rfl;go_wp2_with fail;refine(Kd Z5.o).mono ?_;rintro q w6 ⟨u,rfl,hu,hb⟩;have F6:=h_ (F5.o.call hb);have X6:=h_ (X5.o.below hb);have Y6:=h_ (Y5.o.below hb);have Z6:=h_ (Z5.o.below hb);have U6:=h_ (U5.o.below hb);have V6:=h_ (hu);have c0_6:=F6.o.c6 0 rfl;obtain⟨a4,k4,c4,rfl⟩:=V6.o.fm;go_wp2_with fail;refine(T2.o _ _ V6.o).mono ?_;rintro q w7 ⟨rfl,hb⟩;have F7:=h_ (F6.o.call hb);have X7:=h_ (X6.o.below hb);have Y7:=h_ (Y6.o.below hb);have Z7:=h_ (Z6.o.below hb);have U7:=h_ (U6.o.below hb);have V7:=h_ (V6.o.below hb);have c0_7:=F7.o.c6 0 rfl;go_wp2;refine bodyPost_ret (v:=.tuple #[.int .u64 (B:Int),.int .u8 f,.bool true]) (by simp[results,Tryz.results94,go_sem]) rfl ?_;exact⟨by rw[HE.o],F7.o.b⟩
  .have zf:(f==k)=false:=by rw[beq_eq_false_iff_ne];exact hf
   have zg:(f != k)=true:=by rw[bne,zf];rfl
   have HE:Qb (R=#[.int .u64 0,.int .u8 0,.bool false]):=by rw[Qb,HR.o,if_neg (fun h=>hf h.2)]
   clear hB hf HR;go_enter Tryz.func94,Tryz.ntmps94;have F0:=h_ (Fx.one w 92 #[.bool n,.slice a1 k1 c1',.int .i64 e,.bool n',.slice a2 k2 c2',.int .i64 e'] rfl);have X0:=h_ (HX.o.alloc (.cells #[.bool n,.slice a1 k1 c1',.int .i64 e,.bool n',.slice a2 k2 c2',.int .i64 e'] 92));have Y0:=h_ (HY.o.alloc (.cells #[.bool n,.slice a1 k1 c1',.int .i64 e,.bool n',.slice a2 k2 c2',.int .i64 e'] 92));have Z0:=h_ (HZ.o.alloc (.cells #[.bool n,.slice a1 k1 c1',.int .i64 e,.bool n',.slice a2 k2 c2',.int .i64 e'] 92));go_upto_region 1 with(fail)
   generalize alloc _ _=w0 at F0 X0 Y0 Z0 |-;have c0_0:=F0.o.c6 0 rfl;go_wp2_with fail;refine(CR.o _ _ X0.o).mono ?_;rintro q w1 ⟨rfl,hb⟩;have F1:=h_ (F0.o.call hb);have X1:=h_ (X0.o.below hb);have Y1:=h_ (Y0.o.below hb);have Z1:=h_ (Z0.o.below hb);have c0_1:=F1.o.c6 0 rfl;go_wp2_with fail;refine(B1.o _ _ Y1.o).mono ?_;rintro q w2 ⟨rfl,hb⟩;have F2:=h_ (F1.o.call hb);have X2:=h_ (X1.o.below hb);have Y2:=h_ (Y1.o.below hb);have Z2:=h_ (Z1.o.below hb);have c0_2:=F2.o.c6 0 rfl;go_wp2_with fail;refine(B2.o _ _ Z2.o).mono ?_;rintro q w3 ⟨rfl,hb⟩;have F3:=h_ (F2.o.call hb);have X3:=h_ (X2.o.below hb);have Y3:=h_ (Y2.o.below hb);have Z3:=h_ (Z2.o.below hb);have c0_3:=F3.o.c6 0 rfl;go_wp2_with fail;refine(Kd Y3.o).mono ?_;rintro q w4 ⟨u,rfl,hu,hb⟩;have F4:=h_ (F3.o.call hb);have X4:=h_ (X3.o.below hb);have Y4:=h_ (Y3.o.below hb);have Z4:=h_ (Z3.o.below hb);have U4:=h_ (hu);have c0_4:=F4.o.c6 0 rfl;obtain⟨a3,k3,c3,rfl⟩:=U4.o.fm;go_wp2_with fail;refine(T1.o _ _ U4.o).mono ?_;rintro q w5 ⟨rfl,hb⟩;have F5:=h_ (F4.o.call hb);have X5:=h_ (X4.o.below hb);have Y5:=h_ (Y4.o.below hb);have Z5:=h_ (Z4.o.below hb);have U5:=h_ (U4.o.below hb);have c0_5:=F5.o.c6 0 rfl;go_wp2_with fail;refine(Kd Z5.o).mono ?_;rintro q w6 ⟨u,rfl,hu,hb⟩;have F6:=h_ (F5.o.call hb);have X6:=h_ (X5.o.below hb);have Y6:=h_ (Y5.o.below hb);have Z6:=h_ (Z5.o.below hb);have U6:=h_ (U5.o.below hb);have V6:=h_ (hu);have c0_6:=F6.o.c6 0 rfl;obtain⟨a4,k4,c4,rfl⟩:=V6.o.fm;go_wp2_with fail;refine(T2.o _ _ V6.o).mono ?_;rintro q w7 ⟨rfl,hb⟩;have F7:=h_ (F6.o.call hb);have X7:=h_ (X6.o.below hb);have Y7:=h_ (Y6.o.below hb);have Z7:=h_ (Z6.o.below hb);have U7:=h_ (U6.o.below hb);have V7:=h_ (V6.o.below hb);have c0_7:=F7.o.c6 0 rfl;go_wp2;refine bodyPost_ret (v:=.tuple #[.int .u64 0,.int .u8 0,.bool false]) (by simp[results,Tryz.results94,go_sem]) rfl ?_;exact⟨by rw[HE.o],F7.o.b⟩
 .have zb:((B:Int)==(C:Int))=false:=by rw[beq_eq_false_iff_ne];omega
  have zb':(B==C)=false:=by rw[beq_eq_false_iff_ne];exact hB
  have zc:((B:Int) != (C:Int))=true:=by rw[bne,zb];rfl
  have zc':(B != C)=true:=by rw[bne,zb'];rfl
  have HE:Qb (R=#[.int .u64 0,.int .u8 0,.bool false]):=by rw[Qb,HR.o,if_neg (fun h=>hB h.1)]
  clear hB HR;go_enter Tryz.func94,Tryz.ntmps94;have F0:=h_ (Fx.one w 92 #[.bool n,.slice a1 k1 c1',.int .i64 e,.bool n',.slice a2 k2 c2',.int .i64 e'] rfl);have X0:=h_ (HX.o.alloc (.cells #[.bool n,.slice a1 k1 c1',.int .i64 e,.bool n',.slice a2 k2 c2',.int .i64 e'] 92));have Y0:=h_ (HY.o.alloc (.cells #[.bool n,.slice a1 k1 c1',.int .i64 e,.bool n',.slice a2 k2 c2',.int .i64 e'] 92));have Z0:=h_ (HZ.o.alloc (.cells #[.bool n,.slice a1 k1 c1',.int .i64 e,.bool n',.slice a2 k2 c2',.int .i64 e'] 92));go_upto_region 1 with(fail)
  generalize alloc _ _=w0 at F0 X0 Y0 Z0 |-;have c0_0:=F0.o.c6 0 rfl;go_wp2_with fail;refine(CR.o _ _ X0.o).mono ?_;rintro q w1 ⟨rfl,hb⟩;have F1:=h_ (F0.o.call hb);have X1:=h_ (X0.o.below hb);have Y1:=h_ (Y0.o.below hb);have Z1:=h_ (Z0.o.below hb);have c0_1:=F1.o.c6 0 rfl;go_wp2_with fail;refine(B1.o _ _ Y1.o).mono ?_;rintro q w2 ⟨rfl,hb⟩;have F2:=h_ (F1.o.call hb);have X2:=h_ (X1.o.below hb);have Y2:=h_ (Y1.o.below hb);have Z2:=h_ (Z1.o.below hb);have c0_2:=F2.o.c6 0 rfl;go_wp2_with fail;refine(B2.o _ _ Z2.o).mono ?_;rintro q w3 ⟨rfl,hb⟩;have F3:=h_ (F2.o.call hb);have X3:=h_ (X2.o.below hb);have Y3:=h_ (Y2.o.below hb);have Z3:=h_ (Z2.o.below hb);have c0_3:=F3.o.c6 0 rfl;go_wp2_with fail;refine(Kd Y3.o).mono ?_;rintro q w4 ⟨u,rfl,hu,hb⟩;have F4:=h_ (F3.o.call hb);have X4:=h_ (X3.o.below hb);have Y4:=h_ (Y3.o.below hb);have Z4:=h_ (Z3.o.below hb);have U4:=h_ (hu);have c0_4:=F4.o.c6 0 rfl;obtain⟨a3,k3,c3,rfl⟩:=U4.o.fm;go_wp2_with fail;refine(T1.o _ _ U4.o).mono ?_;rintro q w5 ⟨rfl,hb⟩;have F5:=h_ (F4.o.call hb);have X5:=h_ (X4.o.below hb);have Y5:=h_ (Y4.o.below hb);have Z5:=h_ (Z4.o.below hb);have U5:=h_ (U4.o.below hb);have c0_5:=F5.o.c6 0 rfl;go_wp2_with fail;refine(Kd Z5.o).mono ?_;rintro q w6 ⟨u,rfl,hu,hb⟩;have F6:=h_ (F5.o.call hb);have X6:=h_ (X5.o.below hb);have Y6:=h_ (Y5.o.below hb);have Z6:=h_ (Z5.o.below hb);have U6:=h_ (U5.o.below hb);have V6:=h_ (hu);have c0_6:=F6.o.c6 0 rfl;obtain⟨a4,k4,c4,rfl⟩:=V6.o.fm;go_wp2_with fail;refine(T2.o _ _ V6.o).mono ?_;rintro q w7 ⟨rfl,hb⟩;have F7:=h_ (F6.o.call hb);have X7:=h_ (X6.o.below hb);have Y7:=h_ (Y6.o.below hb);have Z7:=h_ (Z6.o.below hb);have U7:=h_ (U6.o.below hb);have V7:=h_ (V6.o.below hb);have c0_7:=F7.o.c6 0 rfl;go_wp2;refine bodyPost_ret (v:=.tuple #[.int .u64 0,.int .u8 0,.bool false]) (by simp[results,Tryz.results94,go_sem]) rfl ?_;exact⟨by rw[HE.o],F7.o.b⟩
theorem Qhr{w:World}{u:Value}{i:In}(hu:Iv w u i)(z:Int)(hz:0<=z/\z<=3){g:Bool}(cr:∀w u,Iv w u i->Calls Tryz.prog 95 #[u,.int .i64 z] w fun e w'=>e=.returned (.bool g)/\Below w.heap.size w w'){B C:Nat}{f k:Int}
  (t1:g=true->∀w u,Cy w u i.lo->Calls Tryz.prog 40 #[u,.bool true,.int .i64 z] w fun e w'=>e=.returned (.tuple #[.int .u64 (B:Int),.int .u8 f,.int .i64 0])/\Below w.heap.size w w')
  (t2:g=true->∀w u,Cy w u i.hi->Calls Tryz.prog 40 #[u,.bool true,.int .i64 z] w fun e w'=>e=.returned (.tuple #[.int .u64 (C:Int),.int .u8 k,.int .i64 0])/\Below w.heap.size w w') :
  Calls Tryz.prog 46 #[u,.bool false,.int .i64 z] w fun e w'=>e=.returned (.tuple (if g then(if z=1\/z=3 then #[.int .u64 (C:Int),.int .u8 k,.bool true]else #[.int .u64 (B:Int),.int .u8 f,.bool true])else #[.int .u64 0,.int .u8 0,.bool false]))/\Below w.heap.size w w':=by
 obtain⟨⟨n,m,e⟩,⟨n',m',e'⟩⟩:=i;have CR:=h_ cr;have CD:=h_ (fun w=>Qiz z hz w);obtain⟨dn,hdn⟩:∃dn,dn=(z==1||z==3):=⟨_,rfl⟩
 rw[<-hdn]at CD;have hdz:dn=true↔(z=1\/z=3):=by rw[hdn];simp
 obtain⟨a1,k1,c1',a2,k2,c2',rfl,hx,hy⟩:=hu.fm;have HX:=h_ hu;have HY:=h_ hx;have HZ:=h_ hy;cases g
 case false =>
  clear hu hx hy cr hz t1 t2 hdn hdz;go_enter Tryz.func46,Tryz.ntmps46;have F0:=h_ (Fx.one w 92 #[.bool n,.slice a1 k1 c1',.int .i64 e,.bool n',.slice a2 k2 c2',.int .i64 e'] rfl);have X0:=h_ (HX.o.alloc (.cells #[.bool n,.slice a1 k1 c1',.int .i64 e,.bool n',.slice a2 k2 c2',.int .i64 e'] 92));have Y0:=h_ (HY.o.alloc (.cells #[.bool n,.slice a1 k1 c1',.int .i64 e,.bool n',.slice a2 k2 c2',.int .i64 e'] 92));have Z0:=h_ (HZ.o.alloc (.cells #[.bool n,.slice a1 k1 c1',.int .i64 e,.bool n',.slice a2 k2 c2',.int .i64 e'] 92));go_upto_region 1 with(fail)
  generalize alloc _ _=w0 at F0 X0 Y0 Z0 |-;have c0_0:=F0.o.c6 0 rfl;go_wp2_with fail;refine(CR.o _ _ X0.o).mono ?_;rintro q w1 ⟨rfl,hb⟩;have F1:=h_ (F0.o.call hb);have X1:=h_ (X0.o.below hb);have Y1:=h_ (Y0.o.below hb);have Z1:=h_ (Z0.o.below hb);have c0_1:=F1.o.c6 0 rfl;go_wp2;refine bodyPost_ret (v:=.tuple #[.int .u64 0,.int .u8 0,.bool false]) (by simp[results,Tryz.results46,go_sem]) rfl ?_;exact⟨rfl,F1.o.b⟩
 case true =>
  have T1:=h_ (t1 rfl);have T2:=h_ (t2 rfl);cases dn
  case false =>
   have hz13:¬(z=1\/z=3):=fun h=>by have:=hdz.2 h;simp at this
   simp only[if_true];rw[if_neg hz13];clear hu hx hy cr hz t1 t2 hdn hdz hz13;go_enter Tryz.func46,Tryz.ntmps46;have F0:=h_ (Fx.one w 92 #[.bool n,.slice a1 k1 c1',.int .i64 e,.bool n',.slice a2 k2 c2',.int .i64 e'] rfl);have X0:=h_ (HX.o.alloc (.cells #[.bool n,.slice a1 k1 c1',.int .i64 e,.bool n',.slice a2 k2 c2',.int .i64 e'] 92));have Y0:=h_ (HY.o.alloc (.cells #[.bool n,.slice a1 k1 c1',.int .i64 e,.bool n',.slice a2 k2 c2',.int .i64 e'] 92));have Z0:=h_ (HZ.o.alloc (.cells #[.bool n,.slice a1 k1 c1',.int .i64 e,.bool n',.slice a2 k2 c2',.int .i64 e'] 92));go_upto_region 1 with(fail)
   generalize alloc _ _=w0 at F0 X0 Y0 Z0 |-;have c0_0:=F0.o.c6 0 rfl;go_wp2_with fail;refine(CR.o _ _ X0.o).mono ?_;rintro q w1 ⟨rfl,hb⟩;have F1:=h_ (F0.o.call hb);have X1:=h_ (X0.o.below hb);have Y1:=h_ (Y0.o.below hb);have Z1:=h_ (Z0.o.below hb);have c0_1:=F1.o.c6 0 rfl;go_upto_region 4 with(fail)
   have F2:=h_ (F1.o.new 42 #[.bool n,.slice a1 k1 c1',.int .i64 e] rfl);have X2:=h_ (X1.o.alloc (.cells #[.bool n,.slice a1 k1 c1',.int .i64 e] 42));have Y2:=h_ (Y1.o.alloc (.cells #[.bool n,.slice a1 k1 c1',.int .i64 e] 42));have Z2:=h_ (Z1.o.alloc (.cells #[.bool n,.slice a1 k1 c1',.int .i64 e] 42));obtain⟨g1,hg1⟩:∃g,g=(World.heap w1).size:=⟨_,rfl⟩
   rw[<-hg1]at F2 |-;clear hg1;simp only[nil_append,cons_append]at F2;generalize alloc w1 _=W2 at F2 X2 Y2 Z2 |-;have c0_2:=F2.o.c6 0 rfl;have c1_2:=F2.o.c3 1 rfl;go_wp2_with fail;refine(CD.o _).mono ?_;rintro q w3 ⟨rfl,rfl⟩;go_wp2_with fail;refine(Kd Y2.o).mono ?_;rintro q w3 ⟨u,rfl,hu,hb⟩;have F3:=h_ (F2.o.call hb);have X3:=h_ (X2.o.below hb);have Y3:=h_ (Y2.o.below hb);have Z3:=h_ (Z2.o.below hb);have U3:=h_ (hu);have c0_3:=F3.o.c6 0 rfl;have c1_3:=F3.o.c3 1 rfl;obtain⟨a3,k3,c3,rfl⟩:=U3.o.fm;go_wp2_with fail;refine(T1.o _ _ U3.o).mono ?_;rintro q w4 ⟨rfl,hb⟩;have F4:=h_ (F3.o.call hb);have X4:=h_ (X3.o.below hb);have Y4:=h_ (Y3.o.below hb);have Z4:=h_ (Z3.o.below hb);have U4:=h_ (U3.o.below hb);have c0_4:=F4.o.c6 0 rfl;have c1_4:=F4.o.c3 1 rfl;go_wp2;refine bodyPost_ret (v:=.tuple #[.int .u64 (B:Int),.int .u8 f,.bool true]) (by simp[results,Tryz.results46,go_sem]) rfl ?_;exact⟨rfl,F4.o.b⟩
  case true =>
   have hz13:z=1\/z=3:=hdz.1 rfl;simp only[if_true];rw[if_pos hz13];clear hu hx hy cr hz t1 t2 hdn hdz hz13;go_enter Tryz.func46,Tryz.ntmps46;have F0:=h_ (Fx.one w 92 #[.bool n,.slice a1 k1 c1',.int .i64 e,.bool n',.slice a2 k2 c2',.int .i64 e'] rfl);have X0:=h_ (HX.o.alloc (.cells #[.bool n,.slice a1 k1 c1',.int .i64 e,.bool n',.slice a2 k2 c2',.int .i64 e'] 92));have Y0:=h_ (HY.o.alloc (.cells #[.bool n,.slice a1 k1 c1',.int .i64 e,.bool n',.slice a2 k2 c2',.int .i64 e'] 92));have Z0:=h_ (HZ.o.alloc (.cells #[.bool n,.slice a1 k1 c1',.int .i64 e,.bool n',.slice a2 k2 c2',.int .i64 e'] 92));go_upto_region 1 with(fail)
   generalize alloc _ _=w0 at F0 X0 Y0 Z0 |-;have c0_0:=F0.o.c6 0 rfl;go_wp2_with fail;refine(CR.o _ _ X0.o).mono ?_;rintro q w1 ⟨rfl,hb⟩;have F1:=h_ (F0.o.call hb);have X1:=h_ (X0.o.below hb);have Y1:=h_ (Y0.o.below hb);have Z1:=h_ (Z0.o.below hb);have c0_1:=F1.o.c6 0 rfl;go_upto_region 4 with(fail)
   have F2:=h_ (F1.o.new 42 #[.bool n,.slice a1 k1 c1',.int .i64 e] rfl);have X2:=h_ (X1.o.alloc (.cells #[.bool n,.slice a1 k1 c1',.int .i64 e] 42));have Y2:=h_ (Y1.o.alloc (.cells #[.bool n,.slice a1 k1 c1',.int .i64 e] 42));have Z2:=h_ (Z1.o.alloc (.cells #[.bool n,.slice a1 k1 c1',.int .i64 e] 42));obtain⟨g1,hg1⟩:∃g,g=(World.heap w1).size:=⟨_,rfl⟩
   rw[<-hg1]at F2 |-;clear hg1;simp only[nil_append,cons_append]at F2;generalize alloc w1 _=W2 at F2 X2 Y2 Z2 |-;have c0_2:=F2.o.c6 0 rfl;have c1_2:=F2.o.c3 1 rfl;go_wp2_with fail;refine(CD.o _).mono ?_;rintro q w3 ⟨rfl,rfl⟩;go_upto_region 6 with(fail)
   obtain⟨f,p⟩:=F2.o.s3 1 rfl (.bool n') (.slice a2 k2 c2') (.int .i64 e') rfl rfl rfl;generalize setCell _ _ _=W at f p |-;have F3:=h_ (f);have X3:=h_ (X2.o.kp p);have Y3:=h_ (Y2.o.kp p);have Z3:=h_ (Z2.o.kp p);simp only[set_cons_zero,set_cons_succ]at F3;have c0_3:=F3.o.c6 0 rfl;have c1_3:=F3.o.c3 1 rfl;go_wp2_with fail;refine(Kd Z3.o).mono ?_;rintro q w4 ⟨u,rfl,hu,hb⟩;have F4:=h_ (F3.o.call hb);have X4:=h_ (X3.o.below hb);have Y4:=h_ (Y3.o.below hb);have Z4:=h_ (Z3.o.below hb);have U4:=h_ (hu);have c0_4:=F4.o.c6 0 rfl;have c1_4:=F4.o.c3 1 rfl;obtain⟨a3,k3,c3,rfl⟩:=U4.o.fm;go_wp2_with fail;refine(T2.o _ _ U4.o).mono ?_;rintro q w5 ⟨rfl,hb⟩;have F5:=h_ (F4.o.call hb);have X5:=h_ (X4.o.below hb);have Y5:=h_ (Y4.o.below hb);have Z5:=h_ (Z4.o.below hb);have U5:=h_ (U4.o.below hb);have c0_5:=F5.o.c6 0 rfl;have c1_5:=F5.o.c3 1 rfl;go_wp2;refine bodyPost_ret (v:=.tuple #[.int .u64 (C:Int),.int .u8 k,.bool true]) (by simp[results,Tryz.results46,go_sem]) rfl ?_;exact⟨rfl,F5.o.b⟩
def Ye(x:Dn)(M:Int)(k:Nat)(d:Dn):Prop:=∃g r,g=Nat.gcd M.natAbs k/\Li x (k/g) r/\Sc r (M.tdiv (g:Int)) d
def Ob(R:Dn->Prop)(w:World)(q:Ending)(w':World):Prop:=∃v d ok,q=.returned (.tuple #[v,.bool ok,.int .i64 0])/\Cy w' v d/\(ok=true->R d)/\Below w.heap.size w w'
theorem Fs{n:Bool}{m:Nat}{e:Int}(h:m%2=1)(he:-200000<=e/\e<=200000):Qg ⟨n,m,e⟩=(bl m:Int)-1+e:=by unfold Qg;rw[Yz h he,if_neg (by simp only;omega)]
theorem Ig{x k y:Nat}(h:x^k=y)(hy:y%2=1)(hk:0<k):x%2=1:=by
 obtain⟨j,rfl⟩:∃j,k=j+1:=⟨k-1,by omega⟩
 rw[Nat.pow_succ]at h;have h1:x^j*x%2=1:=by rw[h];exact hy
 rw[Nat.mul_mod]at h1;rcases(by omega:x%2=0\/x%2=1)with h2|h2
 .rw[h2,Nat.mul_zero]at h1;simp at h1
 .exact h2
theorem Ew{w:World}{u:Value}{x:Dn}(hu:Cy w u x)(sd:Sd x)(hn:(Qa x).neg=false)(h0:(Qa x).m≠0)(hodd:(Qa x).m%2=1)(h64:(Qa x).m<18446744073709551616)(M:Int)(k:Nat)(hM:-9223372036854775808<M/\M<9223372036854775808)(hM0:M≠0)(hk:0<k/\k<9223372036854775808) :
  Calls Tryz.prog 81 #[u,.agg #[.int .i64 M,.int .i64 (k:Int)]] w (Ob (Ye (Qa x) M k) w):=by
 have CA:=h_ (fun w u (h:Cy w u x)=>Xr h.ry sd);have sb:=sd.bare;generalize Qa x=X at *
 obtain⟨g,hg⟩:∃g,g=Nat.gcd M.natAbs k:=⟨_,rfl⟩
 have g0:0<g:=hg▸Nat.gcd_pos_of_pos_right _ hk.1;have gk:g∣k:=hg▸Nat.gcd_dvd_right _ _;have gm:(g:Int)∣M:=by rw[Int.ofNat_dvd_left,hg];exact Nat.gcd_dvd_left _ _
 obtain⟨k1,hk1⟩:∃k1,k1=k/g:=⟨_,rfl⟩
 obtain⟨m1,hm1⟩:∃m1,m1=M.tdiv (g:Int):=⟨_,rfl⟩
 have hP:∀d,Ye X M k d↔∃r,Li X k1 r/\Sc r m1 d:=by
  intro d;unfold Ye;constructor
  .rintro⟨g',r,rfl,h1,h2⟩;rw[<-hg]at h1 h2;rw[hk1,hm1];exact⟨r,h1,h2⟩
  .rintro⟨r,h1,h2⟩;rw[hk1]at h1;rw[hm1]at h2;exact⟨g,r,hg,h1,h2⟩
 have HP:=h_ hP;have k10:0<k1:=by rw[hk1];exact Nat.div_pos (Nat.le_of_dvd hk.1 gk) g0
 have k1l:k1<=k:=by rw[hk1];exact Nat.div_le_self _ _
 have m1l:m1.natAbs<=M.natAbs:=by rw[hm1,Int.natAbs_tdiv];exact Nat.div_le_self _ _
 have m10:m1≠0:=by intro h;have h2:=Int.tdiv_mul_cancel gm;rw[<-hm1,h,Int.zero_mul]at h2;exact hM0 h2.symm
 have CW:=h_ (fun w=>Qks w M k g hM hk hg hm1.symm hk1.symm);generalize Ye X M k=R at *
 obtain⟨xn,xm,xe⟩:=X;simp only at sb hn h0 hodd h64;subst hn;have CS:=h_ (fun w u (h:Cy w u ⟨false,xm,xe⟩)=>Jn h.ry);rw[show Qe ⟨false,xm,xe⟩=1 from by unfold Qe;rw[if_neg h0];rfl]at CS;have CR:=h_ (fun w u (h:Cy w u ⟨false,xm,xe⟩)=>Qcw (k:=k1) h h0 h64 (by simp only;omega) (by omega));have z1:(m1==0)=false:=by rw[beq_eq_false_iff_ne];exact m10
 have HX:=h_ (And.intro hodd (And.intro h64 sb));have HK:=h_ k10;have HM:=h_ (show -9223372036854775808<m1/\m1<9223372036854775808 by omega);clear hP hg g0 gk gm hk1 hm1 k10 k1l m1l hM hk hM0;obtain⟨dn,dm,de⟩:=x;obtain⟨a1,l1,c1,rfl⟩:=hu.fm;have XX:=h_ hu;clear hu sd sb h0 hodd h64;go_enter Tryz.func81,Tryz.ntmps81;have F0:=h_ (Fx.three w 42 #[.bool dn,.slice a1 l1 c1,.int .i64 de] 133 #[.int .i64 M,.int .i64 (k:Int)] 42 #[.bool false,.slice none 0 0,.int .i64 0] rfl rfl rfl);have X0:=h_ ((((XX.o).alloc (.cells #[.bool dn,.slice a1 l1 c1,.int .i64 de] 42)).alloc (.cells #[.int .i64 M,.int .i64 (k:Int)] 133)).alloc (.cells #[.bool false,.slice none 0 0,.int .i64 0] 42));go_upto_region 1 with(fail)
 generalize alloc (alloc (alloc _ _) _) _=w0 at F0 X0 |-;have c0_0:=F0.o.c3 0 rfl;have c1_0:=F0.o.c2 1 rfl;have c2_0:=F0.o.c3 2 rfl;go_wp2_with fail;refine(CA.o _ _ X0.o).mono ?_;rintro q w1 ⟨u,rfl,hu,hb⟩;have F1:=h_ (F0.o.call hb);have X1:=h_ (X0.o.below hb);have B1:=h_ (hu);have c0_1:=F1.o.c3 0 rfl;have c1_1:=F1.o.c2 1 rfl;have c2_1:=F1.o.c3 2 rfl;obtain⟨a3,k3,c3,rfl⟩:=B1.o.fm;clear hu;go_upto_region 2 with(fail)
 obtain⟨f,p⟩:=F1.o.s3 0 rfl (.bool false) (.slice a3 k3 c3) (.int .i64 xe) rfl rfl rfl;generalize setCell _ _ _=W at f p |-;have F2:=h_ (f);have B2:=h_ (B1.o.kp p);simp only[set_cons_zero]at F2;have c0_2:=F2.o.c3 0 rfl;have c1_2:=F2.o.c2 1 rfl;have c2_2:=F2.o.c3 2 rfl;go_wp2_with fail;refine(CW.o _).mono ?_;rintro q w3 ⟨rfl,hb⟩;have F3:=h_ (F2.o.call hb);have B3:=h_ (B2.o.below hb);have c0_3:=F3.o.c3 0 rfl;have c1_3:=F3.o.c2 1 rfl;have c2_3:=F3.o.c3 2 rfl;go_upto_region 3 with(fail)
 obtain⟨f,p⟩:=F3.o.s2 1 rfl (.int .i64 m1) (.int .i64 (k1:Int)) rfl rfl;generalize setCell _ _ _=W at f p |-;have F4:=h_ (f);have B4:=h_ (B3.o.kp p);simp only[set_cons_zero,set_cons_succ]at F4;have c0_4:=F4.o.c3 0 rfl;have c1_4:=F4.o.c2 1 rfl;have c2_4:=F4.o.c3 2 rfl;go_wp2_with fail;refine(CS.o _ _ B4.o).mono ?_;rintro q w5 ⟨rfl,hb⟩;have F5:=h_ (F4.o.call hb);have B5:=h_ (B4.o.below hb);have c0_5:=F5.o.c3 0 rfl;have c1_5:=F5.o.c2 1 rfl;have c2_5:=F5.o.c3 2 rfl;go_wp2_with fail;refine(CR.o _ _ B5.o).mono ?_;rintro q w6 ⟨v,r,ok,rfl,hu,h1,hb⟩;have F6:=h_ (F5.o.call hb);have B6:=h_ (B5.o.below hb);have R6:=h_ (hu);have c0_6:=F6.o.c3 0 rfl;have c1_6:=F6.o.c2 1 rfl;have c2_6:=F6.o.c3 2 rfl;obtain⟨rn,rm,re⟩:=r;obtain⟨a4,k4,c4,rfl⟩:=R6.o.fm;have H1:=h_ h1;clear h1 hu;go_upto_region 8 with(fail)
 have F7:=h_ (F6.o.new 42 #[.bool rn,.slice a4 k4 c4,.int .i64 re] rfl);have R7:=h_ (R6.o.alloc (.cells #[.bool rn,.slice a4 k4 c4,.int .i64 re] 42));obtain⟨g1,hg1⟩:∃g,g=(World.heap w6).size:=⟨_,rfl⟩
 rw[<-hg1]at F7 |-;clear hg1;simp only[nil_append,cons_append]at F7;generalize alloc w6 _=W7 at F7 R7 |-;have c0_7:=F7.o.c3 0 rfl;have c1_7:=F7.o.c2 1 rfl;have c2_7:=F7.o.c3 2 rfl;have c3_7:=F7.o.c3 3 rfl;cases ok
 case false =>go_wp2;obtain⟨f9,pk⟩:=F7.o.s3 2 rfl (.bool false) (.slice none 0 0) (.int .i64 0) rfl rfl rfl;generalize setCell (setCell (setCell _ _ _) _ _) _ _=W at f9 pk |-;have g1':=f9.c3 2 rfl;refine bodyPost_ret (v:=.tuple #[.agg #[.bool false,.slice none 0 0,.int .i64 0],.bool false,.int .i64 0]) (by simp[results,Tryz.results81,go_sem,g1']) rfl ?_;exact⟨_,_,false,rfl,Cy.zero3 (R7.o.tab.kp pk),nofun,f9.b⟩
 have RO:Qb (Li ⟨false,xm,xe⟩ k1 ⟨rn,rm,re⟩):=H1.o (by trivial);have hre:-100000<=re/\re<=100000:=by
  have h1:re*(k1:Int)=xe:=RO.o.2.2.1;have h2:re.natAbs*k1=xe.natAbs:=by rw[<-h1,Int.natAbs_mul,Int.natAbs_natCast]
  have h3:re.natAbs*1<=re.natAbs*k1:=Nat.mul_le_mul_left _ HK.o;have:=HX.o.2.2;omega
 have CQ:=h_ (fun w u (h:Cy w u ⟨rn,rm,re⟩)=>Qcy h (Ig RO.o.2.1 HX.o.1 HK.o) RO.o.2.2.2.2 hre m1 HM.o);clear hre;go_wp2_with fail;refine(CQ.o _ _ R7.o).mono ?_;rintro q w8 ⟨v,q,ok,rfl,hu,h1,hb⟩;have F8:=h_ (F7.o.call hb);have R8:=h_ (R7.o.below hb);have P8:=h_ (hu);have c0_8:=F8.o.c3 0 rfl;have c1_8:=F8.o.c2 1 rfl;have c2_8:=F8.o.c3 2 rfl;have c3_8:=F8.o.c3 3 rfl;obtain⟨pn,pm,pe⟩:=q;obtain⟨a5,k5,c5,rfl⟩:=P8.o.fm;have H1:=h_ h1;clear h1 hu;go_upto_region 11 with(fail)
 have F9:=h_ (F8.o.new 42 #[.bool pn,.slice a5 k5 c5,.int .i64 pe] rfl);have P9:=h_ (P8.o.alloc (.cells #[.bool pn,.slice a5 k5 c5,.int .i64 pe] 42));obtain⟨g2,hg2⟩:∃g,g=(World.heap w8).size:=⟨_,rfl⟩
 rw[<-hg2]at F9 |-;clear hg2;simp only[nil_append,cons_append]at F9;generalize alloc w8 _=W9 at F9 P9 |-;have c0_9:=F9.o.c3 0 rfl;have c1_9:=F9.o.c2 1 rfl;have c2_9:=F9.o.c3 2 rfl;have c3_9:=F9.o.c3 3 rfl;have c4_9:=F9.o.c3 4 rfl;cases ok
 case false =>go_wp2;obtain⟨f9,pk⟩:=F9.o.s3 2 rfl (.bool false) (.slice none 0 0) (.int .i64 0) rfl rfl rfl;generalize setCell (setCell (setCell _ _ _) _ _) _ _=W at f9 pk |-;have g1':=f9.c3 2 rfl;refine bodyPost_ret (v:=.tuple #[.agg #[.bool false,.slice none 0 0,.int .i64 0],.bool false,.int .i64 0]) (by simp[results,Tryz.results81,go_sem,g1']) rfl ?_;exact⟨_,_,false,rfl,Cy.zero3 (P9.o.tab.kp pk),nofun,f9.b⟩
 have PO:Qb (Sc ⟨rn,rm,re⟩ m1 ⟨pn,pm,pe⟩):=H1.o (by trivial);have pb:Qa ⟨pn,pm,pe⟩=⟨pn,pm,pe⟩:=Yz PO.o.2.2.2.2.2.2 (by have h1:=PO.o.2.2.2.1;have h2:=PO.o.2.2.2.2.1;simp only at h1 h2;omega);have ps:Sw ⟨pn,pm,pe⟩:=⟨Nat.le_trans PO.o.2.2.2.2.2.1 (by decide),by have h1:=PO.o.2.2.2.1;simp only at h1 |-;omega,by have h2:=PO.o.2.2.2.2.1;simp only at h2 |-;omega⟩
 have p0:pm≠0:=by have h2:=PO.o.2.2.2.2.2.2;simp only at h2;omega
 have CB:=h_ (fun w u (h:Cy w u ⟨pn,pm,pe⟩)=>E0 h.ry ps (by rw[pb];exact p0) (by rw[pb];exact Fs PO.o.2.2.2.2.2.2 (by have h1:=PO.o.2.2.2.1;have h2:=PO.o.2.2.2.2.1;simp only at h1 h2;omega)));have CA2:=h_ (fun w u (h:Cy w u ⟨pn,pm,pe⟩)=>Ti h.ry ps);rw[pb]at CB CA2;clear pb ps p0;generalize Wm _ _=br at *
 go_wp2_with fail;refine(CB.o _ _ P9.o).mono ?_;rintro q w10 ⟨rfl,hb⟩;have F10:=h_ (F9.o.call hb);have P10:=h_ (P9.o.below hb);have c0_10:=F10.o.c3 0 rfl;have c1_10:=F10.o.c2 1 rfl;have c2_10:=F10.o.c3 2 rfl;have c3_10:=F10.o.c3 3 rfl;have c4_10:=F10.o.c3 4 rfl;cases br
 case false =>go_wp2;obtain⟨f9,pk⟩:=F10.o.s3 2 rfl (.bool false) (.slice none 0 0) (.int .i64 0) rfl rfl rfl;generalize setCell (setCell (setCell _ _ _) _ _) _ _=W at f9 pk |-;have g1':=f9.c3 2 rfl;refine bodyPost_ret (v:=.tuple #[.agg #[.bool false,.slice none 0 0,.int .i64 0],.bool false,.int .i64 0]) (by simp[results,Tryz.results81,go_sem,g1']) rfl ?_;exact⟨_,_,false,rfl,Cy.zero3 (P10.o.tab.kp pk),nofun,f9.b⟩
 go_wp2_with fail;refine(CA2.o _ _ P10.o).mono ?_;rintro q w11 ⟨u,rfl,hu,hb⟩;have F11:=h_ (F10.o.call hb);have P11:=h_ (P10.o.below hb);have Q11:=h_ (hu);have c0_11:=F11.o.c3 0 rfl;have c1_11:=F11.o.c2 1 rfl;have c2_11:=F11.o.c3 2 rfl;have c3_11:=F11.o.c3 3 rfl;have c4_11:=F11.o.c3 4 rfl;obtain⟨a6,k6,c6,rfl⟩:=Q11.o.fm;clear hu;go_upto_region 14 with(fail)
 obtain⟨f,p⟩:=F11.o.s3 4 rfl (.bool pn) (.slice a6 k6 c6) (.int .i64 pe) rfl rfl rfl;generalize setCell _ _ _=W at f p |-;have F12:=h_ (f);have Q12:=h_ (Q11.o.kp p);simp only[set_cons_zero,set_cons_succ]at F12;have c0_12:=F12.o.c3 0 rfl;have c1_12:=F12.o.c2 1 rfl;have c2_12:=F12.o.c3 2 rfl;have c3_12:=F12.o.c3 3 rfl;have c4_12:=F12.o.c3 4 rfl;go_wp2;obtain⟨f9,pk⟩:=F12.o.s3 2 rfl (.bool pn) (.slice a6 k6 c6) (.int .i64 pe) rfl rfl rfl;generalize setCell (setCell (setCell _ _ _) _ _) _ _=W at f9 pk |-;have g1':=f9.c3 2 rfl;refine bodyPost_ret (v:=.tuple #[.agg #[.bool pn,.slice a6 k6 c6,.int .i64 pe],.bool true,.int .i64 0]) (by simp[results,Tryz.results81,go_sem,g1']) rfl ?_;exact⟨_,⟨pn,pm,pe⟩,true,rfl,Q12.o.kp pk,fun _=>(HP.o _).2 ⟨_,RO.o,PO.o⟩,f9.b⟩
structure Vb(K p:Nat)(d:Dn):Prop where
 lo:-(K:Int)<=d.e
 nz:d.m=0->d.e=0
 b:mz K d<=2^p
theorem Vb.top{K p:Nat}{d:Dn}(h:Vb K p d)(h0:d.m≠0):d.e+K<=p:=by have h1:=h.b;have h2:=h.lo;unfold mz at h1;have h3:2^(d.e+(K:Int)).toNat<=2^p:=Nat.le_trans (Nat.le_mul_of_pos_left _ (by omega)) h1;have h4:=(Nat.pow_le_pow_iff_right (by decide:1<2)).1 h3;omega
theorem Vb.hi{K p:Nat}{d:Dn}(h:Vb K p d):d.e<=max 0 ((p:Int)-K):=by
 by_cases h0:d.m=0
 .rw[h.nz h0];omega
 .have:=h.top h0;omega
theorem Vb.bl{K p:Nat}{d:Dn}(h:Vb K p d):Go.Proofs.YtobpioceopfkpaaGreatDoor.bl d.m<=p+1:=by apply Zp;have h1:=h.b;unfold mz at h1;have h2:d.m<=d.m*2^(d.e+(K:Int)).toNat:=Nat.le_mul_of_pos_right _ (Nat.two_pow_pos _);have h3:2^p<2^(p+1):=Nat.pow_lt_pow_right (by decide) (by omega);omega
theorem Vb.span{K p:Nat}{d:Dn}(h:Vb K p d)(hK:K<=100000)(hp:p<=100000):-100000<=d.e/\d.e<=100000:=by have h1:=h.lo;have h2:=h.hi;omega
theorem Vb.zk{K p:Nat}{d:Dn}(h:Vb K p d)(hK:K<=100000)(hp:p<=100000):Zk K d:=by have:=h.span hK hp;exact⟨h.lo,by omega,by omega⟩
theorem Vb.mono{K p q:Nat}{d:Dn}(h:Vb K p d)(hpq:p<=q):Vb K q d:=⟨h.lo,h.nz,Nat.le_trans h.b (Nat.pow_le_pow_right (by decide) hpq)⟩
theorem Vb.of_bare{K p:Nat}{d:Dn}(hK:K<=100000)(h:-(K:Int)<=d.e/\d.e<=1000000)(hb:mz K d<=2^p):Vb K p (Qa d):=by refine⟨Ut (by omega) h.1 ⟨by omega,by omega⟩,?_,by rw[Vu (by omega) h.1 ⟨by omega,by omega⟩];exact hb⟩;intro h0;rw[Zg (Jq.1 h0)]
theorem Vb.bare{K p:Nat}{d:Dn}(h:Vb K p d)(hK:K<=100000)(hp:p<=100000):Vb K p (Qa d)/\zv K (Qa d)=zv K d:=by have h1:=h.span hK hp;exact⟨Vb.of_bare hK ⟨h.lo,by omega⟩ h.b,Kx (by omega) h.lo ⟨by omega,by omega⟩⟩
theorem Ps(K:Int)(d:Dn):mz K d=(zv K d).natAbs:=by unfold zv;split<;>omega
theorem Qdw{K:Int}{A B:Dn}(hK:0<=K)(ha:-K<=A.e)(hb:-K<=B.e)(hA:-100000<=A.e/\A.e<=100000)(hB:-100000<=B.e/\B.e<=100000)(na:A.m=0->A.e=0)(nb:B.m=0->B.e=0) :
  -K<=(Gu A B).e/\((Gu A B).m=0->(Gu A B).e=0):=by
 unfold Gu;split
 .exact⟨hb,nb⟩
 .split
  .exact⟨ha,na⟩
  .obtain⟨low,hlow⟩:∃low,low=min A.e B.e:=⟨_,rfl⟩
   rw[<-hlow];have key:∀g r,-K<=(Qa ⟨g,r,low⟩).e/\((Qa ⟨g,r,low⟩).m=0->(Qa ⟨g,r,low⟩).e=0):=by intro g r;refine⟨Ut hK (by show -K<=low;omega) ⟨by show -2147483648<=low;omega,by show low<=2147483648;omega⟩,fun h0=>?_⟩;rw[Zg (Jq.1 h0)]
   split
   .exact key _ _
   .split
    .exact key _ _
    .exact key _ _
theorem Vb.add{K p:Nat}{a c:Dn}(ha:Vb K p a)(hc:Vb K p c)(hK:K<=100000)(hp:p<=100000):Vb K (p+1) (Ga a c)/\zv K (Ga a c)=zv K a+zv K c:=by
 obtain⟨a1,a2⟩:=ha.bare hK hp;obtain⟨c1,c2⟩:=hc.bare hK hp;have a3:=a1.span hK hp;have c3:=c1.span hK hp;have hz:zv K (Ga a c)=zv K a+zv K c:=by show zv K (Gu (Qa a) (Qa c))=_;rw[Qhw (by omega) ⟨a1.lo,by omega⟩ ⟨c1.lo,by omega⟩ (by omega),a2,c2]
 obtain⟨l1,l2⟩:=Qdw (K:=(K:Int)) (by omega) a1.lo c1.lo a3 c3 a1.nz c1.nz;refine⟨⟨l1,l2,?_⟩,hz⟩;rw[Ps,hz];have b1:=ha.b;have b2:=hc.b;rw[Ps]at b1 b2;rw[Nat.pow_succ];omega
theorem Vb.mul{K p K' p':Nat}{a c:Dn}(ha:Vb K p a)(hc:Vb K' p' c)(hK:K<=20000)(hp:p<=20000)(hK':K'<=20000)(hp':p'<=20000):Vb (K+K') (p+p') (Xw a c)/\zv (K+K':Nat) (Xw a c)=zv K a*zv K' c/\Go.Proofs.YtobpioceopfkpaaGreatDoor.bl (Xw a c).m<=Go.Proofs.YtobpioceopfkpaaGreatDoor.bl a.m+Go.Proofs.YtobpioceopfkpaaGreatDoor.bl c.m:=by
 obtain⟨a1,a2⟩:=ha.bare (by omega) (by omega);obtain⟨c1,c2⟩:=hc.bare (by omega) (by omega);have a3:=a1.span (by omega) (by omega);have c3:=c1.span (by omega) (by omega);have a4:=a1.hi;have c4:=c1.hi;have a5:=a1.lo;have c5:=c1.lo;have hz0:=Qhv (K:=K) (K':=K') (A:=Qa a) (B:=Qa c) a5 c5;have hle:-((K+K':Nat):Int)<=(Qa a).e+(Qa c).e:=by omega
 have hspan:-2147483648<=(Qa a).e+(Qa c).e/\(Qa a).e+(Qa c).e<=2147483648:=by omega
 have hz1:zv (K+K':Nat) (Xw a c)=zv (K+K':Nat) ⟨(Qa a).neg != (Qa c).neg,(Qa a).m*(Qa c).m,(Qa a).e+(Qa c).e⟩ :=
  Kx (by omega) hle hspan
 have hcast:((K+K':Nat):Int)=(K:Int)+(K':Int):=by omega
 have hz:zv (K+K':Nat) (Xw a c)=zv K a*zv K' c:=by rw[hz1,hcast,hz0,a2,c2]
 refine⟨Vb.of_bare (by omega) ⟨hle,by show(Qa a).e+(Qa c).e<=1000000;omega⟩ ?_,hz,?_⟩
 .rw[Ps,hcast,hz0,a2,c2,Int.natAbs_mul,<-Ps,<-Ps,Nat.pow_add];exact Nat.mul_le_mul ha.b hc.b
 .have k1:=(Ku (n:=(Qa a).neg != (Qa c).neg) (m:=(Qa a).m*(Qa c).m) (e:=(Qa a).e+(Qa c).e) (by omega)).1;have k2:=Wv (Qa a).m (Qa c).m;have k3:Go.Proofs.YtobpioceopfkpaaGreatDoor.bl (Qa a).m<=Go.Proofs.YtobpioceopfkpaaGreatDoor.bl a.m:=(Ku (n:=a.neg) (m:=a.m) (e:=a.e) (by have:=ha.span (by omega) (by omega);omega)).1;have k4:Go.Proofs.YtobpioceopfkpaaGreatDoor.bl (Qa c).m<=Go.Proofs.YtobpioceopfkpaaGreatDoor.bl c.m:=(Ku (n:=c.neg) (m:=c.m) (e:=c.e) (by have:=hc.span (by omega) (by omega);omega)).1;exact Nat.le_trans k1 (by omega)
theorem Hj{n:Bool}{lo hi s p:Nat}(h1:lo<=2^p)(h2:hi<=2^p)(hs:s<=10000)(hp:p<=20000) :
  Vb s p (Zm lo hi (-(s:Int)) n).lo/\Vb s p (Zm lo hi (-(s:Int)) n).hi/\zv s (Zm lo hi (-(s:Int)) n).lo<=zv s (Zm lo hi (-(s:Int)) n).hi:=by
 have key:∀m:Nat,m<=2^p->Vb s p (Qa ⟨n,m,-(s:Int)⟩):=by intro m hm;refine Vb.of_bare (by omega) ⟨by show -(s:Int)≤-(s:Int);omega,by show -(s:Int)<=1000000;omega⟩ ?_;unfold mz;simp only;rw[show(-(s:Int)+(s:Int)).toNat=0 by omega,Nat.pow_zero,Nat.mul_one];exact hm
 have e1:=key lo h1;have e2:=key hi h2;obtain⟨p1,p2⟩:=Uj (P:=Vb s p) e1 e2;refine⟨p1,p2,?_⟩;unfold Zm;have hc:=Wb (K:=s) (by omega) (e1.zk (by omega) (by omega)) (e2.zk (by omega) (by omega));split
 .rename_i h;rw[hc,Xg]at h;exact Int.le_of_lt h
 .rename_i h;rw[hc,Xg]at h;exact Int.not_lt.1 h
theorem Mr{s:Nat}(hs:s<=3000):(s+3)*2^s<=2^(s+12):=by rw[Nat.pow_add,Nat.mul_comm];exact Nat.mul_le_mul_left _ (by omega)
theorem p24(s:Nat):(2^(s+12)+2^(s+12))*2048=2^(s+24):=by rw[<-Nat.mul_two,Nat.mul_assoc,show s+24=s+12+12 from rfl,Nat.pow_add 2 (s+12) 12]
theorem Ee{m s:Nat}(h0:m≠0)(hs:s<=3000):Vb s (s+13) (Vk m s).lo/\Vb s (s+13) (Vk m s).hi/\zv s (Vk m s).lo<=zv s (Vk m s).hi:=by
 obtain⟨g1,g2,g3⟩:=Tr h0;have h:=Kb (num:=if m<Qs m then Qs m-m else m-Qs m) (den:=m+Qs m) (s:=s) (by omega) g1;have h2:=Mr hs;have h3:2^(s+12)*2=2^(s+13):=(Nat.pow_succ (n:=2) (m:=s+12)).symm;unfold Vk;generalize (if m<Qs m then Qs m-m else m-Qs m)=num at *
 generalize decide (m<Qs m)=neg;generalize (Qd num (m+Qs m) s).lo=a at *
 generalize (Qd num (m+Qs m) s).hi=b at *
 have k1:a*2<=2^(s+13):=Nat.le_trans (Nat.mul_le_mul_right 2 (Nat.le_trans h.1 h2)) (Nat.le_of_eq h3);have k2:b*2<=2^(s+13):=Nat.le_trans (Nat.mul_le_mul_right 2 (Nat.le_trans h.2 h2)) (Nat.le_of_eq h3);exact Hj k1 k2 (by omega) (by omega)
theorem Ed{E:Int}{s:Nat}(hE:E.natAbs<=2048)(hs:s<=3000):Vb s (s+24) (Vj E s).lo/\Vb s (s+24) (Vj E s).hi/\zv s (Vj E s).lo<=zv s (Vj E s).hi:=by
 have h:=Kb (num:=1) (den:=3) (s:=s) (by decide) (by decide);have h2:=Mr hs;have h3:=p24 s;unfold Vj;generalize (Qd 1 3 s).lo=a at *
 generalize (Qd 1 3 s).hi=b at *
 have k1:(a+a)*E.natAbs<=2^(s+24):=Nat.le_trans (Nat.mul_le_mul (Nat.add_le_add (Nat.le_trans h.1 h2) (Nat.le_trans h.1 h2)) hE) (Nat.le_of_eq h3);have k2:(b+b)*E.natAbs<=2^(s+24):=Nat.le_trans (Nat.mul_le_mul (Nat.add_le_add (Nat.le_trans h.2 h2) (Nat.le_trans h.2 h2)) hE) (Nat.le_of_eq h3);exact Hj k1 k2 (by omega) (by omega)
theorem Re{m s:Nat}{t:Int}(h0:m≠0)(hE:(Xl m t).natAbs<=2048)(hs:s<=3000):Vb s (s+25) (Xv m t s).lo/\Vb s (s+25) (Xv m t s).hi/\zv s (Xv m t s).lo<=zv s (Xv m t s).hi /\
  zv s (Xv m t s).lo=zv s (Vk m s).lo+zv s (Vj (Xl m t) s).lo/\zv s (Xv m t s).hi=zv s (Vk m s).hi+zv s (Vj (Xl m t) s).hi:=by
 have hx:=Ee h0 hs;have hy:=Ed hE hs;unfold Xv;generalize Vk m s=X at *
 generalize Vj (Xl m t) s=Y at *
 obtain⟨x1,x2,x3⟩:=hx;obtain⟨y1,y2,y3⟩:=hy;obtain⟨X1,X2⟩:=X;obtain⟨Y1,Y2⟩:=Y;simp only at x1 x2 x3 y1 y2 y3 |-;obtain⟨s1,s2⟩:=(x1.mono (by omega:s+13<=s+24)).add y1 (by omega) (by omega);obtain⟨t1,t2⟩:=(x2.mono (by omega:s+13<=s+24)).add y2 (by omega) (by omega);refine⟨s1,t1,?_,s2,t2⟩;rw[s2,t2];omega
theorem Qi8{f:Nat}:∀{n:Nat} {S T Q:Pr} {s:Nat},S.lo<=(Kc f n S T Q s).1.lo:=by
 induction f with
 | zero=>intro n S T Q s;exact Nat.le_refl _
 | succ f ih =>
  intro n S T Q s;rw[Kc];split
  .exact Nat.le_refl _
  .exact Nat.le_trans (show S.lo<=(Jv S (Jk T n)).lo from Nat.le_add_right _ _) ih
theorem Ef{s:Nat}(hs:8<=s):2^s<=((Qd 1 3 s).lo+(Qd 1 3 s).lo)*2:=by
 have h8:2^8<=2^s:=Nat.pow_le_pow_right (by decide) hs;have hf:(Qt 1 3 s).lo=2^s/3:=by unfold Qt;simp only[Nat.one_mul]
 have h1:(Qt 1 3 s).lo<=(Qd 1 3 s).lo:=by
  unfold Qd;rw[if_neg (by decide)];show _<=(Kc (s+1) 1 ⟨0,0⟩ (Qt 1 3 s) (Qn (Qt 1 3 s) (Qt 1 3 s) s) s).1.lo;rw[Kc,if_neg (by rw[hf];generalize 2^s=P at *;omega)];have h2:=Qi8 (f:=s) (n:=1+2) (S:=Jv ⟨0,0⟩ (Jk (Qt 1 3 s) 1)) (T:=Qn (Qt 1 3 s) (Qn (Qt 1 3 s) (Qt 1 3 s) s) s) (Q:=Qn (Qt 1 3 s) (Qt 1 3 s) s) (s:=s);have h3:(Jv ⟨0,0⟩ (Jk (Qt 1 3 s) 1)).lo=(Qt 1 3 s).lo:=by show 0+(Qt 1 3 s).lo/1=_;rw[Nat.div_one,Nat.zero_add]
  rw[h3]at h2;exact h2
 rw[hf]at h1;generalize (Qd 1 3 s).lo=c at *
 generalize 2^s=P at *
 omega
theorem Mc{a b n:Nat}(h:a<=b):a/n<=if b%n=0 then b/n else b/n+1:=by have h1:a/n<=b/n:=Nat.div_le_div_right h;split<;>omega
theorem Qg4{f:Nat}:∀{n:Nat} {S T Q:Pr} {s:Nat},S.lo<=S.hi->T.lo<=T.hi->Q.lo<=Q.hi->(Kc f n S T Q s).1.lo<=(Kc f n S T Q s).1.hi:=by
 induction f with
 | zero=>intro n S T Q s h _ _;exact h
 | succ f ih =>
  intro n S T Q s h1 h2 h3;rw[Kc];split
  .exact h1
  .exact ih (Nat.add_le_add h1 (Mc h2)) (Mc (Nat.mul_le_mul h2 h3)) h3
theorem Qgb(s:Nat):(Qd 1 3 s).lo<=(Qd 1 3 s).hi:=by have hf:(Qt 1 3 s).lo<=(Qt 1 3 s).hi:=Mc (Nat.le_refl _);have hq:(Qn (Qt 1 3 s) (Qt 1 3 s) s).lo<=(Qn (Qt 1 3 s) (Qt 1 3 s) s).hi:=Mc (Nat.mul_le_mul hf hf);have h:=Qg4 (f:=s+1) (n:=1) (S:=⟨0,0⟩) (s:=s) (Nat.le_refl _) hf hq;unfold Qd;rw[if_neg (by decide)];exact Nat.le_trans h (Nat.le_add_right _ _)
theorem Qga{s:Nat}(hs:s<=3000):(Qd 1 3 s).hi<=2^(s+12):=Nat.le_trans (Kb (num:=1) (den:=3) (by decide) (by decide)).2 (Mr hs)
theorem Ux.bound{s:Nat}{R:Pr×Pr}:∀{f n i:Nat} {S T X:Pr},Ux s R n i f S T X->R.1.lo<=(s+4)*2^s/\R.1.hi<=(s+4)*2^s/\R.2.lo<=2^s/\R.2.hi<=2^s:=by
 intro f
 induction f with
 | zero=>intro n i S T X h;have:=h.f2;omega
 | succ f ih =>
  intro n i S T X h;have hi:i+1<=s+3:=by have:=h.hf;omega
  have hm:(i+1)*2^s<=(s+3)*2^s:=Nat.mul_le_mul_right _ hi;have e1:(s+4)*2^s=(s+3)*2^s+2^s:=by rw[show s+4=(s+3)+1 from rfl,Nat.add_mul,Nat.one_mul]
  by_cases h0:T.lo=0/\X.hi=0
  .rw[h.done h0,e1];exact⟨Nat.le_trans h.hS.1 (Nat.le_trans hm (Nat.le_add_right _ _)),Nat.le_trans h.hS.2 (Nat.le_trans hm (Nat.le_add_right _ _)),h.hT.1,h.hT.2⟩
  .obtain⟨f',he,h2,h3⟩:=h.step h0;have ht:=Un (s:=s) h.hT h.hX;have hby:=Ss (p:=Qn T X s) (n:=n) (B:=2^s) (by have:=h.hn;omega) ht;by_cases h4:(Jk (Qn T X s) n).hi<=1
   .rw[h2 h4,e1];exact⟨Nat.add_le_add (Nat.le_trans h.hS.1 hm) hby.1,Nat.add_le_add (Nat.le_trans h.hS.2 hm) hby.2,hby.1,hby.2⟩
   .obtain rfl:f=f':=by omega
    exact ih (h3 (by omega))
theorem Ek{a b s:Nat}(ha:a<=2^s)(hb:b<=2^s):(Xj a b s).lo<=(s+6)*2^s/\(Xj a b s).hi<=(s+6)*2^s:=by
 obtain⟨h1,h2,h3,h4⟩:=(Ux.start ha hb).bound;have e1:(s+6)*2^s=(s+4)*2^s+(2^s+2^s):=by rw[show s+6=(s+4)+2 from rfl,Nat.add_mul,Nat.two_mul]
 unfold Xj Yi;rw[e1];exact⟨Nat.le_trans h1 (Nat.le_add_right _ _),Nat.add_le_add h2 (Nat.add_le_add h4 h4)⟩
theorem Qay{s:Nat}(hs:s<=3000):(s+6)*2^s<=2^(s+12):=by rw[Nat.pow_add,Nat.mul_comm];exact Nat.mul_le_mul_left _ (by omega)
theorem Ft(m:Nat)(e:Int)(more:Bool)(z:Int):Wh m e more z=0\/Wh m e more z=1\/Wh m e more z=3\/Wh m e more z=5:=by
 unfold Wh
 repeat' split
 all_goals omega
theorem Qel{f:Int}(h:f=0\/f=1\/f=3\/f=5):Go.bits .or .u8 f 1≠0:=by rcases h with rfl|rfl|rfl|rfl<;>decide
theorem Qh1{m:Nat}{e:Int}{z:Int}(hodd:m%2=1)(hb:Wm m e=false):Wh m e false z≠0:=by
 unfold Wh;unfold Wm at hb;by_cases h1:1023<(bl m:Int)-1+e
 .rw[if_pos h1];decide
 rw[if_neg h1]at hb |-;by_cases h2:(bl m:Int)-1+e < -1075
 .rw[if_pos h2];decide
 rw[if_neg h2];have hb:=of_decide_eq_false hb;generalize Zq ((bl m:Int)-1+e)=u at *
 have hn:¬u-e<=0:=by omega
 have hw:(Xf m (u-e) z false).2=true:=by
  unfold Xf Zh;rw[if_neg hn];simp only[Bool.or_false];obtain⟨k,hk⟩:∃k:Nat,(u-e).toNat-1=k+1:=⟨(u-e).toNat-2,by omega⟩
  rw[hk];have:m%2^(k+1)≠0:=by intro h;have h3:2∣m:=Nat.dvd_trans ⟨2^k,by rw[Nat.pow_succ,Nat.mul_comm]⟩ (Nat.dvd_of_mod_eq_zero h);omega
  simp[this]
 rw[hw]
 repeat' split
 all_goals first|decide|(exfalso;simp at *)
end Go.Proofs.YtobpioceopfkpaaGreatDoor
