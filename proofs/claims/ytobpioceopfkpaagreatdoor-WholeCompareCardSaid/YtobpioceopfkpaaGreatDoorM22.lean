/-
  Lemmas for WholeCompare (part 22); without conditions.
-/
import Derived.Test.YtobpioceopfkpaaGreatDoorM20
set_option maxRecDepth 100000
set_option maxHeartbeats 4000000
namespace Go.Proofs.YtobpioceopfkpaaGreatDoor
open Go.RowKit
open World (setCell alloc drew)
open List (set_cons_zero set_cons_succ setIfInBounds_toArray cons_append nil_append)
def Ro(w:World)(b i:Nat):Nat:=match w.cell? ⟨b,i,none⟩with
 | some v=>(intOf v).toNat
 | none=>0
def Ir(w:World)(b:Nat):Nat->Nat->Nat
 | _,0=>0
 | o,n+1=>Ro w b o+18446744073709551616*Ir w b (o+1) n
def Qi2(w:World):Value->Nat
 | .slice (some a) n _=>Ir w a.block a.off n
 | _=>0
theorem Qgu{w:World}{b:Nat}(L:List Nat):∀o:Nat,(∀(i x:Nat),L[i]?=some x->w.cell? ⟨b,o+i,none⟩=some (.int .u64 (x:Int)))->Ir w b o L.length=Qc L:=by
 induction L with
 | nil=>intro o _;rfl
 | cons x xs ih =>
  intro o h;have h0:=h 0 x rfl;have h1:=ih (o+1) (fun i y hy=>by have:=h (i+1) y hy;rwa[show o+(i+1)=o+1+i by omega]at this);show Ro w b o+18446744073709551616*Ir w b (o+1) xs.length=x+18446744073709551616*Qc xs;rw[h1];have h2:Ro w b o=x:=by
   unfold Ro
   rw[Nat.add_zero]at h0;rw[h0];simp[intOf]
  rw[h2]
theorem Dg.dec{w:World}{v:Value}{n:Nat}(h:Dg w v n):Qi2 w v=n:=by
 obtain⟨L,h1,h2⟩:=h;obtain⟨a,c,rfl,h3⟩:=h1.sl.form;rw[<-h2.val];cases L with
 | nil=>cases a<;>rfl
 | cons x xs =>
  obtain⟨b,o,rfl,h4⟩:=h3 (by simp);exact Qgu (x :: xs) o h4
def Uy(a x k:Nat):Nat:=(x*(k-1)+a/x^(k-1))/k
theorem Qfq{a x k:Nat}(ha:a<18446744073709551616)(hx:x<18446744073709551616)(hk:k<=64):bl (Uy a x k)<=71:=by
 unfold Uy;have h1:=Nat.div_le_self (x*(k-1)+a/x^(k-1)) k;have h2:=Nat.div_le_self a (x^(k-1));have h3:x*(k-1)<=x*64:=Nat.mul_le_mul_left _ (by omega);generalize a/x^(k-1)=q at *
 generalize x*(k-1)=y at *
 generalize (y+q)/k=z at *
 exact Zp (k:=71) (by omega)
theorem Qcq{a x k:Nat}(ha:a≠0)(hx:x≠0)(hk:2<=k):Uy a x k≠0:=by
 unfold Uy;have h:k<=x*(k-1)+a/x^(k-1):=by
  by_cases h1:x=1
  .subst h1;rw[Nat.one_pow,Nat.div_one];omega
  .have h2:2*(k-1)<=x*(k-1):=Nat.mul_le_mul_right _ (by omega);generalize a/x^(k-1)=q;generalize x*(k-1)=y at *
   omega
 have:=Nat.div_pos h (by omega);omega
theorem Qh4{w:World}{u v:Value}{a x k:Nat}(hu:Dg w u a)(hv:Dg w v x)(ba:a<18446744073709551616)(bx:x<18446744073709551616)(h0:x≠0)(hk:2<=k/\k<=64) :
  Calls Tryz.prog 185 #[u,v,.int .i64 (k:Int)] w (J2 (Uy a x k) w):=by
 obtain⟨j,rfl⟩:∃j,k=j+1:=⟨k-1,by omega⟩
 obtain⟨hk1,hk2⟩:=hk;have la:=Zs ba;have lx:=Zs bx;have lp:j*bl x<=4096:=Nat.le_trans (Nat.mul_le_mul (by omega:j<=64) lx) (by decide);unfold Uy;rw[show j+1-1=j from rfl];have bp:bl (x^j)<=5000:=Nat.le_trans (Uo x j) (by omega);have p0:0<x^j:=Nat.pos_of_ne_zero (by intro h;exact h0 (Nat.pow_eq_zero.1 h).1);have bq:bl (a/x^j)<=64:=Nat.le_trans (Zc (Nat.div_le_self _ _)) la;have bm:bl (x*j)<=200:=Nat.le_trans (Wv _ _) (by have:=Zs (x:=j) (by omega);omega);have bs:bl (x*j+a/x^j)<=201:=by
  apply Zp;have h1:=Zb (x*j);have h2:=Zb (a/x^j);have h3:2^bl (x*j)<=2^200:=Nat.pow_le_pow_right (by decide) (by omega);have h4:2^bl (a/x^j)<=2^200:=Nat.pow_le_pow_right (by decide) (by omega);have h5:2^201=2^200*2:=Nat.pow_succ 2 200;generalize 2^200=P at *
  generalize 2^201=P2 at *
  omega
 have CP:=h_ (fun w v (h:Dg w v x)=>Oe (k:=j) (h.rd (by omega)) (by omega) (by omega) bx);have CD:=h_ (fun w u v (h:Dg w u a) (k:Dg w v (x^j))=>On (h.rd (by omega)) (k.rd (by omega)) p0 (by omega) (by omega));have CT:=h_ (fun w v (h:Dg w v x)=>Lo (n:=j) (h.rd (by omega)) (by omega) (by omega));have CA:=h_ (fun w u v (h:Dg w u (x*j)) (k:Dg w v (a/x^j))=>Xd (h.rd (by omega)) (k.rd (by omega)));have CS:=h_ (fun w u (h:Dg w u (x*j+a/x^j))=>Tf (n:=j+1) (h.rd (by omega)) (by omega) (by omega));have e0:((j+1:Nat):Int)-1=(j:Int):=by omega
 have e1:IntKind.i64.wrap (j:Int)=(j:Int):=IntWalk.i64_in _ (by omega);have e2:IntKind.u64.wrap (j:Int)=(j:Int):=by rw[IntKind.wrap_u64];omega
 obtain⟨kk,hkk⟩:∃kk:Int,kk=((j+1:Nat):Int):=⟨_,rfl⟩
 have e3:IntKind.u64.wrap kk=kk:=by rw[IntKind.wrap_u64];omega
 rw[<-hkk]at e0 CS ⊢;have HU:=h_ hu;have HV:=h_ hv;clear hkk hu hv ba bx h0 hk1 hk2 la lx lp bp p0 bq bm bs;generalize x^j=p at *
 generalize a/p=q at *
 generalize x*j=m at *
 have A0:=HU;have X0:=HV;have F0:=h_ (Fz.nil w);go_enter Tryz.func185,Tryz.ntmps185;go_wp2_with fail;refine(CP.o _ _ X0.o).mono ?_;rintro q w1 ⟨u1,rfl,hu,hb⟩;have F1:=h_ (F0.o.call hb);have A1:=h_ (A0.o.below hb);have X1:=h_ (X0.o.below hb);clear F0 A0 X0;have P1:=h_ (hu);go_wp2_with fail;refine(CD.o _ _ _ A1.o P1.o).mono ?_;rintro q w2 ⟨u2,u3,rfl,hu,-,hb⟩;have F2:=h_ (F1.o.call hb);have A2:=h_ (A1.o.below hb);have X2:=h_ (X1.o.below hb);have P2:=h_ (P1.o.below hb);have Q2:=h_ (hu);go_wp2_with fail;refine(CT.o _ _ X2.o).mono ?_;rintro q w3 ⟨u4,rfl,hu,hb⟩;have F3:=h_ (F2.o.call hb);have A3:=h_ (A2.o.below hb);have X3:=h_ (X2.o.below hb);have P3:=h_ (P2.o.below hb);have Q3:=h_ (Q2.o.below hb);have M3:=h_ (hu);go_wp2_with fail;refine(CA.o _ _ _ M3.o Q3.o).mono ?_;rintro q w4 ⟨u5,rfl,hu,hb⟩;have F4:=h_ (F3.o.call hb);have A4:=h_ (A3.o.below hb);have X4:=h_ (X3.o.below hb);have P4:=h_ (P3.o.below hb);have Q4:=h_ (Q3.o.below hb);have M4:=h_ (M3.o.below hb);have S4:=h_ (hu);go_wp2_with fail;refine(CS.o _ _ S4.o).mono ?_;rintro q w5 ⟨u6,rfl,hu,hb⟩;have F5:=h_ (F4.o.call hb);have A5:=h_ (A4.o.below hb);have X5:=h_ (X4.o.below hb);have P5:=h_ (P4.o.below hb);have Q5:=h_ (Q4.o.below hb);have M5:=h_ (M4.o.below hb);have S5:=h_ (S4.o.below hb);have R5:=h_ (hu);go_wp2;go_ret;exact⟨_,rfl,R5.o,F5.o.b⟩
theorem Qgi{w:World}{u:Value}{a k:Nat}(hu:Dg w u a)(ba:a<18446744073709551616)(h0:a≠0)(hk:2<=k/\k<=64) :
  Calls Tryz.prog 176 #[u,.int .i64 (k:Int)] w fun e w'=>∃v r,e=.returned v/\Dg w' v r/\r≠0/\r<17179869184/\Below w.heap.size w w':=by
 obtain⟨hk1,hk2⟩:=hk;have la:=Zs ba;have CB:=h_ (fun w u (h:Dg w u a)=>Xh (h.rd (by omega)));have C1:=h_ (fun w (t:Qq w)=>(show Calls Tryz.prog 124 #[.int .u64 1] w (J2 1 w)from Zu (n:=1) (by decide) t));obtain⟨b,hb⟩:∃b,b=bl a:=⟨_,rfl⟩
 rw[<-hb]at CB la;have A0:=h_ hu;have F0:=h_ (Fz.nil w);have HA:=h_ (And.intro h0 ba);have HK:=h_ (And.intro hk1 hk2);clear hu hb h0 ba;go_enter Tryz.func176,Tryz.ntmps176;go_wp2_with fail;refine(CB.o _ _ A0.o).mono ?_;rintro q w1 ⟨rfl,hb⟩;have F1:=h_ (F0.o.call hb);have A1:=h_ (A0.o.below hb);clear hb;by_cases hkb:b<=k
 .have z1:decide ((b:Int)<=(k:Int))=true:=decide_eq_true (by omega);have z2:decide (b<=k)=true:=decide_eq_true hkb;go_wp2_with fail;refine(C1.o _ A1.o.tab).mono ?_;rintro q w2 ⟨u1,rfl,hu,hb⟩;have F2:=h_ (F1.o.call hb);have A2:=h_ (A1.o.below hb);have R2:=h_ (hu);clear hb;go_wp2;go_ret;exact⟨_,1,rfl,R2.o,by decide,by decide,F2.o.b⟩
 have z1:decide ((b:Int)<=(k:Int))=false:=decide_eq_false (by omega);have z2:decide (b<=k)=false:=decide_eq_false hkb;obtain⟨q,hq⟩:∃q,q=(b+k-1)/k:=⟨_,rfl⟩
 have hq1:q<=33:=by have h1:(b+k-1)/k<=(b+k-1)/1:=Nat.div_le_div_left (by omega) (by decide);have h2:q*k<=b+k-1:=hq▸Nat.div_mul_le_self _ _;apply Nat.not_lt.1;intro hc;have h3:34*k<=q*k:=Nat.mul_le_mul_right _ hc;omega
 have hk0:¬(k:Int)=0:=by omega
 have hk00:((k:Int)==0)=false:=by rw[beq_eq_false_iff_ne];exact hk0
 have hk000:¬k=0:=by omega
 have hk0000:(k==0)=false:=by rw[beq_eq_false_iff_ne];exact hk000
 obtain⟨bk,hbk⟩:∃bk:Int,bk=(b:Int)+(k:Int):=⟨_,rfl⟩
 obtain⟨bk1,hbk1⟩:∃bk1:Int,bk1=bk-1:=⟨_,rfl⟩
 have e1:(b:Int)+(k:Int)=bk:=hbk.symm;have e2:IntKind.i64.wrap bk=bk:=IntWalk.i64_in _ (by omega);have e3:bk-1=bk1:=hbk1.symm;have e4:IntKind.i64.wrap bk1=bk1:=IntWalk.i64_in _ (by omega);have e5:bk1.tdiv (k:Int)=(q:Int):=by rw[hbk1,hbk,hq,show(b:Int)+(k:Int)-1=((b+k-1:Nat):Int)by omega];rfl
 have e6:IntKind.i64.wrap (q:Int)=(q:Int):=IntWalk.i64_in _ (by omega);have CS:=h_ (fun w u (h:Dg w u 1)=>Yh (h.rd (by decide)) q (by have:bl 1=1:=rfl;omega));rw[Nat.one_mul]at CS;have hx1:2^q<17179869184:=Nat.lt_of_le_of_lt (Nat.pow_le_pow_right (by decide) hq1) (by decide);have hx0:2^q≠0:=by have:=Nat.two_pow_pos q;omega
 generalize 2^q=x at *
 have HX:=h_ (And.intro hx0 hx1);clear hx0 hx1 hq1 hbk hbk1 hq;go_upto_region 4 with(fail)
 have FCD:=h_ ((A1.o.drew))
 go_region_held3 (fun w'=>Dg w' u a) (first|with_reducible exact FCD.o|with_reducible exact FC.o) (first|(go_at_call 125;(with_reducible refine(CS.o _ _ O2.o).mono ?_);rintro q ww3 ⟨u2,rfl,hu,hb⟩;have F3:=h_ (F2.o.call hb);have A3:=h_ (A2.o.below hb);have O3:=h_ (O2.o.below hb);have X3:=h_ (hu);have FC:=h_ (A3.o);clear hb)|(go_at_call 124;(with_reducible refine(C1.o _ (A1.o.drew).tab).mono ?_);rintro q ww2 ⟨u1,rfl,hu,hb⟩;have F2:=h_ ((F1.o.drew).call hb);have A2:=h_ ((A1.o.drew).below hb);have O2:=h_ (hu);have FC:=h_ (A2.o);clear hb))
 go_wp2;have B0:=h_ (show x<=x from Nat.le_refl _)
 go_loopw [6] (fun ta wr=>∃x:Nat,Qb (x≠0/\x<17179869184)/\Qb (Dg wr ta x)/\Qb (Dg wr u a)/\Qb (Fz w wr [])) (fun ta wr=>Qi2 wr ta)
 case atStart=>exact⟨x,HX,X3,A3,F3⟩
 case round =>
  obtain⟨x,hI,hX,hA,hF⟩:=hrel;have hm:=h_ hX.o.dec;have CT:=h_ (fun w v (hv:Dg w v x) (ha:Dg w u a)=>Qh4 (k:=k) ha hv HA.o.2 (Nat.lt_trans hI.o.2 (by decide)) hI.o.1 HK.o);have hy0:Uy a x k≠0:=Qcq HA.o.1 hI.o.1 HK.o.1;have HYB:Qb (bl (Uy a x k)<=71):=Qfq HA.o.2 (Nat.lt_trans hI.o.2 (by decide)) HK.o.2;generalize Uy a x k=y at *
  have HY:=h_ hy0;clear hy0;go_wp2_with fail;refine(CT.o _ _ hX.o hA.o).mono ?_;rintro e w5 ⟨u5,rfl,h5,hb⟩;have Y5:=h_ h5;have X5:=h_ (hX.o.below hb);have A5:=h_ (hA.o.below hb);have F5:=h_ (hF.o.call hb);clear h5 hb hX hA hF CT;by_cases hyx:y<x
  .have by':bl y<=64:=Zs (Nat.lt_trans hyx (Nat.lt_trans hI.o.2 (by decide)));have bx':bl x<=64:=Zs (Nat.lt_trans hI.o.2 (by decide));have CC:=h_ (fun w u v (h:Dg w u y) (k:Dg w v x)=>Kw (h.rd (Nat.le_trans by' (by decide))) (k.rd (Nat.le_trans bx' (by decide))));have hc:Qm y x=-1:=by unfold Qm;simp[hyx]
   rw[hc]at CC;clear hc by' bx';go_wp2_with fail;refine(CC.o _ _ _ Y5.o X5.o).mono ?_;rintro e w6 ⟨rfl,hb⟩;have Y6:=h_ (Y5.o.below hb);have A6:=h_ (A5.o.below hb);have F6:=h_ (F5.o.call hb);clear hb Y5 A5 F5 X5;have hYY:Qb (y≠0/\y<17179869184):=⟨HY.o,Nat.lt_trans hyx hI.o.2⟩
   go_wp2;go_roundw
   case rel=>exact⟨y,hYY,Y6,A6,F6⟩
   case measure=>rw[hm.o,Y6.o.dec];exact hyx
  .have by':=HYB.o;have bx':bl x<=64:=Zs (Nat.lt_trans hI.o.2 (by decide));have CC:=h_ (fun w u v (h:Dg w u y) (k:Dg w v x)=>Kw (h.rd (Nat.le_trans by' (by decide))) (k.rd (Nat.le_trans bx' (by decide))));have hc:(0:Int)<=Qm y x:=by unfold Qm;simp[hyx];split<;>decide
   generalize Qm y x=c at *
   have hc1:decide ((0:Int)<=c)=true:=decide_eq_true hc;clear by' bx';go_wp2_with fail;refine(CC.o _ _ _ Y5.o X5.o).mono ?_;rintro e w6 ⟨rfl,hb⟩;have X6:=h_ (X5.o.below hb);have F6:=h_ (F5.o.call hb);clear hb Y5 A5 F5 X5;go_wp2;go_ret;exact⟨_,x,rfl,X6.o,hI.o.1,hI.o.2,F6.o.b⟩
theorem Qje{w:World}{u:Value}{a k:Nat}(hu:Dg w u a)(ba:a<18446744073709551616)(h0:a≠0)(hk:2<=k/\k<=64) :
  Calls Tryz.prog 150 #[u,.int .i64 (k:Int)] w fun e w'=>∃v r is,e=.returned (.tuple #[v,.bool is,.int .i64 0])/\Dg w' v r/\(is=true->r^k=a)/\r≠0/\r<17179869184/\Below w.heap.size w w':=by
 have la:=Zs ba;have LA:Qb (bl a<=64):=la;have CB:=h_ (fun w u (h:Dg w u a)=>Kt (h.rd (by omega)));have CL:=h_ (fun w u (h:Dg w u a)=>Xh (h.rd (by omega)));have CF:=h_ (fun w u (h:Dg w u a)=>Qgi h ba h0 hk);obtain⟨b,hb⟩:∃b,b=bl a:=⟨_,rfl⟩
 rw[<-hb]at CL la;have A0:=h_ hu;have F0:=h_ (Fz.nil w);have HA:=h_ (And.intro h0 ba);have HK:=h_ hk;have z1:decide ((k:Int)<1)=false:=decide_eq_false (by omega);have z2:decide (k<1)=false:=decide_eq_false (by omega);have z3:decide ((8192:Int)<(b:Int))=false:=decide_eq_false (by omega);have z4:decide (8192<b)=false:=decide_eq_false (by omega);have z5:((k:Int)==1)=false:=by rw[beq_eq_false_iff_ne];omega
 have z6:¬(k:Int)=1:=by omega
 have z7:¬k=1:=by omega
 clear hu hb h0 ba hk;go_enter Tryz.func150,Tryz.ntmps150;go_wp2_with fail;refine(CB.o _ _ A0.o).mono ?_;rintro q w1 ⟨u1,rfl,hu,hb⟩;have F1:=h_ (F0.o.call hb);have A1:=h_ (A0.o.below hb);have B1:=h_ (hu);clear hb;go_wp2_with fail;refine(CL.o _ _ B1.o).mono ?_;rintro q w2 ⟨rfl,hb⟩;have F2:=h_ (F1.o.call hb);have B2:=h_ (B1.o.below hb);clear hb;obtain⟨a1,l1,c1,rfl⟩:=B2.o.form;have y1:¬l1=0:=fun h=>HA.o.1 (B2.o.len0.2 h);have y2:((l1:Int)==0)=false:=by rw[beq_eq_false_iff_ne];omega
 have y3:(l1==0)=false:=by rw[beq_eq_false_iff_ne];exact y1
 go_wp2_with fail;refine(CF.o _ _ B2.o).mono ?_;rintro q w3 ⟨v,r,rfl,hu,h1,h2,hb⟩;have F3:=h_ (F2.o.call hb);have B3:=h_ (B2.o.below hb);have R3:=h_ (hu);clear hb;have HR:=h_ (And.intro h1 h2);clear h1 h2 hu;have lr:bl r<=34:=Zp (k:=34) HR.o.2;have lk:k*bl r<=2176:=Nat.le_trans (Nat.mul_le_mul HK.o.2 lr) (by decide);have CP:=h_ (fun w v (h:Dg w v r)=>Oe (k:=k) (h.rd (by omega)) (by omega) (by have:=HK.o.2;omega) (Nat.lt_trans HR.o.2 (by decide)));have lp:bl (r^k)<=3000:=Nat.le_trans (Uo r k) (by omega);obtain⟨p,hp⟩:∃p,p=r^k:=⟨_,rfl⟩
 rw[<-hp]at CP lp;have CC:=h_ (fun w u v (h:Dg w u p) (k:Dg w v a)=>Kw (h.rd (by omega)) (k.rd (Nat.le_trans LA.o (by decide))));have HPP:=h_ hp;clear hp lr lk lp la;go_wp2_with fail;refine(CP.o _ _ R3.o).mono ?_;rintro q w4 ⟨u2,rfl,hu,hb⟩;have F4:=h_ (F3.o.call hb);have B4:=h_ (B3.o.below hb);have R4:=h_ (R3.o.below hb);have P4:=h_ (hu);clear hb;go_wp2_with fail;refine(CC.o _ _ _ P4.o B4.o).mono ?_;rintro q w5 ⟨rfl,hb⟩;have F5:=h_ (F4.o.call hb);have B5:=h_ (B4.o.below hb);have R5:=h_ (R4.o.below hb);have P5:=h_ (P4.o.below hb);clear hb;have hc:∃is:Bool,(Qm p a==0)=is/\(is=true->p=a):=⟨_,rfl,fun h=>by unfold Qm at h;split at h<;>first|(exfalso;revert h;decide)|(split at h<;>first|(exfalso;revert h;decide)|omega)⟩
 obtain⟨is,his,hpa⟩:=hc;have HI:=h_ hpa;clear hpa;generalize Qm p a=c at *
 go_wp2;refine bodyPost_ret (v:=.tuple #[v,.bool is,.int .i64 0]) (by simp[results,Tryz.results150,go_sem]) rfl ?_;exact⟨v,r,is,rfl,R5.o,fun h=>by rw[<-HPP.o];exact HI.o h,HR.o.1,HR.o.2,F5.o.b⟩
theorem Qfr(w:World)(e m:Int)(he:-1000000<=e/\e<=1000000)(hm:-9223372036854775808<m/\m<9223372036854775808) :
  Calls Tryz.prog 151 #[.int .i64 e,.int .i64 m] w fun q w'=>q=.returned (.tuple #[.int .i64 (if e.natAbs*m.natAbs<=4096 then e*m else 0),.bool (decide (e.natAbs*m.natAbs<=4096))])/\Below w.heap.size w w':=by
 have C1:=h_ (fun w=>Ha w e (by omega));have C2:=h_ (fun w=>Ha w m hm);obtain⟨a,ha⟩:∃a,a=e.natAbs:=⟨_,rfl⟩
 obtain⟨b,hb⟩:∃b,b=m.natAbs:=⟨_,rfl⟩
 rw[<-ha]at C1 ⊢;rw[<-hb]at C2 ⊢;have C3:=h_ (fun w=>Mw a b (by omega) (by omega) w);have F0:=h_ (Fz.nil w);have hs:∃s:Bool,(decide (e<0) != decide (m<0))=s/\e*m=(if s then -((a*b:Nat):Int)else((a*b:Nat):Int)):=by
  refine⟨_,rfl,?_⟩;rw[Int.natCast_mul];by_cases h1:e<0
  .have e1:e=-(a:Int):=by omega
   by_cases h2:m<0
   .have e2:m=-(b:Int):=by omega
    simp only[h1,h2,decide_true,bne_self_eq_false,Bool.false_eq_true,if_false];rw[e1,e2,Int.neg_mul_neg]
   .have e2:m=(b:Int):=by omega
    simp only[h1,h2,decide_true,decide_false];rw[if_pos (by decide)];rw[e1,e2,Int.neg_mul]
  .have e1:e=(a:Int):=by omega
   by_cases h2:m<0
   .have e2:m=-(b:Int):=by omega
    simp only[h1,h2,decide_true,decide_false];rw[if_pos (by decide)];rw[e1,e2,Int.mul_neg]
   .have e2:m=(b:Int):=by omega
    simp only[h1,h2,decide_false,bne_self_eq_false,Bool.false_eq_true,if_false];rw[e1,e2]
 obtain⟨s,hs1,hs2⟩:=hs;rw[hs2];have HM:=h_ hm;clear ha hb he hm hs2;generalize a*b=p at *
 obtain⟨hi,hhi⟩:∃hi,hi=p/18446744073709551616:=⟨_,rfl⟩
 obtain⟨lo,hlo⟩:∃lo,lo=p%18446744073709551616:=⟨_,rfl⟩
 rw[<-hhi,<-hlo]at C3;by_cases hp:p<=4096
 .have e1:hi=0:=by omega
  have e2:lo=p:=by omega
  subst e1 e2;rw[if_pos hp,decide_eq_true hp];have z1:decide ((4096:Int)<(lo:Int))=false:=decide_eq_false (by omega);have z2:decide (4096<lo)=false:=decide_eq_false (by omega);have q1:IntKind.i64.wrap (lo:Int)=(lo:Int):=IntWalk.i64_in _ (by omega);have q2:IntKind.i64.wrap (-(lo:Int))=-(lo:Int):=IntWalk.i64_in _ (by omega);clear hhi hlo hp;obtain⟨p1,y1⟩:∃p1,decide (e<0)=p1:=⟨_,rfl⟩
  obtain⟨p2,y2⟩:∃p2,decide (m<0)=p2:=⟨_,rfl⟩
  rw[y1,y2]at hs1;have HS:Qb ((p1 != p2)=s):=hs1;clear hs1;go_enter Tryz.func151,Tryz.ntmps151;go_wp2_with fail;refine(C1.o _).mono ?_;rintro q w1 ⟨rfl,hb⟩;have F1:=h_ (F0.o.call hb);clear hb;go_wp2_with fail;refine(C2.o _).mono ?_;rintro q w2 ⟨rfl,hb⟩;have F2:=h_ (F1.o.call hb);clear hb;go_wp2_with fail;refine(C3.o _).mono ?_;rintro q w3 ⟨rfl,rfl⟩;cases p1<;>cases p2<;>(have hs:=HS.o;replace hs:s=_:=hs.symm;simp only[bne_self_eq_false,Bool.not_false,Bool.bne_true,Bool.bne_false]at hs;subst hs;go_wp2;refine bodyPost_ret (v:=.tuple #[.int .i64 _,.bool true]) (by simp[results,Tryz.results151,go_sem];rfl) rfl ?_;exact⟨by simp,F2.o.b⟩)
 .rw[if_neg hp,decide_eq_false hp];have z0:decide ((0:Int)<(hi:Int))=false\/decide ((0:Int)<(hi:Int))=true:=by cases decide ((0:Int)<(hi:Int))<;>simp
  have z1:¬0<hi->decide ((4096:Int)<(lo:Int))=true/\decide (4096<lo)=true:=fun h=>⟨decide_eq_true (by omega),decide_eq_true (by omega)⟩
  have HZ:=h_ z1;clear hhi hlo hp z0 z1;by_cases h0:0<hi
  .have z1:decide ((0:Int)<(hi:Int))=true:=decide_eq_true (by omega);have z2:decide (0<hi)=true:=decide_eq_true h0;go_enter Tryz.func151,Tryz.ntmps151;go_wp2_with fail;refine(C1.o _).mono ?_;rintro q w1 ⟨rfl,hb⟩;have F1:=h_ (F0.o.call hb);clear hb;go_wp2_with fail;refine(C2.o _).mono ?_;rintro q w2 ⟨rfl,hb⟩;have F2:=h_ (F1.o.call hb);clear hb;go_wp2_with fail;refine(C3.o _).mono ?_;rintro q w3 ⟨rfl,rfl⟩;go_wp2;refine bodyPost_ret (v:=.tuple #[.int .i64 0,.bool false]) (by simp[results,Tryz.results151,go_sem]) rfl ?_;exact⟨rfl,F2.o.b⟩
  .have z1:decide ((0:Int)<(hi:Int))=false:=decide_eq_false (by omega);have z2:decide (0<hi)=false:=decide_eq_false h0;obtain⟨z3,z4⟩:=HZ.o h0;go_enter Tryz.func151,Tryz.ntmps151;go_wp2_with fail;refine(C1.o _).mono ?_;rintro q w1 ⟨rfl,hb⟩;have F1:=h_ (F0.o.call hb);clear hb;go_wp2_with fail;refine(C2.o _).mono ?_;rintro q w2 ⟨rfl,hb⟩;have F2:=h_ (F1.o.call hb);clear hb;go_wp2_with fail;refine(C3.o _).mono ?_;rintro q w3 ⟨rfl,rfl⟩;go_wp2;refine bodyPost_ret (v:=.tuple #[.int .i64 0,.bool false]) (by simp[results,Tryz.results151,go_sem]) rfl ?_;exact⟨rfl,F2.o.b⟩
def Li(x:Dn)(k:Nat)(d:Dn):Prop:=d.neg=x.neg/\d.m^k=x.m/\d.e*(k:Int)=x.e/\d.m≠0/\d.m<18446744073709551616
def Pc(R:Dn->Prop)(w:World)(q:Ending)(w':World):Prop:=∃v d ok,q=.returned (.tuple #[v,.bool ok])/\Cy w' v d/\(ok=true->R d)/\Below w.heap.size w w'
theorem Cy.zero3{w:World}(t:Qq w):Cy w (.agg #[.bool false,.slice none 0 0,.int .i64 0]) ⟨false,0,0⟩:=⟨_,rfl,Dg.nil t,by decide,by decide,by decide⟩
theorem Qcw{w:World}{u:Value}{x:Dn}{k:Nat}(hu:Cy w u x)(h0:x.m≠0)(hm:x.m<18446744073709551616)(he:-100000<=x.e/\x.e<=100000)(hk:0<k/\k<9223372036854775808) :
  Calls Tryz.prog 117 #[u,.int .i64 (k:Int)] w (Pc (Li x k) w):=by
 obtain⟨n,m,e⟩:=x;simp only at h0 hm he;have bm:=Zs hm;have BM:Qb (bl m<=64):=bm;have CL:=h_ (fun w u (h:Dg w u m)=>Xh (h.rd (by omega)));have HK:=h_ hk;have HE:=h_ he;have HM:=h_ (And.intro h0 hm);have hb1:bl m=1->m=1:=fun h=>by have:=Zb m;rw[h]at this;omega
 have HB1:=h_ hb1;have hb0:bl m≠0:=fun h=>by have:=Zb m;rw[h]at this;omega
 have HB0:=h_ hb0;obtain⟨l,hl⟩:∃l,l=bl m:=⟨_,rfl⟩
 have HL:=h_ hl;rw[<-hl]at CL bm;obtain⟨a1,k1,c1,rfl⟩:=hu.fm;have X:=h_ hu;have hk0:¬(k:Int)=0:=by omega
 have hk00:((k:Int)==0)=false:=by rw[beq_eq_false_iff_ne];exact hk0
 have hk000:¬k=0:=by omega
 have hk0000:(k==0)=false:=by rw[beq_eq_false_iff_ne];exact hk000
 obtain⟨r,hr⟩:∃r,r=e.tmod (k:Int):=⟨_,rfl⟩
 obtain⟨t,ht⟩:∃t,t=e.tdiv (k:Int):=⟨_,rfl⟩
 have hrt:e=(k:Int)*t+r:=by rw[hr,ht];exact(Int.mul_tdiv_add_tmod e (k:Int)).symm
 have HRT:=h_ hrt;have r1:e.tmod (k:Int)=r:=hr.symm;have t1:e.tdiv (k:Int)=t:=ht.symm;have ta:t.natAbs<=e.natAbs:=by rw[ht,Int.natAbs_tdiv];exact Nat.div_le_self _ _
 have ra:r.natAbs<=e.natAbs:=by rw[hr,Int.natAbs_tmod];exact Nat.mod_le _ _
 have r2:IntKind.i64.wrap r=r:=IntWalk.i64_in _ (by omega);have t2:IntKind.i64.wrap t=t:=IntWalk.i64_in _ (by omega);have TB:=h_ (show -100000<=t/\t<=100000 by omega);clear hu hk hr ht hrt ta ra he h0 hm hb1 hb0 hl;by_cases h1:k=1
 .subst h1;have hk0:Qb True:=trivial;go_enter Tryz.func117,Tryz.ntmps117;have F0:=h_ (Fx.two w 42 #[.bool n,.slice a1 k1 c1,.int .i64 e] 42 #[.bool false,.slice none 0 0,.int .i64 0] rfl rfl);have X0:=h_ ((X.o.alloc (.cells #[.bool n,.slice a1 k1 c1,.int .i64 e] 42)).alloc (.cells #[.bool false,.slice none 0 0,.int .i64 0] 42));clear X;go_upto_region 1 with(fail)
  generalize alloc (alloc _ _) _=w0 at F0 X0 ⊢;have c0_0:=F0.o.c3 0 rfl;have c1_0:=F0.o.c3 1 rfl;go_wp2;obtain⟨f,p⟩:=F0.o.s3 1 rfl (.bool n) (.slice a1 k1 c1) (.int .i64 e) rfl rfl rfl;generalize setCell _ _ _=W at f p ⊢;have g1':=f.c3 1 rfl;refine bodyPost_ret (v:=.tuple #[.agg #[.bool n,.slice a1 k1 c1,.int .i64 e],.bool true]) (by simp[results,Tryz.results117,go_sem,g1']) rfl ?_;exact⟨_,⟨n,m,e⟩,true,rfl,X0.o.kp p,fun _=>⟨rfl,Nat.pow_one _,by show e*1=e;omega,HM.o.1,HM.o.2⟩,f.b⟩
 have z1:((k:Int)==1)=false:=by rw[beq_eq_false_iff_ne];omega
 have z2:¬(k:Int)=1:=by omega
 have z3:¬k=1:=h1;by_cases h2:r=0
 case neg =>
  have z4:(r==0)=false:=by rw[beq_eq_false_iff_ne];exact h2
  have z5:(r != 0)=true:=by simp[h2]
  clear h2;go_enter Tryz.func117,Tryz.ntmps117;have F0:=h_ (Fx.two w 42 #[.bool n,.slice a1 k1 c1,.int .i64 e] 42 #[.bool false,.slice none 0 0,.int .i64 0] rfl rfl);have X0:=h_ ((X.o.alloc (.cells #[.bool n,.slice a1 k1 c1,.int .i64 e] 42)).alloc (.cells #[.bool false,.slice none 0 0,.int .i64 0] 42));clear X;go_upto_region 1 with(fail)
  generalize alloc (alloc _ _) _=w0 at F0 X0 |-;have c0_0:=F0.o.c3 0 rfl;have c1_0:=F0.o.c3 1 rfl;go_wp2;obtain⟨f,p⟩:=F0.o.s3 1 rfl (.bool false) (.slice none 0 0) (.int .i64 0) rfl rfl rfl;generalize setCell _ _ _=W at f p |-;have g1':=f.c3 1 rfl;refine bodyPost_ret (v:=.tuple #[.agg #[.bool false,.slice none 0 0,.int .i64 0],.bool false]) (by simp[results,Tryz.results117,go_sem,g1']) rfl ?_;exact⟨_,_,false,rfl,Cy.zero3 (X0.o.tab.kp p),nofun,f.b⟩
 subst h2;by_cases h3:l=1
 case pos =>
  have hm1:=HB1.o (HL.o▸h3);subst h3;go_enter Tryz.func117,Tryz.ntmps117;have F0:=h_ (Fx.two w 42 #[.bool n,.slice a1 k1 c1,.int .i64 e] 42 #[.bool false,.slice none 0 0,.int .i64 0] rfl rfl);have X0:=h_ ((X.o.alloc (.cells #[.bool n,.slice a1 k1 c1,.int .i64 e] 42)).alloc (.cells #[.bool false,.slice none 0 0,.int .i64 0] 42));clear X;go_upto_region 1 with(fail)
  generalize alloc (alloc _ _) _=w0 at F0 X0 |-;have c0_0:=F0.o.c3 0 rfl;have c1_0:=F0.o.c3 1 rfl;have D:=h_ (X0.o.dm);have D0:=h_ D.o;clear D;go_upto_region 6 with(fail)
  obtain⟨f,p⟩:=F0.o.set 0 2 rfl rfl (u:=.int .i64 t) rfl;generalize setCell _ _ _=W at f p ⊢;have F1:=h_ (show Fx w W [(w.heap.size,42,#[.bool n,.slice a1 k1 c1,.int .i64 t]),(w.heap.size+1,42,#[.bool false,.slice none 0 0,.int .i64 0])]from f);have D1:=h_ (D0.o.kp p);have c0_1:=F1.o.c3 0 rfl;have c1_1:=F1.o.c3 1 rfl;go_wp2_with fail;refine(CL.o _ _ D1.o).mono ?_;rintro q w2 ⟨rfl,hb⟩;have F2:=h_ (F1.o.call hb);have D2:=h_ (D1.o.below hb);have c0_2:=F2.o.c3 0 rfl;have c1_2:=F2.o.c3 1 rfl;go_wp2;obtain⟨f,p⟩:=F2.o.s3 1 rfl (.bool n) (.slice a1 k1 c1) (.int .i64 t) rfl rfl rfl;generalize setCell _ _ _=W at f p ⊢;have g1':=f.c3 1 rfl;refine bodyPost_ret (v:=.tuple #[.agg #[.bool n,.slice a1 k1 c1,.int .i64 t],.bool true]) (by simp[results,Tryz.results117,go_sem,g1']) rfl ?_;exact⟨_,⟨n,m,t⟩,true,rfl,⟨_,rfl,D2.o.kp p,Nat.le_trans BM.o (by decide),by have:=TB.o;show _<=t;omega,by have:=TB.o;show t<=_;omega⟩,fun _=>⟨rfl,by show m^k=m;rw[hm1,Nat.one_pow],by have:=HRT.o;show t*(k:Int)=e;rw[Int.mul_comm];omega,HM.o.1,HM.o.2⟩,f.b⟩
 have z4:((l:Int)==1)=false:=by rw[beq_eq_false_iff_ne];omega
 have z5:¬(l:Int)=1:=by omega
 have z6:¬l=1:=h3;by_cases h4:l<k
 case pos =>
  have y1:decide ((l:Int)<(k:Int))=true:=decide_eq_true (by omega);have y2:decide (l<k)=true:=decide_eq_true h4;clear h4;go_enter Tryz.func117,Tryz.ntmps117;have F0:=h_ (Fx.two w 42 #[.bool n,.slice a1 k1 c1,.int .i64 e] 42 #[.bool false,.slice none 0 0,.int .i64 0] rfl rfl);have X0:=h_ ((X.o.alloc (.cells #[.bool n,.slice a1 k1 c1,.int .i64 e] 42)).alloc (.cells #[.bool false,.slice none 0 0,.int .i64 0] 42));clear X;go_upto_region 1 with(fail)
  generalize alloc (alloc _ _) _=w0 at F0 X0 |-;have c0_0:=F0.o.c3 0 rfl;have c1_0:=F0.o.c3 1 rfl;have D:=h_ (X0.o.dm);have D0:=h_ D.o;clear D;go_upto_region 6 with(fail)
  obtain⟨f,p⟩:=F0.o.set 0 2 rfl rfl (u:=.int .i64 t) rfl;generalize setCell _ _ _=W at f p |-;have F1:=h_ (show Fx w W [(w.heap.size,42,#[.bool n,.slice a1 k1 c1,.int .i64 t]),(w.heap.size+1,42,#[.bool false,.slice none 0 0,.int .i64 0])]from f);have D1:=h_ (D0.o.kp p);have c0_1:=F1.o.c3 0 rfl;have c1_1:=F1.o.c3 1 rfl;go_wp2_with fail;refine(CL.o _ _ D1.o).mono ?_;rintro q w2 ⟨rfl,hb⟩;have F2:=h_ (F1.o.call hb);have D2:=h_ (D1.o.below hb);have c0_2:=F2.o.c3 0 rfl;have c1_2:=F2.o.c3 1 rfl;go_wp2_with fail;refine(CL.o _ _ D2.o).mono ?_;rintro q w3 ⟨rfl,hb⟩;have F3:=h_ (F2.o.call hb);have D3:=h_ (D2.o.below hb);have c0_3:=F3.o.c3 0 rfl;have c1_3:=F3.o.c3 1 rfl;go_wp2;obtain⟨f,p⟩:=F3.o.s3 1 rfl (.bool false) (.slice none 0 0) (.int .i64 0) rfl rfl rfl;generalize setCell _ _ _=W at f p |-;have g1':=f.c3 1 rfl;refine bodyPost_ret (v:=.tuple #[.agg #[.bool false,.slice none 0 0,.int .i64 0],.bool false]) (by simp[results,Tryz.results117,go_sem,g1']) rfl ?_;exact⟨_,_,false,rfl,Cy.zero3 (D3.o.tab.kp p),nofun,f.b⟩
 have y1:decide ((l:Int)<(k:Int))=false:=decide_eq_false (by omega);have y2:decide (l<k)=false:=decide_eq_false h4;have CR:=h_ (fun w u (h:Dg w u m)=>Qje (k:=k) h HM.o.2 HM.o.1 ⟨by have:=HK.o;omega,by omega⟩);clear h4 h3;go_enter Tryz.func117,Tryz.ntmps117;have F0:=h_ (Fx.two w 42 #[.bool n,.slice a1 k1 c1,.int .i64 e] 42 #[.bool false,.slice none 0 0,.int .i64 0] rfl rfl);have X0:=h_ ((X.o.alloc (.cells #[.bool n,.slice a1 k1 c1,.int .i64 e] 42)).alloc (.cells #[.bool false,.slice none 0 0,.int .i64 0] 42));clear X;go_upto_region 1 with(fail)
 generalize alloc (alloc _ _) _=w0 at F0 X0 |-;have c0_0:=F0.o.c3 0 rfl;have c1_0:=F0.o.c3 1 rfl;have D:=h_ (X0.o.dm);have D0:=h_ D.o;clear D;go_upto_region 6 with(fail)
 obtain⟨f,p⟩:=F0.o.set 0 2 rfl rfl (u:=.int .i64 t) rfl;generalize setCell _ _ _=W at f p |-;have F1:=h_ (show Fx w W [(w.heap.size,42,#[.bool n,.slice a1 k1 c1,.int .i64 t]),(w.heap.size+1,42,#[.bool false,.slice none 0 0,.int .i64 0])]from f);have D1:=h_ (D0.o.kp p);have c0_1:=F1.o.c3 0 rfl;have c1_1:=F1.o.c3 1 rfl;go_wp2_with fail;refine(CL.o _ _ D1.o).mono ?_;rintro q w2 ⟨rfl,hb⟩;have F2:=h_ (F1.o.call hb);have D2:=h_ (D1.o.below hb);have c0_2:=F2.o.c3 0 rfl;have c1_2:=F2.o.c3 1 rfl;go_wp2_with fail;refine(CL.o _ _ D2.o).mono ?_;rintro q w3 ⟨rfl,hb⟩;have F3:=h_ (F2.o.call hb);have D3:=h_ (D2.o.below hb);have c0_3:=F3.o.c3 0 rfl;have c1_3:=F3.o.c3 1 rfl;go_wp2_with fail;refine(CR.o _ _ D3.o).mono ?_;rintro q w4 ⟨v,q,is,rfl,hu,h1,h2,h3,hb⟩;have F4:=h_ (F3.o.call hb);have D4:=h_ (D3.o.below hb);have R4:=h_ (hu);have c0_4:=F4.o.c3 0 rfl;have c1_4:=F4.o.c3 1 rfl;have HQ:=h_ (And.intro h1 (And.intro h2 h3));clear h1 h2 h3;obtain⟨a2,k2,c2,rfl⟩:=R4.o.form;clear hu;go_upto_region 12 with(fail)
 obtain⟨f,p⟩:=F4.o.set 0 1 rfl rfl (u:=.slice a2 k2 c2) rfl;generalize setCell _ _ _=W2 at f p |-;have F5:=h_ (show Fx w W2 [(w.heap.size,42,#[.bool n,.slice a2 k2 c2,.int .i64 t]),(w.heap.size+1,42,#[.bool false,.slice none 0 0,.int .i64 0])]from f);have R5:=h_ (R4.o.kp p);have c0_5:=F5.o.c3 0 rfl;have c1_5:=F5.o.c3 1 rfl;cases is
 case true =>go_wp2;obtain⟨f,p⟩:=F5.o.s3 1 rfl (.bool n) (.slice a2 k2 c2) (.int .i64 t) rfl rfl rfl;generalize setCell _ _ _=W at f p ⊢;have g1':=f.c3 1 rfl;refine bodyPost_ret (v:=.tuple #[.agg #[.bool n,.slice a2 k2 c2,.int .i64 t],.bool true]) (by simp[results,Tryz.results117,go_sem,g1']) rfl ?_;exact⟨_,⟨n,q,t⟩,true,rfl,⟨_,rfl,R5.o.kp p,Nat.le_trans (Zp (k:=34) HQ.o.2.2) (by decide),by have:=TB.o;show _<=t;omega,by have:=TB.o;show t<=_;omega⟩,fun h=>⟨rfl,HQ.o.1 (by trivial),by have:=HRT.o;show t*(k:Int)=e;rw[Int.mul_comm];omega,HQ.o.2.1,Nat.lt_trans HQ.o.2.2 (by decide)⟩,f.b⟩
 case false =>go_wp2;obtain⟨f,p⟩:=F5.o.s3 1 rfl (.bool n) (.slice a2 k2 c2) (.int .i64 t) rfl rfl rfl;generalize setCell _ _ _=W at f p |-;have g1':=f.c3 1 rfl;refine bodyPost_ret (v:=.tuple #[.agg #[.bool n,.slice a2 k2 c2,.int .i64 t],.bool false]) (by simp[results,Tryz.results117,go_sem,g1']) rfl ?_;exact⟨_,⟨n,q,t⟩,false,rfl,⟨_,rfl,R5.o.kp p,Nat.le_trans (Zp (k:=34) HQ.o.2.2) (by decide),by have:=TB.o;show _<=t;omega,by have:=TB.o;show t<=_;omega⟩,nofun,f.b⟩
theorem As(w:World)(n:Int)(h:-9223372036854775808<n/\n<9223372036854775808):Calls Tryz.prog 99 #[.int .i64 n] w fun e w'=>e=.returned (.int .u64 (n.natAbs:Int))/\Below w.heap.size w w':=by
 obtain⟨h1,h2⟩:=h;by_cases h0:n<0
 .have z:decide (n<0)=true:=decide_eq_true h0;have q1:IntKind.u64.wrap (-(IntKind.u64.wrap n))=(n.natAbs:Int):=by simp only[IntKind.wrap_u64];omega
  have q2:IntKind.u64.wrap (0-(IntKind.u64.wrap n))=(n.natAbs:Int):=by simp only[IntKind.wrap_u64];omega
  go_enter Tryz.func99,Tryz.ntmps99;go_wp2;go_ret;exact⟨rfl,Below.refl _ _⟩
 .have z:decide (n<0)=false:=decide_eq_false h0;have q1:IntKind.u64.wrap n=(n.natAbs:Int):=by rw[IntKind.wrap_u64];omega
  go_enter Tryz.func99,Tryz.ntmps99;go_wp2;go_ret;exact⟨rfl,Below.refl _ _⟩
theorem Ad(w:World)(a b:Nat)(ha:a<18446744073709551616)(hb:b<18446744073709551616):Calls Tryz.prog 98 #[.int .u64 (a:Int),.int .u64 (b:Int)] w fun e w'=>e=.returned (.bool (decide (a*b<=60000)))/\Below w.heap.size w w':=by
 have C3:=h_ (fun w=>Mw a b ha hb w);clear ha hb;generalize a*b=p at *
 obtain⟨hi,hhi⟩:∃hi,hi=p/18446744073709551616:=⟨_,rfl⟩
 obtain⟨lo,hlo⟩:∃lo,lo=p%18446744073709551616:=⟨_,rfl⟩
 rw[<-hhi,<-hlo]at C3;by_cases h0:hi=0
 .subst h0;have e2:lo=p:=by omega
  subst e2;obtain⟨g,hg⟩:∃g,g=decide (lo<=60000):=⟨_,rfl⟩
  have z1:decide ((lo:Int)<=60000)=g:=by rw[hg];apply decide_eq_decide.2;omega
  have z2:decide (lo<=60000)=g:=hg.symm;rw[z2];clear hhi hlo hg;go_enter Tryz.func98,Tryz.ntmps98;go_wp2_with fail;refine(C3.o _).mono ?_;rintro q w3 ⟨rfl,rfl⟩;go_wp2;go_ret;exact⟨rfl,Below.refl _ _⟩
 .have z1:((hi:Int)==0)=false:=by rw[beq_eq_false_iff_ne];omega
  have z2:¬(hi:Int)=0:=by omega
  rw[show decide (p<=60000)=false from decide_eq_false (by omega)];clear hhi hlo;go_enter Tryz.func98,Tryz.ntmps98;go_wp2_with fail;refine(C3.o _).mono ?_;rintro q w3 ⟨rfl,rfl⟩;go_wp2;go_ret;exact⟨rfl,Below.refl _ _⟩
theorem Bk{w:World}{u:Value}{d:Dn}(hu:Cy w u d)(sd:Sd d)(m:Int)(hm:-9223372036854775808<m/\m<9223372036854775808) :
  Calls Tryz.prog 47 #[u,.int .i64 m] w fun q w'=>q=.returned (.bool (decide (bl (Qa d).m*m.natAbs<=60000)&&decide ((Qa d).e.natAbs*m.natAbs<=60000)))/\Below w.heap.size w w':=by
 have CA:=h_ (fun w u (h:Cy w u d)=>Xr h.ry sd);have sb:=sd.bare;generalize Qa d=B at *
 obtain⟨bn,bm,be⟩:=B;simp only at sb ⊢;have CL:=h_ (fun w u (h:Dg w u bm)=>Xh (h.rd (by omega)));have C1:=h_ (fun w=>As w m hm);have C2:=h_ (fun w=>As w be (by omega));have C3:=h_ (fun w=>Ad w (bl bm) m.natAbs (by omega) (by omega));have C4:=h_ (fun w=>Ad w be.natAbs m.natAbs (by omega) (by omega));generalize decide (bl bm*m.natAbs<=60000)=p1 at *
 generalize decide (be.natAbs*m.natAbs<=60000)=p2 at *
 have q1:IntKind.u64.wrap (bl bm:Int)=(bl bm:Int):=by rw[IntKind.wrap_u64];omega
 obtain⟨dn,dm,de⟩:=d;obtain⟨a1,k1,c1,rfl⟩:=hu.fm;have X:=h_ hu;clear hu sd sb hm;generalize bl bm=l at *
 generalize m.natAbs=a at *
 generalize be.natAbs=b at *
 go_enter Tryz.func47,Tryz.ntmps47;have F0:=h_ (Fx.one w 42 #[.bool dn,.slice a1 k1 c1,.int .i64 de] rfl);have X0:=h_ (X.o.alloc (.cells #[.bool dn,.slice a1 k1 c1,.int .i64 de] 42));clear X;go_upto_region 1 with(fail)
 generalize alloc _ _=w0 at F0 X0 |-;have c0_0:=F0.o.c3 0 rfl;go_wp2_with fail;refine(CA.o _ _ X0.o).mono ?_;rintro q w1 ⟨u,rfl,hu,hb⟩;have F1:=h_ (F0.o.call hb);have X1:=h_ (X0.o.below hb);have B1:=h_ (hu);have c0_1:=F1.o.c3 0 rfl;obtain⟨a3,k3,c3,rfl⟩:=B1.o.fm;have D1:=h_ B1.o.dm;clear B1 hu;go_upto_region 2 with(fail)
 have F2:=h_ (F1.o.new 42 #[.bool bn,.slice a3 k3 c3,.int .i64 be] rfl);have D2:=h_ (D1.o.alloc (.cells #[.bool bn,.slice a3 k3 c3,.int .i64 be] 42));obtain⟨g1,hg1⟩:∃g,g=(World.heap w1).size:=⟨_,rfl⟩
 rw[<-hg1]at F2 |-;clear hg1;simp only[nil_append,cons_append]at F2;generalize alloc w1 _=W2 at F2 D2 |-;have c0_2:=F2.o.c3 0 rfl;have c1_2:=F2.o.c3 1 rfl;go_wp2_with fail;refine(CL.o _ _ D2.o).mono ?_;rintro q w3 ⟨rfl,hb⟩;have F3:=h_ (F2.o.call hb);have D3:=h_ (D2.o.below hb);have c0_3:=F3.o.c3 0 rfl;have c1_3:=F3.o.c3 1 rfl;go_wp2_with fail;refine(C1.o _).mono ?_;rintro q w4 ⟨rfl,hb⟩;have F4:=h_ (F3.o.call hb);have D4:=h_ (D3.o.below hb);have c0_4:=F4.o.c3 0 rfl;have c1_4:=F4.o.c3 1 rfl;go_wp2_with fail;refine(C3.o _).mono ?_;rintro q w5 ⟨rfl,hb⟩;have F5:=h_ (F4.o.call hb);have D5:=h_ (D4.o.below hb);have c0_5:=F5.o.c3 0 rfl;have c1_5:=F5.o.c3 1 rfl;cases p1
 case false =>go_wp2;go_ret;exact⟨by simp,F5.o.b⟩
 case true =>go_wp2_with fail;refine(C2.o _).mono ?_;rintro q w6 ⟨rfl,hb⟩;have F6:=h_ (F5.o.call hb);have D6:=h_ (D5.o.below hb);have c0_6:=F6.o.c3 0 rfl;have c1_6:=F6.o.c3 1 rfl;go_wp2_with fail;refine(C1.o _).mono ?_;rintro q w7 ⟨rfl,hb⟩;have F7:=h_ (F6.o.call hb);have D7:=h_ (D6.o.below hb);have c0_7:=F7.o.c3 0 rfl;have c1_7:=F7.o.c3 1 rfl;go_wp2_with fail;refine(C4.o _).mono ?_;rintro q w8 ⟨rfl,hb⟩;have F8:=h_ (F7.o.call hb);have D8:=h_ (D7.o.below hb);have c0_8:=F8.o.c3 0 rfl;have c1_8:=F8.o.c3 1 rfl;go_wp2;go_ret;exact⟨by simp,F8.o.b⟩
theorem Qim{K K':Int}{A B:Dn}(ha:-K<=A.e)(hb:-K'<=B.e)(g:Bool):mz (K+K') ⟨g,A.m*B.m,A.e+B.e⟩=mz K A*mz K' B:=by
 unfold mz;simp only;have e1:(A.e+B.e+(K+K')).toNat=(A.e+K).toNat+(B.e+K').toNat:=by omega
 rw[e1,Nat.pow_add];generalize 2^(A.e+K).toNat=p;generalize 2^(B.e+K').toNat=q;rw[Nat.mul_assoc,Nat.mul_assoc,Nat.mul_left_comm B.m]
theorem Qhv{K K':Int}{A B:Dn}(ha:-K<=A.e)(hb:-K'<=B.e):zv (K+K') ⟨A.neg != B.neg,A.m*B.m,A.e+B.e⟩=zv K A*zv K' B:=by have h:=Qim ha hb (A.neg != B.neg);unfold zv;rw[h,Int.natCast_mul];generalize (mz K A:Int)=p;generalize (mz K' B:Int)=q;cases A.neg<;>cases B.neg<;>simp[Int.neg_mul,Int.mul_neg]
theorem Qa3{K:Int}{A:Dn}{low:Int}(hl:-K<=low)(h:low<=A.e)(g:Bool):mz K ⟨g,Xn A.m (A.e-low),low⟩=mz K A:=by
 unfold mz Xn;simp only;by_cases h0:A.e-low<=0
 .rw[if_pos h0];have:A.e=low:=by omega
  rw[this]
 .rw[if_neg h0];have e1:(A.e+K).toNat=(A.e-low).toNat+(low+K).toNat:=by omega
  rw[e1,Nat.pow_add,Nat.mul_assoc]
theorem Ln{K:Int}{d:Dn}(h:d.m=0):zv K d=0:=by unfold zv;rw[G3.2 h];simp
theorem Qhw{K:Int}{A B:Dn}(hK:0<=K)(ha:-K<=A.e/\A.e<=2147483648)(hb:-K<=B.e/\B.e<=2147483648)(hK2:K<=2147483648):zv K (Gu A B)=zv K A+zv K B:=by
 unfold Gu;by_cases h0:A.m=0
 .rw[if_pos h0,Ln h0,Int.zero_add]
 rw[if_neg h0];by_cases h1:B.m=0
 .rw[if_pos h1,Ln h1,Int.add_zero]
 rw[if_neg h1];have hl1:min A.e B.e<=A.e:=Int.min_le_left _ _;have hl2:min A.e B.e<=B.e:=Int.min_le_right _ _;have hl3:-K<=min A.e B.e:=by omega
 generalize min A.e B.e=low at *
 have wa:=Qa3 hl3 hl1 false;have wb:=Qa3 hl3 hl2 false;generalize Xn A.m (A.e-low)=p at *
 generalize Xn B.m (B.e-low)=q at *
 have hp:(mz K A:Int)=((p*2^(low+K).toNat:Nat):Int):=by rw[<-wa];rfl
 have hq:(mz K B:Int)=((q*2^(low+K).toNat:Nat):Int):=by rw[<-wb];rfl
 have hle:-2147483648<=low/\low<=2147483648:=by omega
 have key:∀g (r:Nat),zv K (Qa ⟨g,r,low⟩)=if g then -((r*2^(low+K).toNat:Nat):Int)else((r*2^(low+K).toNat:Nat):Int):=fun g r=>by rw[Kx hK hl3 hle];rfl
 generalize 2^(low+K).toNat=P at *
 have zA:zv K A=if A.neg then -((p*P:Nat):Int)else((p*P:Nat):Int):=by unfold zv;rw[hp]
 have zB:zv K B=if B.neg then -((q*P:Nat):Int)else((q*P:Nat):Int):=by unfold zv;rw[hq]
 rw[zA,zB];by_cases hs:A.neg=B.neg
 .rw[if_pos hs,key,hs,Nat.add_mul];cases B.neg<;>simp<;>omega
 .rw[if_neg hs];have hnb:B.neg=!A.neg:=by cases hA:A.neg<;>cases hB:B.neg<;>simp[hA,hB]at hs |-
  by_cases hlt:p<q
  .rw[if_pos hlt,key,hnb,Nat.sub_mul];have:p*P<=q*P:=Nat.mul_le_mul_right _ (Nat.le_of_lt hlt);cases A.neg<;>simp<;>omega
  .rw[if_neg hlt,key,hnb,Nat.sub_mul];have:q*P<=p*P:=Nat.mul_le_mul_right _ (by omega);cases A.neg<;>simp<;>omega
def Zk(K:Int)(d:Dn):Prop:=-K<=d.e/\-2147483648<=d.e/\d.e<=2147483648
theorem Wb{K:Int}{a b:Dn}(hK:0<=K)(ha:Zk K a)(hb:Zk K b):Qh a b=Xb (zv K a) (zv K b):=Qhu hK ha.1 hb.1 ha.2 hb.2
theorem We{x y:Int}:Xb x y<0↔x<y:=by unfold Xb;split;omega;split<;>omega
theorem Xg{x y:Int}:0<Xb x y↔y<x:=by unfold Xb;split;omega;split<;>omega
theorem Uc{K:Int}{a b:Dn}(hK:0<=K)(ha:Zk K a)(hb:Zk K b):zv K (Z9 a b)<=zv K a/\zv K (Z9 a b)<=zv K b/\(Z9 a b=a\/Z9 a b=b):=by
 unfold Z9;by_cases h:Qh a b<0
 .rw[if_pos h];rw[Wb hK ha hb,We]at h;exact⟨Int.le_refl _,by omega,.inl rfl⟩
 .rw[if_neg h];rw[Wb hK ha hb,We]at h;exact⟨by omega,Int.le_refl _,.inr rfl⟩
theorem Ub{K:Int}{a b:Dn}(hK:0<=K)(ha:Zk K a)(hb:Zk K b):zv K a<=zv K (Z8 a b)/\zv K b<=zv K (Z8 a b)/\(Z8 a b=a\/Z8 a b=b):=by
 unfold Z8;by_cases h:0<Qh a b
 .rw[if_pos h];rw[Wb hK ha hb,Xg]at h;exact⟨Int.le_refl _,by omega,.inl rfl⟩
 .rw[if_neg h];rw[Wb hK ha hb,Xg]at h;exact⟨by omega,Int.le_refl _,.inr rfl⟩
theorem Wy{P:Dn->Prop}{a b:Dn}(ha:P a)(hb:P b):P (Z9 a b):=by unfold Z9;split;exact ha;exact hb
theorem Wx{P:Dn->Prop}{a b:Dn}(ha:P a)(hb:P b):P (Z8 a b):=by unfold Z8;split;exact ha;exact hb
theorem D9{P:Dn->Prop}{a b c d:Dn}(ha:P a)(hb:P b)(hc:P c)(hd:P d):P (Yj a b c d):=Wy hd (Wy hc (Wy hb ha))
theorem Ca{P:Dn->Prop}{a b c d:Dn}(ha:P a)(hb:P b)(hc:P c)(hd:P d):P (Yl a b c d):=Wx hd (Wx hc (Wx hb ha))
theorem Dz{K:Int}{a b c d:Dn}(hK:0<=K)(ha:Zk K a)(hb:Zk K b)(hc:Zk K c)(hd:Zk K d):zv K (Yj a b c d)<=zv K (Yl a b c d):=by have l1:=Uc hK hb ha;have z1:Zk K (Z9 b a):=Wy hb ha;have l2:=Uc hK hc z1;have z2:Zk K (Z9 c (Z9 b a)):=Wy hc z1;have l3:=Uc hK hd z2;have m1:=Ub hK hb ha;have y1:Zk K (Z8 b a):=Wx hb ha;have m2:=Ub hK hc y1;have y2:Zk K (Z8 c (Z8 b a)):=Wx hc y1;have m3:=Ub hK hd y2;have e1:Yj a b c d=Z9 d (Z9 c (Z9 b a)):=rfl;have e2:Yl a b c d=Z8 d (Z8 c (Z8 b a)):=rfl;rw[e1,e2];omega
theorem Ku{n:Bool}{m:Nat}{e:Int}(he:-100000<=e/\e<=100000):bl (Qa ⟨n,m,e⟩).m<=bl m/\(m≠0->e<=(Qa ⟨n,m,e⟩).e/\(Qa ⟨n,m,e⟩).e<=e+bl m)/\(m=0->(Qa ⟨n,m,e⟩).e=0):=by
 by_cases h0:m=0
 .subst h0;rw[Zg (d:=⟨n,0,e⟩) rfl];exact⟨Nat.zero_le _,fun h=>absurd rfl h,fun _=>rfl⟩
 .rw[Zy (d:=⟨n,m,e⟩) h0];have k1:=Wp h0;have:m/2^lo m<=m:=Nat.div_le_self _ _;have k2:=Zc this;have k3:Ju e=e:=by unfold Ju;omega
  simp only[k3];exact⟨k2,fun _=>⟨by omega,by omega⟩,fun h=>absurd h h0⟩
def LB:Int:=2^139
def pw(n:Nat):Nat:=2^n
theorem Df(a b:Nat):pw a*pw b=pw (a+b):=(Nat.pow_add 2 a b).symm
theorem Qej{a b:Nat}(h:a<=b):pw a<=pw b:=Nat.pow_le_pow_right (by decide) h
theorem Qj3{a b:Nat}(h:a<b):pw a<pw b:=Nat.pow_lt_pow_right (by decide) h
theorem Qj9(K:Int)(n:Bool)(m:Nat)(e:Int)(k:Nat)(hk:(e+K).toNat=k):mz K ⟨n,m,e⟩=m*pw k:=by subst hk;rfl
theorem Qir(k:Nat):lo (2*k+1)=0:=Fg (m:=k) (by rw[Nat.pow_zero,Nat.one_mul])
theorem Ji{n:Bool}{m:Nat}{e:Int}(h0:m≠0)(he:-100000<=e/\e<=100000) :
  ∃k j:Nat,m=(2*j+1)*2^k/\Qa ⟨n,m,e⟩=⟨n,2*j+1,e+(k:Int)⟩/\bl m=bl (2*j+1)+k:=by
 obtain⟨j,hj⟩:=Pl h0;refine⟨lo m,j,by rw[Nat.mul_comm];exact hj,?_,?_⟩
 .rw[Zy (d:=⟨n,m,e⟩) h0];simp only;rw[G5 (e:=e) ⟨by omega,by omega⟩];have:m/2^lo m=2*j+1:=by
   conv=>lhs;lhs;rw[hj]
   exact Nat.mul_div_cancel_left _ (Nat.two_pow_pos _)
  rw[this]
 .conv=>lhs;rw[hj,Nat.mul_comm]
  exact Vd (by omega) _
theorem Wz{n:Bool}{j:Nat}{e:Int}(he:-200000<=e/\e<=200000):Qa ⟨n,2*j+1,e⟩=⟨n,2*j+1,e⟩:=by rw[Zy (d:=⟨n,2*j+1,e⟩) (by simp)];simp only;rw[G5 (e:=e) ⟨by omega,by omega⟩,Qir,Nat.pow_zero,Nat.div_one];simp
theorem Iu{n:Bool}{m:Nat}{e:Int}(he:-100000<=e/\e<=100000)(hb:bl m<=100000):Qa (Qa ⟨n,m,e⟩)=Qa ⟨n,m,e⟩:=by
 by_cases h0:m=0
 .rw[Zg (d:=⟨n,m,e⟩) h0];rfl
 .obtain⟨k,j,-,h,hl⟩:=Ji (n:=n) h0 he;rw[h,Wz (by omega)]
theorem Qad{n:Bool}{m:Nat}{e:Int}(h0:m≠0)(he:-100000<=e/\e<=100000)(hb:bl m<=100000) :
  Qg (Qa ⟨n,m,e⟩)=(bl m:Int)-1+e/\(Qa ⟨n,m,e⟩).neg=n:=by
 obtain⟨k,j,-,h,hl⟩:=Ji (n:=n) h0 he;unfold Qg;rw[h,Wz (by omega),if_neg (by simp)];simp only;exact⟨by omega,trivial⟩
theorem Qb6{w:World}{u:Value}{d:Dn}(hu:Cy w u d)(sd:Sd d)(m:Nat)(hn:(Qa d).neg=false)(hf:bl (Qa d).m*m<=60000)(hf2:(Qa d).e.natAbs*m<=60000)(h64:(Qa d).m<18446744073709551616)(hm:m<=60000) :
  Calls Tryz.prog 100 #[u,.int .i64 (m:Int)] w (Um (Qa ⟨false,(Qa d).m^m,(Qa d).e*(m:Int)⟩) 0 w):=by
 have CA:=h_ (fun w u (h:Cy w u d)=>Xr h.ry sd);have CF:=h_ (fun w u (h:Cy w u d)=>Bk h sd (m:Int) (by omega));have e0:(m:Int).natAbs=m:=Int.natAbs_natCast m;rw[e0,decide_eq_true hf,decide_eq_true hf2]at CF;have sb:=sd.bare;generalize Qa d=B at *
 obtain⟨bn,bm,be⟩:=B;simp only at sb hn hf hf2 h64 ⊢;subst hn;have CP:=h_ (fun w u (h:Dg w u bm)=>Oe (k:=m) (h.rd (by omega)) (by rw[Nat.mul_comm];exact hf) hm h64);have bp:bl (bm^m)<=60001:=Nat.le_trans (Uo bm m) (by rw[Nat.mul_comm];omega);have hem:(be*(m:Int)).natAbs<=60000:=by rw[Int.natAbs_mul,e0];exact hf2
 obtain⟨p,hp⟩:∃p,p=bm^m:=⟨_,rfl⟩
 obtain⟨f,hfe⟩:∃f,f=be*(m:Int):=⟨_,rfl⟩
 rw[<-hp]at CP bp;rw[<-hfe]at hem;have CM:=h_ (fun w u (h:Dg w u p)=>Kf (neg:=false) (e:=f) (h.rd (by omega)) (by omega) (by omega));rw[<-hp,<-hfe];have q1:IntKind.i64.wrap f=f:=IntWalk.i64_in _ (by omega);have q2:be*(m:Int)=f:=hfe.symm;generalize Qa ⟨false,p,f⟩=R at *
 obtain⟨rn,rm,re⟩:=R;obtain⟨mm,hmm⟩:∃mm:Int,mm=(m:Int):=⟨_,rfl⟩
 rw[<-hmm]at CF CP q2 |-;have z1:decide (mm<0)=false:=decide_eq_false (by omega);have z2:¬mm<0:=by omega
 obtain⟨dn,dm,de⟩:=d;obtain⟨a1,k1,c1,rfl⟩:=hu.fm;have X:=h_ hu;clear hu sd sb hf hf2 h64 hm bp hem hp hfe hmm e0;go_enter Tryz.func100,Tryz.ntmps100;have F0:=h_ (Fx.two w 42 #[.bool dn,.slice a1 k1 c1,.int .i64 de] 42 #[.bool false,.slice none 0 0,.int .i64 0] rfl rfl);have X0:=h_ ((X.o.alloc (.cells #[.bool dn,.slice a1 k1 c1,.int .i64 de] 42)).alloc (.cells #[.bool false,.slice none 0 0,.int .i64 0] 42));clear X;go_upto_region 1 with(fail)
 generalize alloc (alloc _ _) _=w0 at F0 X0 |-;have c0_0:=F0.o.c3 0 rfl;have c1_0:=F0.o.c3 1 rfl;go_wp2_with fail;refine(CA.o _ _ X0.o).mono ?_;rintro q w1 ⟨u,rfl,hu,hb⟩;have F1:=h_ (F0.o.call hb);have X1:=h_ (X0.o.below hb);have B1:=h_ (hu);have c0_1:=F1.o.c3 0 rfl;have c1_1:=F1.o.c3 1 rfl;obtain⟨a3,k3,c3,rfl⟩:=B1.o.fm;have D1:=h_ B1.o.dm;clear B1 hu;go_upto_region 2 with(fail)
 have F2:=h_ (F1.o.new 42 #[.bool false,.slice a3 k3 c3,.int .i64 be] rfl);have X2:=h_ (X1.o.alloc (.cells #[.bool false,.slice a3 k3 c3,.int .i64 be] 42));have D2:=h_ (D1.o.alloc (.cells #[.bool false,.slice a3 k3 c3,.int .i64 be] 42));obtain⟨g1,hg1⟩:∃g,g=(World.heap w1).size:=⟨_,rfl⟩
 rw[<-hg1]at F2 |-;clear hg1;simp only[nil_append,cons_append]at F2;generalize alloc w1 _=W2 at F2 X2 D2 |-;have c0_2:=F2.o.c3 0 rfl;have c1_2:=F2.o.c3 1 rfl;have c2_2:=F2.o.c3 2 rfl;go_wp2_with fail;refine(CF.o _ _ X2.o).mono ?_;rintro q w3 ⟨rfl,hb⟩;have F3:=h_ (F2.o.call hb);have X3:=h_ (X2.o.below hb);have D3:=h_ (D2.o.below hb);have c0_3:=F3.o.c3 0 rfl;have c1_3:=F3.o.c3 1 rfl;have c2_3:=F3.o.c3 2 rfl;go_wp2_with fail;refine(CP.o _ _ D3.o).mono ?_;rintro q w4 ⟨u,rfl,hu,hb⟩;have F4:=h_ (F3.o.call hb);have X4:=h_ (X3.o.below hb);have D4:=h_ (D3.o.below hb);have P4:=h_ (hu);have c0_4:=F4.o.c3 0 rfl;have c1_4:=F4.o.c3 1 rfl;have c2_4:=F4.o.c3 2 rfl;go_wp2_with fail;refine(CM.o _ _ P4.o).mono ?_;rintro q w5 ⟨u,rfl,hu,hb⟩;have F5:=h_ (F4.o.call hb);have X5:=h_ (X4.o.below hb);have D5:=h_ (D4.o.below hb);have P5:=h_ (P4.o.below hb);have R5:=h_ (hu);have c0_5:=F5.o.c3 0 rfl;have c1_5:=F5.o.c3 1 rfl;have c2_5:=F5.o.c3 2 rfl;obtain⟨a4,k4,c4,rfl⟩:=R5.o.fm;go_wp2;obtain⟨f,p⟩:=F5.o.s3 1 rfl (.bool rn) (.slice a4 k4 c4) (.int .i64 re) rfl rfl rfl;generalize setCell _ _ _=W at f p |-;have g1':=f.c3 1 rfl;refine bodyPost_ret (v:=.tuple #[.agg #[.bool rn,.slice a4 k4 c4,.int .i64 re],.int .i64 0]) (by simp[results,Tryz.results100,go_sem,g1']) rfl ?_;exact⟨_,rfl,R5.o.kp p,f.b⟩
def Sc(x:Dn)(m:Int)(d:Dn):Prop:=d.neg=false/\d.e=x.e*m/\(x.m=1/\d.m=1\/0<=m/\d.m=x.m^m.toNat)/\-4096<=d.e/\d.e<=4096/\bl d.m<=3500/\d.m%2=1
theorem Yz{n:Bool}{m:Nat}{e:Int}(h:m%2=1)(he:-200000<=e/\e<=200000):Qa ⟨n,m,e⟩=⟨n,m,e⟩:=by
 obtain⟨j,rfl⟩:∃j,m=2*j+1:=⟨m/2,by omega⟩
 exact Wz he
theorem Aw{x:Nat}(h:x%2=1)(m:Nat):x^m%2=1:=by
 induction m with
 | zero=>rfl
 | succ m ih=>rw[Nat.pow_succ,Nat.mul_mod,ih,h]
theorem Qcy{w:World}{u:Value}{x:Dn}(hu:Cy w u x)(hodd:x.m%2=1)(hm64:x.m<18446744073709551616)(he:-100000<=x.e/\x.e<=100000)(m:Int)(hm:-9223372036854775808<m/\m<9223372036854775808) :
  Calls Tryz.prog 118 #[u,.int .i64 m] w (Pc (Sc x m) w):=by
 obtain⟨n,xm,e⟩:=x;simp only at hodd hm64 he;have C1:=h_ (fun w=>Qfr w e m (by omega) hm);have bm:=Zs hm64;have BM:Qb (bl xm<=64):=bm;have CL:=h_ (fun w u (h:Dg w u xm)=>Xh (h.rd (by omega)));have HM:=h_ (And.intro hodd hm64);have HB1:=h_ (show bl xm=1->xm=1 from fun h=>by have:=Zb xm;rw[h]at this;omega);obtain⟨ok,hok⟩:∃ok,ok=decide (e.natAbs*m.natAbs<=4096):=⟨_,rfl⟩
 have hem:ok=true->(e*m).natAbs<=4096:=fun h=>by rw[h]at hok;rw[Int.natAbs_mul];exact of_decide_eq_true hok.symm
 obtain⟨f,hf⟩:∃f,f=if e.natAbs*m.natAbs<=4096 then e*m else 0:=⟨_,rfl⟩
 have hfe:ok=true->f=e*m:=fun h=>by rw[h]at hok;rw[hf,if_pos (of_decide_eq_true hok.symm)]
 rw[<-hok,<-hf]at C1;have HF:=h_ (And.intro hem hfe);obtain⟨l,hl⟩:∃l,l=bl xm:=⟨_,rfl⟩
 have HL:=h_ hl;rw[<-hl]at CL bm;obtain⟨a1,k1,c1,rfl⟩:=hu.fm;have X:=h_ hu;have HMM:=h_ hm;clear hu hok hem hf hfe hl he hm hodd hm64;cases ok
 case false =>
  go_enter Tryz.func118,Tryz.ntmps118;have F0:=h_ (Fx.two w 42 #[.bool n,.slice a1 k1 c1,.int .i64 e] 42 #[.bool false,.slice none 0 0,.int .i64 0] rfl rfl);have X0:=h_ ((X.o.alloc (.cells #[.bool n,.slice a1 k1 c1,.int .i64 e] 42)).alloc (.cells #[.bool false,.slice none 0 0,.int .i64 0] 42));clear X;go_upto_region 1 with(fail)
  generalize alloc (alloc _ _) _=w0 at F0 X0 |-;have D0:=h_ X0.o.dm;have c0_0:=F0.o.c3 0 rfl;have c1_0:=F0.o.c3 1 rfl;go_wp2_with fail;refine(C1.o _).mono ?_;rintro q w1 ⟨rfl,hb⟩;have F1:=h_ (F0.o.call hb);have D1:=h_ (D0.o.below hb);have c0_1:=F1.o.c3 0 rfl;have c1_1:=F1.o.c3 1 rfl;go_wp2;obtain⟨f9,p⟩:=F1.o.s3 1 rfl (.bool false) (.slice none 0 0) (.int .i64 0) rfl rfl rfl;generalize setCell (setCell (setCell _ _ _) _ _) _ _=W at f9 p |-;have g1':=f9.c3 1 rfl;refine bodyPost_ret (v:=.tuple #[.agg #[.bool false,.slice none 0 0,.int .i64 0],.bool false]) (by simp[results,Tryz.results118,go_sem,g1']) rfl ?_;exact⟨_,_,false,rfl,Cy.zero3 (D1.o.tab.kp p),nofun,f9.b⟩
 have HF2:Qb (f=e*m/\-4096<=f/\f<=4096):=by obtain⟨h1,h2⟩:=HF.o;have h3:=h2 rfl;have h4:=h1 rfl;rw[<-h3]at h4;exact⟨h3,by omega,by omega⟩
 by_cases h3:l=1
 case pos =>
  have hm1:=h_ (HB1.o (HL.o▸h3));subst h3;go_enter Tryz.func118,Tryz.ntmps118;have F0:=h_ (Fx.two w 42 #[.bool n,.slice a1 k1 c1,.int .i64 e] 42 #[.bool false,.slice none 0 0,.int .i64 0] rfl rfl);have X0:=h_ ((X.o.alloc (.cells #[.bool n,.slice a1 k1 c1,.int .i64 e] 42)).alloc (.cells #[.bool false,.slice none 0 0,.int .i64 0] 42));clear X;go_upto_region 1 with(fail)
  generalize alloc (alloc _ _) _=w0 at F0 X0 |-;have D0:=h_ X0.o.dm;have c0_0:=F0.o.c3 0 rfl;have c1_0:=F0.o.c3 1 rfl;go_wp2_with fail;refine(C1.o _).mono ?_;rintro q w1 ⟨rfl,hb⟩;have F1:=h_ (F0.o.call hb);have D1:=h_ (D0.o.below hb);have c0_1:=F1.o.c3 0 rfl;have c1_1:=F1.o.c3 1 rfl;go_wp2_with fail;refine(CL.o _ _ D1.o).mono ?_;rintro q w2 ⟨rfl,hb⟩;have F2:=h_ (F1.o.call hb);have D2:=h_ (D1.o.below hb);have c0_2:=F2.o.c3 0 rfl;have c1_2:=F2.o.c3 1 rfl;go_wp2;obtain⟨f9,p⟩:=F2.o.s3 1 rfl (.bool false) (.slice a1 k1 c1) (.int .i64 f) rfl rfl rfl;generalize setCell (setCell (setCell _ _ _) _ _) _ _=W at f9 p |-;have g1':=f9.c3 1 rfl;refine bodyPost_ret (v:=.tuple #[.agg #[.bool false,.slice a1 k1 c1,.int .i64 f],.bool true]) (by simp[results,Tryz.results118,go_sem,g1']) rfl ?_;exact⟨_,⟨false,xm,f⟩,true,rfl,⟨_,rfl,D2.o.kp p,Nat.le_trans BM.o (by decide),by have:=HF2.o;show _<=f;omega,by have:=HF2.o;show f<=_;omega⟩,fun _=>⟨rfl,HF2.o.1,.inl ⟨hm1.o,hm1.o⟩,HF2.o.2.1,HF2.o.2.2,Nat.le_trans BM.o (by decide),HM.o.1⟩,f9.b⟩
 have z4:((l:Int)==1)=false:=by rw[beq_eq_false_iff_ne];omega
 have z5:¬(l:Int)=1:=by omega
 have z6:¬l=1:=h3;by_cases h4:m<0
 case pos =>
  have y1:decide (m<0)=true:=decide_eq_true h4;go_enter Tryz.func118,Tryz.ntmps118;have F0:=h_ (Fx.two w 42 #[.bool n,.slice a1 k1 c1,.int .i64 e] 42 #[.bool false,.slice none 0 0,.int .i64 0] rfl rfl);have X0:=h_ ((X.o.alloc (.cells #[.bool n,.slice a1 k1 c1,.int .i64 e] 42)).alloc (.cells #[.bool false,.slice none 0 0,.int .i64 0] 42));clear X;go_upto_region 1 with(fail)
  generalize alloc (alloc _ _) _=w0 at F0 X0 |-;have D0:=h_ X0.o.dm;have c0_0:=F0.o.c3 0 rfl;have c1_0:=F0.o.c3 1 rfl;go_wp2_with fail;refine(C1.o _).mono ?_;rintro q w1 ⟨rfl,hb⟩;have F1:=h_ (F0.o.call hb);have D1:=h_ (D0.o.below hb);have c0_1:=F1.o.c3 0 rfl;have c1_1:=F1.o.c3 1 rfl;go_wp2_with fail;refine(CL.o _ _ D1.o).mono ?_;rintro q w2 ⟨rfl,hb⟩;have F2:=h_ (F1.o.call hb);have D2:=h_ (D1.o.below hb);have c0_2:=F2.o.c3 0 rfl;have c1_2:=F2.o.c3 1 rfl;go_wp2;obtain⟨f9,p⟩:=F2.o.s3 1 rfl (.bool false) (.slice none 0 0) (.int .i64 0) rfl rfl rfl;generalize setCell (setCell (setCell _ _ _) _ _) _ _=W at f9 p |-;have g1':=f9.c3 1 rfl;refine bodyPost_ret (v:=.tuple #[.agg #[.bool false,.slice none 0 0,.int .i64 0],.bool false]) (by simp[results,Tryz.results118,go_sem,g1']) rfl ?_;exact⟨_,_,false,rfl,Cy.zero3 (D2.o.tab.kp p),nofun,f9.b⟩
 have y1:decide (m<0)=false:=decide_eq_false h4;by_cases h5:54<m
 case pos =>
  have y2:decide (54<m)=true:=decide_eq_true h5;go_enter Tryz.func118,Tryz.ntmps118;have F0:=h_ (Fx.two w 42 #[.bool n,.slice a1 k1 c1,.int .i64 e] 42 #[.bool false,.slice none 0 0,.int .i64 0] rfl rfl);have X0:=h_ ((X.o.alloc (.cells #[.bool n,.slice a1 k1 c1,.int .i64 e] 42)).alloc (.cells #[.bool false,.slice none 0 0,.int .i64 0] 42));clear X;go_upto_region 1 with(fail)
  generalize alloc (alloc _ _) _=w0 at F0 X0 |-;have D0:=h_ X0.o.dm;have c0_0:=F0.o.c3 0 rfl;have c1_0:=F0.o.c3 1 rfl;go_wp2_with fail;refine(C1.o _).mono ?_;rintro q w1 ⟨rfl,hb⟩;have F1:=h_ (F0.o.call hb);have D1:=h_ (D0.o.below hb);have c0_1:=F1.o.c3 0 rfl;have c1_1:=F1.o.c3 1 rfl;go_wp2_with fail;refine(CL.o _ _ D1.o).mono ?_;rintro q w2 ⟨rfl,hb⟩;have F2:=h_ (F1.o.call hb);have D2:=h_ (D1.o.below hb);have c0_2:=F2.o.c3 0 rfl;have c1_2:=F2.o.c3 1 rfl;go_wp2;obtain⟨f9,p⟩:=F2.o.s3 1 rfl (.bool false) (.slice none 0 0) (.int .i64 0) rfl rfl rfl;generalize setCell (setCell (setCell _ _ _) _ _) _ _=W at f9 p |-;have g1':=f9.c3 1 rfl;refine bodyPost_ret (v:=.tuple #[.agg #[.bool false,.slice none 0 0,.int .i64 0],.bool false]) (by simp[results,Tryz.results118,go_sem,g1']) rfl ?_;exact⟨_,_,false,rfl,Cy.zero3 (D2.o.tab.kp p),nofun,f9.b⟩
 have y2:decide (54<m)=false:=decide_eq_false h5;obtain⟨j,rfl⟩:∃j:Nat,m=(j:Int):=⟨m.toNat,by omega⟩
 have hj:j<=54:=by omega
 have lj:bl xm*j<=3456:=Nat.le_trans (Nat.mul_le_mul BM.o hj) (by decide);have o1:Qa ⟨false,xm,0⟩=⟨false,xm,0⟩:=Yz HM.o.1 (by decide);have o2:Qa ⟨false,xm^j,0⟩=⟨false,xm^j,0⟩:=Yz (Aw HM.o.1 j) (by decide);have CP:=h_ (fun w u (h:Cy w u ⟨false,xm,0⟩)=>Qb6 (m:=j) h ⟨Nat.le_trans BM.o (by decide),by show(-4000:Int)<=0;decide,by show(0:Int)<=4000;decide⟩ (by rw[o1]) (by rw[o1];exact Nat.le_trans lj (by decide)) (by rw[o1];simp) (by rw[o1];exact HM.o.2) (by omega));rw[o1]at CP;have e1:(⟨false,xm,0⟩:Dn).e*(j:Int)=0:=Int.zero_mul _;rw[e1,o2]at CP;have bp:bl (xm^j)<=3500:=Nat.le_trans (Uo xm j) (by rw[Nat.mul_comm];omega);have HP:=h_ (And.intro bp (Aw HM.o.1 j));obtain⟨p,hp⟩:∃p,p=xm^j:=⟨_,rfl⟩
 have HPP:=h_ hp;rw[<-hp]at CP HP;clear o1 o2 e1 lj hj bp hp h5 h4 h3;go_enter Tryz.func118,Tryz.ntmps118;have F0:=h_ (Fx.two w 42 #[.bool n,.slice a1 k1 c1,.int .i64 e] 42 #[.bool false,.slice none 0 0,.int .i64 0] rfl rfl);have X0:=h_ ((X.o.alloc (.cells #[.bool n,.slice a1 k1 c1,.int .i64 e] 42)).alloc (.cells #[.bool false,.slice none 0 0,.int .i64 0] 42));clear X;go_upto_region 1 with(fail)
 generalize alloc (alloc _ _) _=w0 at F0 X0 |-;have D0:=h_ X0.o.dm;have c0_0:=F0.o.c3 0 rfl;have c1_0:=F0.o.c3 1 rfl;go_wp2_with fail;refine(C1.o _).mono ?_;rintro q w1 ⟨rfl,hb⟩;have F1:=h_ (F0.o.call hb);have D1:=h_ (D0.o.below hb);have c0_1:=F1.o.c3 0 rfl;have c1_1:=F1.o.c3 1 rfl;go_wp2_with fail;refine(CL.o _ _ D1.o).mono ?_;rintro q w2 ⟨rfl,hb⟩;have F2:=h_ (F1.o.call hb);have D2:=h_ (D1.o.below hb);have c0_2:=F2.o.c3 0 rfl;have c1_2:=F2.o.c3 1 rfl;have Y2:Qb (Cy w2 (.agg #[.bool false,.slice a1 k1 c1,.int .i64 0]) ⟨false,xm,0⟩):=⟨_,rfl,D2.o,Nat.le_trans BM.o (by decide),by show _<=(0:Int);decide,by show(0:Int)<=_;decide⟩
 go_wp2_with fail;refine(CP.o _ _ Y2.o).mono ?_;rintro q w3 ⟨u,rfl,hu,hb⟩;have F3:=h_ (F2.o.call hb);have D3:=h_ (D2.o.below hb);have Y3:=h_ (Y2.o.below hb);have R3:=h_ (hu);have c0_3:=F3.o.c3 0 rfl;have c1_3:=F3.o.c3 1 rfl;obtain⟨a4,k4,c4,rfl⟩:=R3.o.fm;have E3:=h_ R3.o.dm;clear R3 hu;go_upto_region 9 with(fail)
 have F4:=h_ (F3.o.new 42 #[.bool false,.slice a4 k4 c4,.int .i64 0] rfl);have E4:=h_ (E3.o.alloc (.cells #[.bool false,.slice a4 k4 c4,.int .i64 0] 42));obtain⟨g1,hg1⟩:∃g,g=(World.heap w3).size:=⟨_,rfl⟩
 rw[<-hg1]at F4 |-;clear hg1;simp only[nil_append,cons_append]at F4;generalize alloc w3 _=W4 at F4 E4 |-;have c0_4:=F4.o.c3 0 rfl;have c1_4:=F4.o.c3 1 rfl;have c2_4:=F4.o.c3 2 rfl;go_upto_region 10 with(fail)
 obtain⟨f9,p9⟩:=F4.o.set 2 2 rfl rfl (u:=.int .i64 f) rfl;generalize setCell _ _ _=W2 at f9 p9 |-;have F5:=h_ (show Fx w W2 [(w.heap.size,42,#[.bool n,.slice a1 k1 c1,.int .i64 e]),(w.heap.size+1,42,#[.bool false,.slice none 0 0,.int .i64 0]),(g1,42,#[.bool false,.slice a4 k4 c4,.int .i64 f])]from f9);have E5:=h_ (E4.o.kp p9);clear f9 p9 F4 E4;have c0_5:=F5.o.c3 0 rfl;have c1_5:=F5.o.c3 1 rfl;have c2_5:=F5.o.c3 2 rfl;go_wp2;obtain⟨f9,pk⟩:=F5.o.s3 1 rfl (.bool false) (.slice a4 k4 c4) (.int .i64 f) rfl rfl rfl;generalize setCell (setCell (setCell _ _ _) _ _) _ _=W at f9 pk |-;have g1':=f9.c3 1 rfl;refine bodyPost_ret (v:=.tuple #[.agg #[.bool false,.slice a4 k4 c4,.int .i64 f],.bool true]) (by simp[results,Tryz.results118,go_sem,g1']) rfl ?_;exact⟨_,⟨false,p,f⟩,true,rfl,⟨_,rfl,E5.o.kp pk,Nat.le_trans HP.o.1 (by decide),by have:=HF2.o;show _<=f;omega,by have:=HF2.o;show f<=_;omega⟩,fun _=>⟨rfl,HF2.o.1,.inr ⟨by omega,by rw[HPP.o];simp⟩,HF2.o.2.1,HF2.o.2.2,HP.o.1,HP.o.2⟩,f9.b⟩
theorem Qaw(n:Nat):0<pw n:=Nat.two_pow_pos n
theorem Lv{b:Nat}(h:¬(Qp b=0/\Xs b=0)):Xi b≠0:=by unfold Xi;split<;>omega
theorem Ea(b:Nat):bl (Xi b)<=53:=Zp (Nat.lt_of_lt_of_le (Lw b) (by decide))
theorem Us{b:Nat}(h:Qp b<2047):-1074<=Jt b/\Jt b<=971:=by unfold Jt;omega
theorem Xo{b:Nat}(h:Qp b<2047)(h0:¬(Qp b=0/\Xs b=0)) :
  (Qf b).neg=J7 b/\(Qf b).m≠0/\bl (Qf b).m<=53/\-1074<=(Qf b).e/\(Qf b).e<=Qg (Qf b)/\Qa (Qf b)=Qf b/\Qg (Qf b)=(bl (Xi b):Int)-1+Jt b /\
  ((Qf b).e:Int)+bl (Qf b).m=Qg (Qf b)+1:=by
 have hm:=Lv h0;have hb:=Ea b;obtain⟨e1,e2⟩:=Us h;obtain⟨k,j,-,hd,hl⟩:=Ji (n:=J7 b) hm ⟨(by omega:-100000<=Jt b),by omega⟩;have hi:=Iu (n:=J7 b) (m:=Xi b) (e:=Jt b) ⟨by omega,by omega⟩ (by omega);obtain⟨ht,-⟩:=Qad (n:=J7 b) (m:=Xi b) (e:=Jt b) hm ⟨by omega,by omega⟩ (by omega);have hj:bl (2*j+1)≠0:=by rw[Zi (by omega)];omega
 have hD:Qf b=⟨J7 b,2*j+1,Jt b+(k:Int)⟩:=hd;have hi:Qa (Qf b)=Qf b:=hi;have ht:Qg (Qf b)=(bl (Xi b):Int)-1+Jt b:=ht;refine⟨by rw[hD],by rw[hD];simp,?_,?_,?_,hi,ht,?_⟩
 .rw[hD];simp only;omega
 .rw[hD];simp only;omega
 .rw[ht,hD];simp only;omega
 .rw[ht,hD];simp only;omega
theorem Pw{b:Nat}(h:Qp b<2047)(h0:¬(Qp b=0/\Xs b=0)):Sd (Qf b)/\-1074<=Qg (Qf b)/\Qg (Qf b)<=1023:=by obtain⟨-,h2,h3,h4,h5,h6,h7,h8⟩:=Xo h h0;have hb:=Ea b;obtain⟨e1,e2⟩:=Us h;exact⟨⟨by omega,by omega,by omega⟩,by omega,by omega⟩
theorem Qiy{b K:Nat}(h:Qp b<2047)(hK:1074<=K/\K<=100000):mz (K:Int) (Qf b)=Xi b*pw (Jt b+K).toNat:=by obtain⟨e1,e2⟩:=Us h;unfold Qf;rw[Vu (by omega) (d:=⟨J7 b,Xi b,Jt b⟩) (by simp only;omega) (by simp only;omega)];rfl
theorem Qix{b:Nat}(h:Qp b<2047)(h0:¬(Qp b=0/\Xs b=0)):Zk 1130 (Qf b):=by obtain⟨-,h2,h3,h4,h5,h6,h7,h8⟩:=Xo h h0;obtain⟨s,t1,t2⟩:=Pw h h0;exact⟨by omega,by omega,by omega⟩
theorem Qig:zv 1130 (Qk 1)=(pw 1130:Int):=by have:zv 1130 (Qa ⟨false,1,0⟩)=zv 1130 ⟨false,1,0⟩:=Kx (by decide) (by decide) (by decide);have e:Qk 1=Qa ⟨false,1,0⟩:=rfl;rw[e,this];unfold zv;rw[Qj9 _ _ _ _ 1130 (by decide),Nat.one_mul];rfl
theorem Qih:Zk 1130 (Qk 1):=ofN_zk' where
 ofN_zk':Zk 1130 (Qa ⟨false,1,0⟩):=by refine⟨?_,?_,?_⟩<;>decide +kernel
theorem Qgz{x:Nat}(hx:x<9223372036854775808)(h:Qp x<2047)(h0:¬(Qp x=0/\Xs x=0))(h1:x≠4607182418800017408) :
  Qh (Qf x) (Qk 1)=if decide (4607182418800017408<x)=true then 1 else -1:=by
 rw[Wb (K:=1130) (by decide) (Qix h h0) Qih,Qig];obtain⟨hn,-⟩:=Xo h h0;have hs:J7 x=false:=decide_eq_false (by omega);rw[hs]at hn;have hz:zv 1130 (Qf x)=(mz 1130 (Qf x):Int):=by unfold zv;rw[hn];rfl
 have hm:=Qiy (K:=1130) h ⟨by omega,by omega⟩;have hm:mz 1130 (Qf x)=Xi x*pw (Jt x+1130).toNat:=hm;rw[hz,hm];have hf:Qp x=x/4503599627370496:=by unfold Qp;omega
 have hr:x=4503599627370496*Qp x+Xs x:=by rw[hf];unfold Xs;omega
 have hfr:Xs x<4503599627370496:=Nat.mod_lt _ (by decide);have p52:pw 52=4503599627370496:=by decide
 have p53:pw 53=9007199254740992:=by decide
 by_cases hc:Qp x<1023
 .have hl:Xi x*pw (Jt x+1130).toNat<pw 1130:=by
   have a1:(Jt x+1130).toNat<=1077:=by unfold Jt;omega
   have a2:pw (Jt x+1130).toNat<=pw 1077:=Qej a1;have a3:Xi x*pw (Jt x+1130).toNat<=Xi x*pw 1077:=Nat.mul_le_mul_left _ a2;have a4:Xi x*pw 1077<pw 53*pw 1077:=Nat.mul_lt_mul_of_pos_right (by rw[p53];exact Lw x) (Qaw _);rw[Df]at a4;exact Nat.lt_of_le_of_lt a3 a4
  rw[Cn (Int.ofNat_lt.2 hl),decide_eq_false (by omega)];rfl
 .have hl:pw 1130<Xi x*pw (Jt x+1130).toNat:=by
   have hmm:Xi x=Xs x+4503599627370496:=by unfold Xi;rw[if_neg (by omega)]
   by_cases hd:Qp x=1023
   .have a1:(Jt x+1130).toNat=1078:=by unfold Jt;omega
    have a4:pw 52*pw 1078<Xi x*pw 1078:=Nat.mul_lt_mul_of_pos_right (by rw[p52];omega) (Qaw _);rw[a1];rw[Df]at a4;exact a4
   .have a1:1079<=(Jt x+1130).toNat:=by unfold Jt;omega
    have a2:pw 1079<=pw (Jt x+1130).toNat:=Qej a1;have a3:Xi x*pw 1079<=Xi x*pw (Jt x+1130).toNat:=Nat.mul_le_mul_left _ a2;have a4:pw 52*pw 1079<=Xi x*pw 1079:=Nat.mul_le_mul_right _ (by rw[p52];omega);rw[Df]at a4;exact Nat.lt_of_lt_of_le (Qj3 (by decide:1130<52+1079)) (Nat.le_trans a4 a3)
  rw[Co (Int.ofNat_lt.2 hl),decide_eq_true (by omega)];rfl
theorem Qh7{y:Nat}(h:Qp y<2047)(h0:¬(Qp y=0/\Xs y=0)):Qe (Qf y)=if J7 y=true then -1 else 1:=by obtain⟨hn,h2,-⟩:=Xo h h0;unfold Qe;rw[if_neg h2,hn]
theorem Qap{x y:Nat}(hx:x<9223372036854775808)(fx:Qp x<2047)(nx:¬(Qp x=0/\Xs x=0))(h1:x≠4607182418800017408)(fy:Qp y<2047)(ny:¬(Qp y=0/\Xs y=0)) :
  Ze (Qf x) (Qf y)=if(decide (4607182418800017408<x) != J7 y)=true then 1 else -1:=by
 unfold Ze;rw[Qgz hx fx nx h1,Qh7 fy ny];generalize decide (4607182418800017408<x)=p;generalize J7 y=q;cases p<;>cases q<;>rfl
theorem Dw{m:Nat}{t:Int}(h:-1074<=t/\t<=1023):(Xl m t).natAbs<=1076:=by unfold Xl;split<;>omega
end Go.Proofs.YtobpioceopfkpaaGreatDoor
