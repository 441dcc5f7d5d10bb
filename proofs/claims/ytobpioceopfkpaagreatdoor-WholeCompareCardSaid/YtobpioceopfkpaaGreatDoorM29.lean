/-
  Lemmas for WholeCompare (part 29); without conditions.
-/
import Derived.Test.YtobpioceopfkpaaGreatDoorM21
import Derived.Test.YtobpioceopfkpaaGreatDoorM22
set_option maxRecDepth 100000
set_option maxHeartbeats 4000000
namespace Go.Proofs.YtobpioceopfkpaaGreatDoor
open Go.RowKit
open World (setCell alloc drew)
open List (set_cons_zero set_cons_succ setIfInBounds_toArray cons_append nil_append)
theorem sZ{α}{a b:α}{l:List α}:(a::l).set 0 b=b::l:=rfl
theorem sS{α}{a b:α}{l:List α}{n:Nat}:(a::l).set (n+1) b=a::l.set n b:=rfl
theorem sI{α}{l:List α}{i:Nat}{a:α}:l.toArray.setIfInBounds i a=(l.set i a).toArray:=List.setIfInBounds_toArray _ _ _
def Vl(u N:Nat)(g:Bool):Nat:=if(decide (u%N≠0)&&g)=true then u/N+1 else u/N
def Uf(d:Dn)(N s:Nat)(g:Bool):Dn:=Qa ⟨(Qa d).neg,Vl (Qx d s g) N g,-(s:Int)⟩
def DvI(w wx:World)(p q:Value)(D:Array Value)(U:Nat)(g:Bool):Prop:=∃U0 r,q=.bool r/\Fx w wx [(w.heap.size,42,D),(w.heap.size+1,42,#[.bool false,.slice none 0 0,.int .i64 0])]/\Dg wx p U0/\bl U0<=200000/\U=if(r&&g)=true then U0+1 else U0
def DvJ(w wx:World)(p:Value)(D:Array Value)(U:Nat):Prop:=Fx w wx [(w.heap.size,42,D),(w.heap.size+1,42,#[.bool false,.slice none 0 0,.int .i64 0])]/\Dg wx p U
theorem Fa{w:World}{u:Value}{d:Dn}(hu:Ry w u d)(sd:Sd d){N:Nat}(hN:0<N/\N<18446744073709551616)(s:Nat)(hs:s<=9000)(z:Int)(g:Bool)(hg:((Qa d).neg==(z==3))=g)(bu:bl (Qx d s g)<=200000) :
  Calls Tryz.prog 131 #[u,.int .u64 (N:Int),.int .i64 (s:Int),.int .i64 z] w (Mb (Uf d N s g) w):=by
 have CA:=h_ (fun w (h:Ry w u d)=>Xr h sd);have bd:=sd.bare;obtain⟨a1,k1,c1,rfl⟩:=hu.form;have HR1:0<=(Qa d).e+(s:Int)->Qb (Qx d s g=(Qa d).m*2^((Qa d).e+(s:Int)).toNat):=fun h=>by unfold Qx;rw[if_pos h];exact rfl
 have HR2:¬0<=(Qa d).e+(s:Int)->Qb (Qx d s g=if(decide ((Qa d).m%2^(-(Qa d).e-(s:Int)).toNat≠0)&&g)=true then(Qa d).m/2^(-(Qa d).e-(s:Int)).toNat+1 else(Qa d).m/2^(-(Qa d).e-(s:Int)).toNat):=fun h=>by unfold Qx;rw[if_neg h];exact rfl
 have HD:Uf d N s g=Qa ⟨(Qa d).neg,Vl (Qx d s g) N g,-(s:Int)⟩:=rfl;rw[HD];generalize Qx d s g=U at *
 generalize Qa d=D at *
 obtain⟨n,m,e⟩:=D;simp only at bd HR1 HR2 hg |-;obtain⟨zb,hzb⟩:∃b,b=(z==3):=⟨_,rfl⟩
 rw[<-hzb]at hg;have z3:(z==3)=zb:=hzb.symm;have hBU:bl (U/N)<=200000:=Nat.le_trans (Zc (Nat.div_le_self _ _)) bu;have hBQ:bl (Vl U N g)<=200001:=by have h1:=Zb (U/N);have h2:bl (U/N+1)<=bl (U/N)+1:=Zp (by rw[Nat.pow_succ];have:=Nat.two_pow_pos (bl (U/N));omega);unfold Vl;split<;>omega
 have CS:=h_ (fun w u (h:Dg w u U)=>Tf (h.rd (by omega)) hN.1 hN.2);have CM:=h_ (fun w u (h:Dg w u (Vl U N g))=>Kf (neg:=n) (e:=-(s:Int)) (h.rd (by omega)) (by omega) (by omega));have HQ:Qb (Vl U N g=if(decide (U%N≠0)&&g)=true then U/N+1 else U/N):=rfl;have CI:=h_ (fun w u v (h:Dg w u (U/N)) (k:Dg w v 1)=>Xd (h.rd (by omega)) (k.rd (by have:bl 1<=64:=Zs (by decide);omega)));have q9:IntKind.i64.wrap (-(s:Int))=-(s:Int):=IntWalk.i64_in _ (by omega);generalize Vl U N g=Q at *
 generalize U/N=UN at *
 generalize U%N=UR at *
 have HUU:=h_ hu;have HBD:=h_ bd;have HSS:=h_ hs;clear hu sd hN hzb HD bu hBU hBQ;go_enter Tryz.func131,Tryz.ntmps131;have F0:=h_ (Fx.two w 42 #[.bool d.neg,.slice a1 k1 c1,.int .i64 d.e] 42 #[.bool false,.slice none 0 0,.int .i64 0] rfl rfl);have X0:=h_ ((HUU.o.alloc (.cells #[.bool d.neg,.slice a1 k1 c1,.int .i64 d.e] 42)).alloc (.cells #[.bool false,.slice none 0 0,.int .i64 0] 42));clear HUU;go_upto_region 1 with(fail)
 generalize alloc (alloc _ _) _=w0 at F0 X0 |-;have c0_0:=F0.o.c3 0 rfl;have c1_0:=F0.o.c3 1 rfl;go_wp2_with fail;refine(CA.o _ X0.o).mono ?_;rintro q w1 ⟨u,rfl,hu,hb⟩;have F1:=h_ (F0.o.call hb);have X1:=h_ (X0.o.below hb);have U1:=h_ (hu);clear hb;have c0_1:=F1.o.c3 0 rfl;have c1_1:=F1.o.c3 1 rfl;obtain⟨a3,k3,c3,rfl⟩:=U1.o.fm;go_upto_region 2 with(fail)
 obtain⟨f,p⟩:=F1.o.s3 0 rfl (.bool n) (.slice a3 k3 c3) (.int .i64 e) rfl rfl rfl;generalize setCell _ _ _=W at f p |-;have F2:=h_ (f);have U2:=h_ (U1.o.kp p);simp only[sZ]at F2;have c0_2:=F2.o.c3 0 rfl;have c1_2:=F2.o.c3 1 rfl;obtain⟨zz,hz⟩:∃z,z=e+(s:Int):=⟨_,rfl⟩
 have q1:IntKind.i64.wrap (e+(s:Int))=zz:=by rw[hz];have:=HBD.o;have:=HSS.o;exact IntWalk.i64_in _ (by omega)
 have HZZ:=h_ hz;obtain⟨tb,htb⟩:∃b,b=decide (0<=zz):=⟨_,rfl⟩
 have t1:decide (0<=zz)=tb:=htb.symm;have HTB:=h_ htb;clear hz htb
 go_upto_if 33 with(fail)
 clear t1;go_cut [10,11] (fun p q wx=>Qb (DvI w wx p q #[.bool n,.slice a3 k3 c3,.int .i64 e] U g))
 case first =>
  have c0_2:=F2.o.c3 0 rfl;have c1_2:=F2.o.c3 1 rfl;have bd:=HBD.o;have hs:=HSS.o;have hz:=HZZ.o;have htb:=HTB.o;cases tb
  case true =>
   have hq:0<=zz:=of_decide_eq_true htb.symm;clear htb;obtain⟨j,rfl⟩:∃j:Nat,zz=(j:Int):=⟨zz.toNat,by omega⟩
   have hj:j=(e+(s:Int)).toNat:=by omega
   have CL:=h_ (fun w u (h:Dg w u m)=>Yh (h.rd (by omega)) j (by omega));have HR:=HR1 (by omega);rw[<-hj]at HR;have HBB:Qb (bl (m*2^j)<=200000):=Nat.le_trans (He m j) (by omega);clear HR1 HR2 bd hj hq hs hz;go_wp2_with fail;refine(CL.o _ _ U2.o.dm).mono ?_;rintro q w3 ⟨u,rfl,hu,hb⟩;have F3:=h_ (F2.o.call hb);have U3:=h_ (U2.o.below hb);have P3:=h_ (hu);clear hb;have c0_3:=F3.o.c3 0 rfl;have c1_3:=F3.o.c3 1 rfl;obtain⟨a4,k4,c4,rfl⟩:=P3.o.form;go_wp2;go_meet;exact⟨_,false,rfl,F3.o,P3.o,HBB.o,HR.o⟩
  case false =>
   have hq:¬0<=zz:=of_decide_eq_false htb.symm;clear htb;obtain⟨j,hj⟩:∃j,j=(-e-(s:Int)).toNat:=⟨_,rfl⟩
   have CL:=h_ (fun w u (h:Dg w u m)=>Tn (h.rd (by omega)) j (by omega));have HR:=HR2 (by omega);rw[<-hj]at HR;have HBB:Qb (bl (m/2^j)<=200000):=Nat.le_trans (Zc (Nat.div_le_self _ _)) (by omega);obtain⟨ne,hne⟩:∃ne,ne=-e:=⟨_,rfl⟩
   have q2:IntKind.i64.wrap (-e)=ne:=by rw[hne];exact IntWalk.i64_in _ (by omega)
   have q3:IntKind.i64.wrap (ne-(s:Int))=(j:Int):=by have:=IntWalk.i64_in (ne-(s:Int)) (by omega);omega
   generalize m/2^j=md at *
   generalize decide (m%2^j≠0)=r at *
   clear HR1 HR2 bd hj hq hs hz hne;go_wp2_with fail;refine(CL.o _ _ U2.o.dm).mono ?_;rintro q w3 ⟨u,rfl,hu,hb⟩;have F3:=h_ (F2.o.call hb);have U3:=h_ (U2.o.below hb);have P3:=h_ (hu);clear hb;have c0_3:=F3.o.c3 0 rfl;have c1_3:=F3.o.c3 1 rfl;obtain⟨a4,k4,c4,rfl⟩:=P3.o.form;go_wp2;go_meet;exact⟨_,r,rfl,F3.o,P3.o,HBB.o,HR.o⟩
 case rest =>
  obtain⟨U0,r,rfl,hf,hd,hb,hU⟩:=hcut.o;clear hcut F2 U2 HR1 HR2 HBD;have HB0:=h_ hb;have HU:=h_ hU;clear hb hU;have F8:=h_ hf;have P8:=h_ hd;clear hf hd;obtain⟨a4,k4,c4,rfl⟩:=P8.o.form;obtain⟨rg,hrg⟩:∃b,b=(r&&g):=⟨_,rfl⟩
  rw[<-hrg]at HU;have HRG:=h_ hrg;clear hrg;go_upto_region 7 with(fail)
  go_cut [56] (fun b wq=>b=.bool rg/\wq=wc)
  case first=>have hrg:=HRG.o;cases r<;>cases g<;>(subst hrg;go_wp2;go_meet;exact⟨rfl,rfl⟩)
  case rest =>
   obtain⟨rfl,rfl⟩:=hcut;clear HRG
   go_upto_if 56 with(fail)
   go_cut [10] (fun p wx=>Qb (DvJ w wx p #[.bool n,.slice a3 k3 c3,.int .i64 e] U))
   case first =>
    cases rg
    case false=>go_wp2;go_meet;exact⟨F8.o,by have h:=HU.o;rw[if_neg (by simp)]at h;rw[h];exact P8.o⟩
    go_wp2_with fail;refine(Zu (n:=1) (by decide) P8.o.tab).mono ?_;rintro q w9 ⟨u,rfl,hu,hb⟩;have F9:=h_ (F8.o.call hb);have P9:=h_ (P8.o.below hb);have O9:=h_ (hu);clear hb;go_wp2_with fail;refine(Xd (P9.o.rd (by have:=HB0.o;omega)) (O9.o.rd (by have:bl 1<=64:=Zs (by decide);omega))).mono ?_;rintro q w10 ⟨u,rfl,hu,hb⟩;have F10:=h_ (F9.o.call hb);have P10:=h_ (P9.o.below hb);have O10:=h_ (O9.o.below hb);have R10:=h_ (hu);clear hb;obtain⟨a5,k5,c5,rfl⟩:=R10.o.form;go_wp2;go_meet;exact⟨F10.o,by have h:=HU.o;rw[h];exact R10.o⟩
   case rest =>
    obtain⟨hf,hd⟩:=hcut.o;clear hcut F8 P8 HB0 HU;have F9:=h_ hf;have P9:=h_ hd;clear hf hd;obtain⟨a5,k5,c5,rfl⟩:=P9.o.form;go_wp2_with fail;refine(CS.o _ _ P9.o).mono ?_;rintro q w10 ⟨u,rfl,hu,hb⟩;have F10:=h_ (F9.o.call hb);have P10:=h_ (P9.o.below hb);have Q10:=h_ (hu);clear hb;obtain⟨a6,k6,c6,rfl⟩:=Q10.o.form;obtain⟨ur,hur⟩:∃b,b=decide (UR≠0):=⟨_,rfl⟩
    have t0:decide ((0:Int)<(UR:Int))=ur:=by rw[hur];by_cases h:UR=0<;>simp[h]<;>omega
    have t1:decide (0<UR)=ur:=by rw[hur];by_cases h:UR=0<;>simp[h]<;>omega
    rw[<-hur]at HQ;clear hur;obtain⟨rg,hrg⟩:∃b,b=(ur&&g):=⟨_,rfl⟩
    rw[<-hrg]at HQ;have HRG:=h_ hrg;clear hrg;go_upto_region 10 with(fail)
    go_cut [71] (fun b wq=>b=.bool rg/\wq=w10)
    case first=>have hrg:=HRG.o;cases ur<;>cases g<;>(subst hrg;go_wp2;go_meet;exact⟨rfl,rfl⟩)
    case rest =>
     obtain⟨rfl,rfl⟩:=hcut;clear HRG t0 t1
     go_upto_if 71 with(fail)
     go_cut [12] (fun p wx=>Qb (DvJ w wx p #[.bool n,.slice a3 k3 c3,.int .i64 e] Q))
     case first =>
      cases rg
      case false=>go_wp2;go_meet;exact⟨F10.o,by have h:=HQ.o;rw[if_neg (by simp)]at h;rw[h];exact Q10.o⟩
      go_wp2_with fail;refine(Zu (n:=1) (by decide) Q10.o.tab).mono ?_;rintro q w11 ⟨u,rfl,hu,hb⟩;have F11:=h_ (F10.o.call hb);have Q11:=h_ (Q10.o.below hb);have O11:=h_ (hu);clear hb;go_wp2_with fail;refine(CI.o _ _ _ Q11.o O11.o).mono ?_;rintro q w12 ⟨u,rfl,hu,hb⟩;have F12:=h_ (F11.o.call hb);have Q12:=h_ (Q11.o.below hb);have O12:=h_ (O11.o.below hb);have R12:=h_ (hu);clear hb;obtain⟨a7,k7,c7,rfl⟩:=R12.o.form;go_wp2;go_meet;exact⟨F12.o,by have h:=HQ.o;rw[h];exact R12.o⟩
     case rest =>
      obtain⟨hf,hd⟩:=hcut.o;clear hcut F10 Q10 HQ;have F11:=h_ hf;have P11:=h_ hd;clear hf hd;obtain⟨a7,k7,c7,rfl⟩:=P11.o.form;have c0_11:=F11.o.c3 0 rfl;have c1_11:=F11.o.c3 1 rfl;go_wp2_with fail;refine(CM.o _ _ P11.o).mono ?_;rintro q w12 ⟨u,rfl,hu,hb⟩;have F12:=h_ (F11.o.call hb);have P12:=h_ (P11.o.below hb);have R12:=h_ (hu);clear hb;have c0_12:=F12.o.c3 0 rfl;have c1_12:=F12.o.c3 1 rfl;clear P12;generalize Qa ⟨n,Q,-(s:Int)⟩=DD at *
      obtain⟨dn,dm,de⟩:=DD;obtain⟨a8,k8,c8,rfl⟩:=R12.o.fm;go_upto_region 13 with(fail)
      have F13:=h_ (F12.o.new 42 #[.bool dn,.slice a8 k8 c8,.int .i64 de] rfl);have R13:=h_ (R12.o.alloc (.cells #[.bool dn,.slice a8 k8 c8,.int .i64 de] 42));obtain⟨g9,hg9⟩:∃g,g=(World.heap w12).size:=⟨_,rfl⟩
      rw[<-hg9]at F13 |-;clear hg9;simp only[nil_append,cons_append]at F13;generalize alloc w12 _=W13 at F13 R13 |-;have c0_13:=F13.o.c3 0 rfl;have c1_13:=F13.o.c3 1 rfl;have c2_13:=F13.o.c3 2 rfl;go_wp2;obtain⟨f0,p0⟩:=F13.o.s3 1 rfl (.bool dn) (.slice a8 k8 c8) (.int .i64 de) rfl rfl rfl;have p:=p0;have f:=f0;generalize setCell _ _ _=W at f p |-;have g1:=f.c3 1 rfl;refine bodyPost_ret (v:=.agg #[.bool dn,.slice a8 k8 c8,.int .i64 de]) (by simp[results,Tryz.results131,go_sem,g1]) rfl ?_;exact⟨_,rfl,R13.o.kp p,f.b⟩
def zN(Z:In)(N s:Nat):In:=if N<=1 then Z else⟨Uf Z.lo N s (Qa Z.lo).neg,Uf Z.hi N s (!(Qa Z.hi).neg)⟩
theorem Qku{w:World}{u:Value}{x y:Dn}{N:Nat}{z tt:Int}(hu:Ag w u x y N z tt)(ok:Kq x y N z tt)(hN:0<N/\N<18446744073709551616)(xneg:(Qa x).neg=false)(x0:(Qa x).m≠0)(b:Nat)(hb:64<=b/\b<=1024)(ht:-1100<=Qg y/\Qg y<=1100)(s:Nat)(hs:Vp y b=(s:Int))(hs2:8<=s/\s<=3000)
  (s1:Sd (Xv (Qa x).m (Qg (Qa x)) s).lo) (s2:Sd (Xv (Qa x).m (Qg (Qa x)) s).hi) (r1:Qh (Xv (Qa x).m (Qg (Qa x)) s).lo (Xv (Qa x).m (Qg (Qa x)) s).hi<=0) (r2:Qh y y<=0)
  {R:In} (hR:Pu (Xv (Qa x).m (Qg (Qa x)) s) ⟨y,y⟩=R) (d1:Sd R.lo) (d2:Sd R.hi) (u1:bl (Qx R.lo s (Qa R.lo).neg)<=200000) (u2:bl (Qx R.hi s (!(Qa R.hi).neg))<=200000) :
  Calls Tryz.prog 90 #[u,.int .i64 (b:Int)] w fun e w'=>∃r,e=.returned (.tuple #[r,.int .i64 (s:Int),.int .i64 0])/\Iv w' r (zN R N s)/\Below w.heap.size w w':=by
 have CR:=h_ (fun w u (h:Ag w u x y N z tt)=>Ke h ok);have CS:=h_ (fun w u (h:Ag w u x y N z tt)=>Aq h ht b hb.2);have CL:=h_ (fun w u (h:Cy w u x)=>Qe2 h.ry ok.sx xneg x0 ok.bx s hs2);rw[hs]at CS;have CD1:=h_ (fun w u (h:Cy w u R.lo)=>Fa (z:=3) h.ry d1 hN s (by omega) (Qa R.lo).neg (by cases(Qa R.lo).neg<;>rfl) u1);have CD2:=h_ (fun w u (h:Cy w u R.hi)=>Fa (z:=2) h.ry d2 hN s (by omega) (!(Qa R.hi).neg) (by cases(Qa R.hi).neg<;>rfl) u2);have HZ:Qb (zN R N s=if N<=1 then R else⟨Uf R.lo N s (Qa R.lo).neg,Uf R.hi N s (!(Qa R.hi).neg)⟩):=rfl;generalize Uf R.lo N s (Qa R.lo).neg=V1 at *
 generalize Uf R.hi N s (!(Qa R.hi).neg)=V2 at *
 generalize zN R N s=ZZ at *
 obtain⟨tn,htn⟩:∃b,b=decide (1<N):=⟨_,rfl⟩
 have n1:decide (1<N)=tn:=htn.symm;have n2:decide ((1:Int)<(N:Int))=tn:=by rw[htn];by_cases h:1<N<;>simp[h]<;>omega
 have HTN:=h_ htn;clear htn d1 d2 u1 u2;have y1:decide ((b:Int)<32)=false:=decide_eq_false (by omega);have y2:decide ((8192:Int)<(b:Int))=false:=decide_eq_false (by omega);obtain⟨bq,hbq⟩:∃q:Int,q=(b:Int):=⟨_,rfl⟩
 obtain⟨sq,hsq⟩:∃q:Int,q=(s:Int):=⟨_,rfl⟩
 rw[<-hbq]at CS y1 y2 ⊢;rw[<-hsq]at CS CL CD1 CD2 ⊢;have CT:=h_ (fun w u v (h:Iv w u (Xv (Qa x).m (Qg (Qa x)) s)) (k:Cy w v y)=>Ev h k s1 s2 ok.sy r1 r2);rw[hR]at CT;generalize Xv (Qa x).m (Qg (Qa x)) s=L at *
 have HU:=h_ hu;obtain⟨a1,k1,c1,a2,k2,c2,he,hx,hy⟩:=hu;replace he:u=.agg #[.bool x.neg,.slice a1 k1 c1,.int .i64 x.e,.bool y.neg,.slice a2 k2 c2,.int .i64 y.e,.int .u64 (N:Int),.bool false,.int .i64 z,.int .i64 64,.int .i64 tt]:=he;subst he;obtain⟨xn,xm,xe⟩:=x;obtain⟨yn,ym,ye⟩:=y;simp only at hx hy;have HX:=h_ hx;have HY:=h_ hy;obtain⟨⟨ln,lm,le⟩,⟨ln',lm',le'⟩⟩:=L;obtain⟨⟨rn,rm,re⟩,⟨rn',rm',re'⟩⟩:=R;obtain⟨v1n,v1m,v1e⟩:=V1;obtain⟨v2n,v2m,v2e⟩:=V2;clear hx hy ok ht hb hs hs2 hbq hsq s1 s2 r1 r2 xneg x0 hR hN;go_enter Tryz.func90,Tryz.ntmps90;have F0:=h_ (Fz.two w 58 #[.bool xn,.slice a1 k1 c1,.int .i64 xe,.bool yn,.slice a2 k2 c2,.int .i64 ye,.int .u64 (N:Int),.bool false,.int .i64 z,.int .i64 64,.int .i64 tt] 92 #[.bool false,.slice none 0 0,.int .i64 0,.bool false,.slice none 0 0,.int .i64 0]);have U0:=h_ ((HU.o.alloc (.cells #[.bool xn,.slice a1 k1 c1,.int .i64 xe,.bool yn,.slice a2 k2 c2,.int .i64 ye,.int .u64 (N:Int),.bool false,.int .i64 z,.int .i64 64,.int .i64 tt] 58)).alloc (.cells #[.bool false,.slice none 0 0,.int .i64 0,.bool false,.slice none 0 0,.int .i64 0] 92));have X0:=h_ ((HX.o.alloc (.cells #[.bool xn,.slice a1 k1 c1,.int .i64 xe,.bool yn,.slice a2 k2 c2,.int .i64 ye,.int .u64 (N:Int),.bool false,.int .i64 z,.int .i64 64,.int .i64 tt] 58)).alloc (.cells #[.bool false,.slice none 0 0,.int .i64 0,.bool false,.slice none 0 0,.int .i64 0] 92));have Y0:=h_ ((HY.o.alloc (.cells #[.bool xn,.slice a1 k1 c1,.int .i64 xe,.bool yn,.slice a2 k2 c2,.int .i64 ye,.int .u64 (N:Int),.bool false,.int .i64 z,.int .i64 64,.int .i64 tt] 58)).alloc (.cells #[.bool false,.slice none 0 0,.int .i64 0,.bool false,.slice none 0 0,.int .i64 0] 92));go_upto_region 1 with(fail)
 generalize alloc (alloc _ _) _=w0 at F0 U0 X0 Y0 |-;have c0_0:=F0.o.c11 0 rfl;have c1_0:=F0.o.c6 1 rfl;go_wp2_with fail;refine(CR.o _ _ U0.o).mono ?_;rintro q w1 ⟨rfl,hb⟩;have F1:=h_ (F0.o.call hb);have U1:=h_ (U0.o.below hb);have X1:=h_ (X0.o.below hb);have Y1:=h_ (Y0.o.below hb);clear hb;have c0_1:=F1.o.c11 0 rfl;have c1_1:=F1.o.c6 1 rfl;go_wp2_with fail;refine(CS.o _ _ U1.o).mono ?_;rintro q w2 ⟨rfl,hb⟩;have F2:=h_ (F1.o.call hb);have U2:=h_ (U1.o.below hb);have X2:=h_ (X1.o.below hb);have Y2:=h_ (Y1.o.below hb);clear hb;have c0_2:=F2.o.c11 0 rfl;have c1_2:=F2.o.c6 1 rfl;go_wp2_with fail;refine(CL.o _ _ X2.o).mono ?_;rintro q w3 ⟨u,rfl,hu,hb⟩;have F3:=h_ (F2.o.call hb);have X3:=h_ (X2.o.below hb);have Y3:=h_ (Y2.o.below hb);have I3:=h_ (hu);clear hb;have c0_3:=F3.o.c11 0 rfl;have c1_3:=F3.o.c6 1 rfl;obtain⟨b7,e7,d7,b8,e8,d8,rfl,h1,h2⟩:=I3.o.fm;clear h1 h2;go_upto_region 5 with(fail)
 have F4:=h_ (F3.o.new 92 #[.bool ln,.slice b7 e7 d7,.int .i64 le,.bool ln',.slice b8 e8 d8,.int .i64 le']);have Y4:=h_ (Y3.o.alloc (.cells #[.bool ln,.slice b7 e7 d7,.int .i64 le,.bool ln',.slice b8 e8 d8,.int .i64 le'] 92));have I4:=h_ (I3.o.alloc (.cells #[.bool ln,.slice b7 e7 d7,.int .i64 le,.bool ln',.slice b8 e8 d8,.int .i64 le'] 92));obtain⟨g1,hg1⟩:∃g,g=(World.heap w3).size:=⟨_,rfl⟩
 rw[<-hg1]at F4 |-;clear hg1;simp only[nil_append,cons_append]at F4;generalize alloc w3 _=W4 at F4 Y4 I4 |-;have c0_4:=F4.o.c11 0 rfl;have c1_4:=F4.o.c6 1 rfl;have c2_4:=F4.o.c6 2 rfl;go_wp2_with fail;refine(CT.o _ _ _ I4.o Y4.o).mono ?_;rintro q w5 ⟨u,rfl,hu,hb⟩;have F5:=h_ (F4.o.call hb);have Y5:=h_ (Y4.o.below hb);have I5:=h_ (I4.o.below hb);have J5:=h_ (hu);clear hb;have c0_5:=F5.o.c11 0 rfl;have c1_5:=F5.o.c6 1 rfl;have c2_5:=F5.o.c6 2 rfl;obtain⟨f7,i7,j7,f8,i8,j8,rfl,h1,h2⟩:=J5.o.fm;have P5:=h_ h1;have Q5:=h_ h2;clear h1 h2;go_upto_region 8 with(fail)
 have F6:=h_ (F5.o.new 92 #[.bool rn,.slice f7 i7 j7,.int .i64 re,.bool rn',.slice f8 i8 j8,.int .i64 re']);have J6:=h_ (J5.o.alloc (.cells #[.bool rn,.slice f7 i7 j7,.int .i64 re,.bool rn',.slice f8 i8 j8,.int .i64 re'] 92));have P6:=h_ (P5.o.alloc (.cells #[.bool rn,.slice f7 i7 j7,.int .i64 re,.bool rn',.slice f8 i8 j8,.int .i64 re'] 92));have Q6:=h_ (Q5.o.alloc (.cells #[.bool rn,.slice f7 i7 j7,.int .i64 re,.bool rn',.slice f8 i8 j8,.int .i64 re'] 92));obtain⟨g2,hg2⟩:∃g,g=(World.heap w5).size:=⟨_,rfl⟩
 rw[<-hg2]at F6 |-;clear hg2;simp only[nil_append,cons_append]at F6;generalize alloc w5 _=W6 at F6 J6 P6 Q6 |-;have c0_6:=F6.o.c11 0 rfl;have c1_6:=F6.o.c6 1 rfl;have c2_6:=F6.o.c6 2 rfl;have c3_6:=F6.o.c6 3 rfl;go_upto_region 10 with(fail)
 cases tn
 case false =>have HN:N<=1:=Nat.not_lt.1 (of_decide_eq_false HTN.o.symm);have hZ:=HZ.o;rw[if_pos HN]at hZ;subst hZ;clear HN HTN HZ;go_wp2;have f:=F6.o.s6 1 rfl (.bool rn) (.slice f7 i7 j7) (.int .i64 re) (.bool rn') (.slice f8 i8 j8) (.int .i64 re');have p:=((F6.o.one_fx 1 rfl rfl).s6 0 rfl (.bool rn) (.slice f7 i7 j7) (.int .i64 re) (.bool rn') (.slice f8 i8 j8) (.int .i64 re') rfl rfl rfl rfl rfl rfl).2;generalize setCell _ _ _=W at f p |-;have g1':=f.c6 1 rfl;refine bodyPost_ret (v:=.tuple #[.agg #[.bool rn,.slice f7 i7 j7,.int .i64 re,.bool rn',.slice f8 i8 j8,.int .i64 re'],.int .i64 sq,.int .i64 0]) (by simp[results,Tryz.results90,go_sem,g1']) rfl ?_;exact⟨_,rfl,(J6.o).kp p,f.b⟩
 case true =>
  have HN:¬N<=1:=Nat.not_le.2 (of_decide_eq_true HTN.o.symm);have hZ:=HZ.o;rw[if_neg HN]at hZ;subst hZ;clear HN HTN HZ;go_upto_region 11 with(fail)
  go_cut [] (fun wx=>Qb (∃m7 m8 m9 o7 o8 o9,Fz w wx [(w.heap.size,58,#[.bool xn,.slice a1 k1 c1,.int .i64 xe,.bool yn,.slice a2 k2 c2,.int .i64 ye,.int .u64 (N:Int),.bool false,.int .i64 z,.int .i64 64,.int .i64 tt]),(w.heap.size+1,92,#[.bool false,.slice none 0 0,.int .i64 0,.bool false,.slice none 0 0,.int .i64 0]),(g1,92,#[.bool ln,.slice b7 e7 d7,.int .i64 le,.bool ln',.slice b8 e8 d8,.int .i64 le']),(g2,92,#[.bool v1n,.slice m7 m8 m9,.int .i64 v1e,.bool v2n,.slice o7 o8 o9,.int .i64 v2e])]/\Cy wx (.agg #[.bool v1n,.slice m7 m8 m9,.int .i64 v1e]) ⟨v1n,v1m,v1e⟩/\Cy wx (.agg #[.bool v2n,.slice o7 o8 o9,.int .i64 v2e]) ⟨v2n,v2m,v2e⟩))
  case first =>
   have FCD:=h_ ((F6.o.drew.c11 0 rfl).1);refine wp_region_held_drew (S:=fun w'=>w'.cell? ⟨w.heap.size,0,none⟩=some (.bool xn)/\w'.cell? ⟨w.heap.size,1,none⟩=some (.slice a1 k1 c1)/\w'.cell? ⟨w.heap.size,2,none⟩=some (.int .i64 xe)/\w'.cell? ⟨w.heap.size,3,none⟩=some (.bool yn)/\w'.cell? ⟨w.heap.size,4,none⟩=some (.slice a2 k2 c2)/\w'.cell? ⟨w.heap.size,5,none⟩=some (.int .i64 ye)/\w'.cell? ⟨w.heap.size,6,none⟩=some (.int .u64 (N:Int))/\w'.cell? ⟨w.heap.size,7,none⟩=some (.bool false)/\w'.cell? ⟨w.heap.size,8,none⟩=some (.int .i64 z)/\w'.cell? ⟨w.heap.size,9,none⟩=some (.int .i64 64)/\w'.cell? ⟨w.heap.size,10,none⟩=some (.int .i64 tt)) (by kernel_rfl) FCD.o (fun hHeld=>?_);have F7:=h_ (F6.o.drew);have P7:=h_ (P6.o.drew);have Q7:=h_ (Q6.o.drew);generalize drew W6=W0 at F7 P7 Q7 hHeld |-;refine wpAnyH_take (i:=0) (oi:=⟨some 51,_,_,_,_,_⟩) (v:=?_) rfl (by kernel_rfl) (by kernel_rfl) (by kernel_rfl) (fun _ _ _ h=>h) (Or.inl ⟨by rfl,?_⟩) (by assumption) ?_;rotate_left
   ·(intro w hSw;(try dsimp only at hSw);go_simp);try with_reducible rfl
   try simp only[Act.put,sI,sZ,sS]
   refine wpAnyH_take (i:=2) (oi:=⟨some 53,_,_,_,_,_⟩) (v:=?_) rfl (by kernel_rfl) (by kernel_rfl) (by kernel_rfl) (fun _ _ _ h=>h) (Or.inl ⟨by rfl,?_⟩) (by assumption) ?_;rotate_left
   ·(intro w hSw;(try dsimp only at hSw);go_simp);try with_reducible rfl
   try simp only[Act.put,sI,sZ,sS]
   refine wpAnyH_take (i:=3) (oi:=⟨some 54,_,_,_,_,_⟩) (v:=?_) rfl (by kernel_rfl) (by kernel_rfl) (by kernel_rfl) (fun _ _ _ h=>h) (Or.inl ⟨by rfl,?_⟩) (by assumption) ?_;rotate_left
   ·(intro w hSw;(try dsimp only at hSw);go_simp);try with_reducible rfl
   try simp only[Act.put,sI,sZ,sS]
   refine wpAnyH_take (i:=4) (oi:=⟨some 55,_,_,_,_,_⟩) (v:=?_) rfl (by kernel_rfl) (by kernel_rfl) (by kernel_rfl) (fun _ _ _ h=>h) (Or.inl ⟨by rfl,?_⟩) (by assumption) ?_;rotate_left
   ·(intro w hSw;(try dsimp only at hSw);go_simp);try with_reducible rfl
   try simp only[Act.put,sI,sZ,sS]
   refine wpAnyH_take (i:=5) (oi:=⟨some 56,_,_,_,_,_⟩) (v:=?_) rfl (by kernel_rfl) (by kernel_rfl) (by kernel_rfl) (fun _ _ _ h=>h) (Or.inl ⟨by rfl,?_⟩) (by assumption) ?_;rotate_left
   ·(intro w hSw;(try dsimp only at hSw);go_simp);try with_reducible rfl
   try simp only[Act.put,sI,sZ,sS]
   refine wpAnyH_take (i:=7) (oi:=⟨some 58,_,_,_,_,_⟩) (v:=?_) rfl (by kernel_rfl) (by kernel_rfl) (by kernel_rfl) (fun _ _ _ h=>h) (Or.inl ⟨by rfl,?_⟩) (by assumption) ?_;rotate_left
   ·(intro w hSw;(try dsimp only at hSw);go_simp);try with_reducible rfl
   try simp only[Act.put,sI,sZ,sS]
   refine wpAnyH_take (i:=9) (oi:=⟨some 60,_,_,_,_,_⟩) (v:=?_) rfl (by kernel_rfl) (by kernel_rfl) (by kernel_rfl) (fun _ _ _ h=>h) (Or.inl ⟨by rfl,?_⟩) (by assumption) ?_;rotate_left
   ·(intro w hSw;(try dsimp only at hSw);go_simp);try with_reducible rfl
   try simp only[Act.put,sI,sZ,sS]
   refine wpAnyH_take (i:=10) (oi:=⟨some 61,_,_,_,_,_⟩) (v:=?_) rfl (by kernel_rfl) (by kernel_rfl) (by kernel_rfl) (fun _ _ _ h=>h) (Or.inl ⟨by rfl,?_⟩) (by assumption) ?_;rotate_left
   ·(intro w hSw;(try dsimp only at hSw);go_simp);try with_reducible rfl
   try simp only[Act.put,sI,sZ,sS]
   refine wpAnyH_take (i:=11) (oi:=⟨some 62,_,_,_,_,_⟩) (v:=?_) rfl (by kernel_rfl) (by kernel_rfl) (by kernel_rfl) (fun _ _ _ h=>h) (Or.inl ⟨by rfl,?_⟩) (by assumption) ?_;rotate_left
   ·(intro w hSw;(try dsimp only at hSw);go_simp);try with_reducible rfl
   try simp only[Act.put,sI,sZ,sS]
   refine wpAnyH_take (i:=12) (oi:=⟨some 63,_,_,_,_,_⟩) (v:=?_) rfl (by kernel_rfl) (by kernel_rfl) (by kernel_rfl) (fun _ _ _ h=>h) (Or.inl ⟨by rfl,?_⟩) (by assumption) ?_;rotate_left
   ·(intro w hSw;(try dsimp only at hSw);go_simp);try with_reducible rfl
   try simp only[Act.put,sI,sZ,sS]
   refine wpAnyH_ready (rs:=[1,8]) (by kernel_rfl) (by simp) ?_;refine AllReadyH.cons (o:=_) rfl (fun K hK=>?_) ?_
   .skip;have cc0:=F7.o.c6 3 rfl;go_simp;refine hK.out _ _ ((F7.o.c11 0 rfl).1) (fun hHeld'=>?_);clear hK K hHeld;have hHeld:=hHeld';clear hHeld'
    try simp only[Act.put,sI,sZ,sS]
    refine wpAnyH_ready (rs:=[6,8]) (by kernel_rfl) (by simp) ?_;refine AllReadyH.cons (o:=_) rfl (fun K hK=>?_) ?_
    .skip;go_simp;go_at_call 131
     with_reducible refine(CD1.o _ _ P7.o).mono ?_
     rintro q w8 ⟨u,rfl,hu,hb⟩;have F8:=h_ (F7.o.call hb);have P8:=h_ (P7.o.below hb);have Q8:=h_ (Q7.o.below hb);have A8:=h_ hu;obtain⟨m7,m8,m9,rfl⟩:=A8.o.fm;clear hu hb
     try go_wp2_with fail
     refine hK.out _ _ ((F8.o.c11 0 rfl).1) (fun hHeld'=>?_);clear hK K hHeld;have hHeld:=hHeld';clear hHeld'
     try simp only[Act.put,sI,sZ,sS]
     refine wpAnyH_ready (rs:=[8]) (by kernel_rfl) (by simp) ?_;refine AllReadyH.cons (o:=_) rfl (fun K hK=>?_) ?_
     .skip;have cc0:=F8.o.c6 3 rfl;go_simp;refine hK.out _ _ ((F8.o.c11 0 rfl).1) (fun hHeld'=>?_);clear hK K hHeld;have hHeld:=hHeld';clear hHeld'
      try simp only[Act.put,sI,sZ,sS]
      refine wpAnyH_ready (rs:=[13]) (by kernel_rfl) (by simp) ?_;refine AllReadyH.cons (o:=_) rfl (fun K hK=>?_) ?_
      .skip;go_simp;go_at_call 131
       with_reducible refine(CD2.o _ _ Q8.o).mono ?_
       rintro q w9 ⟨u,rfl,hu,hb⟩;have F9:=h_ (F8.o.call hb);have P9:=h_ (P8.o.below hb);have Q9:=h_ (Q8.o.below hb);have A9:=h_ (A8.o.below hb);have B9:=h_ hu;obtain⟨o7,o8,o9,rfl⟩:=B9.o.fm;clear hu hb
       try go_wp2_with fail
       refine hK.out _ _ ((F9.o.c11 0 rfl).1) (fun hHeld'=>?_);clear hK K hHeld;have hHeld:=hHeld';clear hHeld'
       try simp only[Act.put,sI,sZ,sS]
       refine wpAnyH_ready (rs:=[14]) (by kernel_rfl) (by simp) ?_;refine AllReadyH.cons (o:=_) rfl (fun K hK=>?_) ?_
       .skip;go_simp;refine hK.out _ _ ((F9.o.c11 0 rfl).1) (fun hHeld'=>?_);clear hK K hHeld;have hHeld:=hHeld';clear hHeld'
        try simp only[Act.put,sI,sZ,sS]
        refine wpAnyH_ready (rs:=[15]) (by kernel_rfl) (by simp) ?_;refine AllReadyH.cons (o:=_) rfl (fun K hK=>?_) ?_
        .skip;have cc0:=F9.o.c6 3 rfl;go_simp;have f:=F9.o.s6 3 rfl (.bool v1n) (.slice m7 m8 m9) (.int .i64 v1e) (.bool v2n) (.slice o7 o8 o9) (.int .i64 v2e);have p:=((F9.o.one_fx 3 rfl rfl).s6 0 rfl (.bool v1n) (.slice m7 m8 m9) (.int .i64 v1e) (.bool v2n) (.slice o7 o8 o9) (.int .i64 v2e) rfl rfl rfl rfl rfl rfl).2;generalize setCell _ _ _=W at f p |-;have F10:=h_ f;have A10:=h_ (A9.o.kp p);have B10:=h_ (B9.o.kp p);simp only[sZ,sS]at F10;refine hK.out _ _ ((F10.o.c11 0 rfl).1) (fun hHeld'=>?_);clear hK K hHeld;have hHeld:=hHeld';clear hHeld'
         try simp only[Act.put,sI,sZ,sS]
         refine wpAnyH_done (by kernel_rfl) ?_ _;go_wp2_with fail;go_meet;exact⟨_,_,_,_,_,_,F10.o,A10.o,B10.o⟩
        exact AllReadyH.nil
       exact AllReadyH.nil
      exact AllReadyH.nil
     exact AllReadyH.nil
    refine AllReadyH.cons (o:=_) rfl (fun K hK=>?_) ?_
    .skip;have cc0:=F7.o.c6 3 rfl;go_simp;refine hK.out _ _ ((F7.o.c11 0 rfl).1) (fun hHeld'=>?_);clear hK K hHeld;have hHeld:=hHeld';clear hHeld'
     try simp only[Act.put,sI,sZ,sS]
     refine wpAnyH_ready (rs:=[6]) (by kernel_rfl) (by simp) ?_;refine AllReadyH.cons (o:=_) rfl (fun K hK=>?_) ?_
     .skip;go_simp;go_at_call 131
      with_reducible refine(CD1.o _ _ P7.o).mono ?_
      rintro q w8 ⟨u,rfl,hu,hb⟩;have F8:=h_ (F7.o.call hb);have P8:=h_ (P7.o.below hb);have Q8:=h_ (Q7.o.below hb);have A8:=h_ hu;obtain⟨m7,m8,m9,rfl⟩:=A8.o.fm;clear hu hb
      try go_wp2_with fail
      refine hK.out _ _ ((F8.o.c11 0 rfl).1) (fun hHeld'=>?_);clear hK K hHeld;have hHeld:=hHeld';clear hHeld'
      try simp only[Act.put,sI,sZ,sS]
      refine wpAnyH_ready (rs:=[13]) (by kernel_rfl) (by simp) ?_;refine AllReadyH.cons (o:=_) rfl (fun K hK=>?_) ?_
      .skip;go_simp;go_at_call 131
       with_reducible refine(CD2.o _ _ Q8.o).mono ?_
       rintro q w9 ⟨u,rfl,hu,hb⟩;have F9:=h_ (F8.o.call hb);have P9:=h_ (P8.o.below hb);have Q9:=h_ (Q8.o.below hb);have A9:=h_ (A8.o.below hb);have B9:=h_ hu;obtain⟨o7,o8,o9,rfl⟩:=B9.o.fm;clear hu hb
       try go_wp2_with fail
       refine hK.out _ _ ((F9.o.c11 0 rfl).1) (fun hHeld'=>?_);clear hK K hHeld;have hHeld:=hHeld';clear hHeld'
       try simp only[Act.put,sI,sZ,sS]
       refine wpAnyH_ready (rs:=[14]) (by kernel_rfl) (by simp) ?_;refine AllReadyH.cons (o:=_) rfl (fun K hK=>?_) ?_
       .skip;go_simp;refine hK.out _ _ ((F9.o.c11 0 rfl).1) (fun hHeld'=>?_);clear hK K hHeld;have hHeld:=hHeld';clear hHeld'
        try simp only[Act.put,sI,sZ,sS]
        refine wpAnyH_ready (rs:=[15]) (by kernel_rfl) (by simp) ?_;refine AllReadyH.cons (o:=_) rfl (fun K hK=>?_) ?_
        .skip;have cc0:=F9.o.c6 3 rfl;go_simp;have f:=F9.o.s6 3 rfl (.bool v1n) (.slice m7 m8 m9) (.int .i64 v1e) (.bool v2n) (.slice o7 o8 o9) (.int .i64 v2e);have p:=((F9.o.one_fx 3 rfl rfl).s6 0 rfl (.bool v1n) (.slice m7 m8 m9) (.int .i64 v1e) (.bool v2n) (.slice o7 o8 o9) (.int .i64 v2e) rfl rfl rfl rfl rfl rfl).2;generalize setCell _ _ _=W at f p |-;have F10:=h_ f;have A10:=h_ (A9.o.kp p);have B10:=h_ (B9.o.kp p);simp only[sZ,sS]at F10;refine hK.out _ _ ((F10.o.c11 0 rfl).1) (fun hHeld'=>?_);clear hK K hHeld;have hHeld:=hHeld';clear hHeld'
         try simp only[Act.put,sI,sZ,sS]
         refine wpAnyH_done (by kernel_rfl) ?_ _;go_wp2_with fail;go_meet;exact⟨_,_,_,_,_,_,F10.o,A10.o,B10.o⟩
        exact AllReadyH.nil
       exact AllReadyH.nil
      exact AllReadyH.nil
     exact AllReadyH.nil
    exact AllReadyH.nil
   refine AllReadyH.cons (o:=_) rfl (fun K hK=>?_) ?_
   .skip;have cc0:=F7.o.c6 3 rfl;go_simp;refine hK.out _ _ ((F7.o.c11 0 rfl).1) (fun hHeld'=>?_);clear hK K hHeld;have hHeld:=hHeld';clear hHeld'
    try simp only[Act.put,sI,sZ,sS]
    refine wpAnyH_ready (rs:=[1]) (by kernel_rfl) (by simp) ?_;refine AllReadyH.cons (o:=_) rfl (fun K hK=>?_) ?_
    .skip;have cc0:=F7.o.c6 3 rfl;go_simp;refine hK.out _ _ ((F7.o.c11 0 rfl).1) (fun hHeld'=>?_);clear hK K hHeld;have hHeld:=hHeld';clear hHeld'
     try simp only[Act.put,sI,sZ,sS]
     refine wpAnyH_ready (rs:=[6]) (by kernel_rfl) (by simp) ?_;refine AllReadyH.cons (o:=_) rfl (fun K hK=>?_) ?_
     .skip;go_simp;go_at_call 131
      with_reducible refine(CD1.o _ _ P7.o).mono ?_
      rintro q w8 ⟨u,rfl,hu,hb⟩;have F8:=h_ (F7.o.call hb);have P8:=h_ (P7.o.below hb);have Q8:=h_ (Q7.o.below hb);have A8:=h_ hu;obtain⟨m7,m8,m9,rfl⟩:=A8.o.fm;clear hu hb
      try go_wp2_with fail
      refine hK.out _ _ ((F8.o.c11 0 rfl).1) (fun hHeld'=>?_);clear hK K hHeld;have hHeld:=hHeld';clear hHeld'
      try simp only[Act.put,sI,sZ,sS]
      refine wpAnyH_ready (rs:=[13]) (by kernel_rfl) (by simp) ?_;refine AllReadyH.cons (o:=_) rfl (fun K hK=>?_) ?_
      .skip;go_simp;go_at_call 131
       with_reducible refine(CD2.o _ _ Q8.o).mono ?_
       rintro q w9 ⟨u,rfl,hu,hb⟩;have F9:=h_ (F8.o.call hb);have P9:=h_ (P8.o.below hb);have Q9:=h_ (Q8.o.below hb);have A9:=h_ (A8.o.below hb);have B9:=h_ hu;obtain⟨o7,o8,o9,rfl⟩:=B9.o.fm;clear hu hb
       try go_wp2_with fail
       refine hK.out _ _ ((F9.o.c11 0 rfl).1) (fun hHeld'=>?_);clear hK K hHeld;have hHeld:=hHeld';clear hHeld'
       try simp only[Act.put,sI,sZ,sS]
       refine wpAnyH_ready (rs:=[14]) (by kernel_rfl) (by simp) ?_;refine AllReadyH.cons (o:=_) rfl (fun K hK=>?_) ?_
       .skip;go_simp;refine hK.out _ _ ((F9.o.c11 0 rfl).1) (fun hHeld'=>?_);clear hK K hHeld;have hHeld:=hHeld';clear hHeld'
        try simp only[Act.put,sI,sZ,sS]
        refine wpAnyH_ready (rs:=[15]) (by kernel_rfl) (by simp) ?_;refine AllReadyH.cons (o:=_) rfl (fun K hK=>?_) ?_
        .skip;have cc0:=F9.o.c6 3 rfl;go_simp;have f:=F9.o.s6 3 rfl (.bool v1n) (.slice m7 m8 m9) (.int .i64 v1e) (.bool v2n) (.slice o7 o8 o9) (.int .i64 v2e);have p:=((F9.o.one_fx 3 rfl rfl).s6 0 rfl (.bool v1n) (.slice m7 m8 m9) (.int .i64 v1e) (.bool v2n) (.slice o7 o8 o9) (.int .i64 v2e) rfl rfl rfl rfl rfl rfl).2;generalize setCell _ _ _=W at f p |-;have F10:=h_ f;have A10:=h_ (A9.o.kp p);have B10:=h_ (B9.o.kp p);simp only[sZ,sS]at F10;refine hK.out _ _ ((F10.o.c11 0 rfl).1) (fun hHeld'=>?_);clear hK K hHeld;have hHeld:=hHeld';clear hHeld'
         try simp only[Act.put,sI,sZ,sS]
         refine wpAnyH_done (by kernel_rfl) ?_ _;go_wp2_with fail;go_meet;exact⟨_,_,_,_,_,_,F10.o,A10.o,B10.o⟩
        exact AllReadyH.nil
       exact AllReadyH.nil
      exact AllReadyH.nil
     exact AllReadyH.nil
    exact AllReadyH.nil
   exact AllReadyH.nil
  case rest =>obtain⟨m7,m8,m9,o7,o8,o9,hf,ha,hb⟩:=hcut.o;clear hcut;have F20:=h_ hf;have A20:=h_ ha;have B20:=h_ hb;clear hf ha hb;have c0_20:=F20.o.c11 0 rfl;have c1_20:=F20.o.c6 1 rfl;have c3_20:=F20.o.c6 3 rfl;go_wp2;have f:=F20.o.s6 1 rfl (.bool v1n) (.slice m7 m8 m9) (.int .i64 v1e) (.bool v2n) (.slice o7 o8 o9) (.int .i64 v2e);have p:=((F20.o.one_fx 1 rfl rfl).s6 0 rfl (.bool v1n) (.slice m7 m8 m9) (.int .i64 v1e) (.bool v2n) (.slice o7 o8 o9) (.int .i64 v2e) rfl rfl rfl rfl rfl rfl).2;generalize setCell _ _ _=W at f p |-;have g1':=f.c6 1 rfl;refine bodyPost_ret (v:=.tuple #[.agg #[.bool v1n,.slice m7 m8 m9,.int .i64 v1e,.bool v2n,.slice o7 o8 o9,.int .i64 v2e],.int .i64 sq,.int .i64 0]) (by simp[results,Tryz.results90,go_sem,g1']) rfl ?_;exact⟨_,rfl,((show Iv _ _ ⟨⟨v1n,v1m,v1e⟩,⟨v2n,v2m,v2e⟩⟩from⟨_,_,_,_,_,_,rfl,A20.o,B20.o⟩)).kp p,f.b⟩
theorem Qaf{L:List Nat}{i:Nat}(h:i<L.length):Qc (L.take (i+1))=Qc (L.take i)+18446744073709551616^i*dg L i:=by
 have e:L.take (i+1)=L.take i++[L[i]]:=by rw[List.take_add_one,List.getElem?_eq_getElem h];rfl
 rw[e,Kh,List.length_take,Nat.min_eq_left (by omega)];congr 1;unfold dg;rw[List.getD_eq_getElem?_getD,List.getElem?_eq_getElem h];simp[Qc]
theorem Dx{w:World}{u v:Value}{m n:Nat}(hu:Dg w u m)(hv:Dg w v n)(hn0:n≠0)(hm:bl m<=20000)(hn:bl n<=20000):Calls Tryz.prog 101 #[u,v] w (J2 (m*n) w):=by
 obtain⟨L,hr,hc⟩:=hv;have hLn:=hc.val;have hL0:L≠[]:=by rintro rfl;exact hn0 (by rw[<-hLn];rfl)
 obtain⟨a,c,rfl,hcell⟩:=hr.sl.form;obtain⟨b,off,rfl,hcc⟩:=hcell (List.length_pos_iff.2 hL0);have hlen:L.length<=1000:=by have h1:=hc.top hL0;rw[Wf]at h1;have h2:=Nat.lt_of_le_of_lt h1 (Zb n);have h3:=(Nat.pow_lt_pow_iff_right (by decide:1<2)).1 h2;omega
 have HT:=h_ hr.tab;have HU:=h_ hu;have HC:=h_ hcc;have HD:=h_ hr.digs;have CT:Qb (∀w (d:Nat),d<18446744073709551616->Dg w u m->Calls Tryz.prog 138 #[u,.int .u64 (d:Int)] w (Jp (m*d) 0 w)):=by
  intro w d hd h;have h1:=Lp (h.rd (by omega)) hd;have h2:=Zs hd;have e1:mulN m d=m*d:=by unfold mulN;rw[if_neg (by omega)]
  have e2:Vi m d=0:=by unfold Vi;split;rfl;rw[if_neg (by omega)]
  rwa[e1,e2]at h1
 have HLN:=h_ hLn;have HLE:=h_ hlen;obtain⟨k,hk⟩:∃k,k=L.length:=⟨_,rfl⟩
 have HK:=h_ hk;rw[<-hk];have HM:=h_ hm;have HN:=h_ hn;clear hu hr hc hLn hL0 hcell hcc hm hn hn0 hlen hk;go_enter Tryz.func101,Tryz.ntmps101;go_wp2
 go_loopw [5,12] (fun o t wr=>∃(i:Nat),t=.int .i64 (i:Int)/\Qb (i<=k)/\Qb (Dg wr o (m*Qc (L.take i)))/\Qb (Below w.heap.size w wr)) (fun _ t _=>k-(intOf t).toNat)
 case atStart=>exact⟨0,rfl,Nat.zero_le _,by rw[List.take_zero];exact Dg.nil HT.o,Below.refl _ _⟩
 case round =>
  obtain⟨i,rfl,hi,ho,hb⟩:=hrel;have HB:=h_ hb.o;obtain⟨o1,o2,o3,rfl⟩:=ho.o.form;by_cases hik:i<k
  case neg =>have t1:decide ((i:Int)<(k:Int))=false:=decide_eq_false (by omega);have t2:decide (i<k)=false:=decide_eq_false hik;have HX:Qb (L.take i=L):=List.take_of_length_le (by have:=HK.o;omega);clear hik hi hb;go_wp2;go_ret;exact⟨_,rfl,by have h:=ho.o;rw[HX.o,HLN.o]at h;exact h,HB.o⟩
  case pos =>
   have t1:decide ((i:Int)<(k:Int))=true:=decide_eq_true (by omega);have t2:decide (i<k)=true:=decide_eq_true hik;have hil:i<L.length:=by have:=HK.o;omega
   have HIL:=h_ hil;have hd:=Qy HD.o i;have c0:wr.cell? ⟨b,off+i,none⟩=some (.int .u64 ((dg L i:Nat):Int)):=Qj HB.o (Nat.le_refl _) (HC.o i _ (Qu hil));have HS:Qb (m*Qc (L.take (i+1))=m*Qc (L.take i)+18446744073709551616^i*(m*dg L i)):=by rw[Qb,Qaf hil,Nat.mul_add];congr 1;rw[Nat.mul_left_comm]
   have HBD:Qb (bl (m*dg L i)<=30000):=Nat.le_trans (Wv _ _) (by have:=Zs hd;have:=HM.o;omega);have HTB:Qb (bl (m*Qc (L.take i))<=60000):=by
    have h1:Qc (L.take i)<=Qc L:=by
     conv=>rhs;rw[<-List.take_append_drop i L,Kh]
     exact Nat.le_add_right _ _
    rw[HLN.o]at h1;have h2:=Zc h1;exact Nat.le_trans (Wv _ _) (by have:=HM.o;have:=HN.o;omega)
   generalize dg L i=d at *
   have HDD:=h_ hd;clear hil hi hd hb;go_wp2_with fail;clear c0;refine(CT.o _ d HDD.o (HU.o.below HB.o)).mono ?_;rintro q w1 ⟨x,rfl,hx,hb1⟩;obtain⟨K,kr,kc⟩:=hx;obtain⟨a5,c5,rfl,hk5⟩:=kr.sl.form;have HO:=h_ (ho.o.below hb1);have HB1:=h_ (HB.o.trans (hb1.mono HB.o.size));have HKR:=h_ kr;have HKC:=h_ kc;have HKF:=h_ hk5;clear hb1 kr kc hk5 ho HB;have HI:=h_ (show i<=1000000 from by have:=HIL.o;have:=HLE.o;omega);have HKL:Qb (K.length<=1000):=by
    rw[Qb];rcases K with _|⟨k0,K⟩
    .exact Nat.zero_le _
    .have h1:=HKC.o.top (by simp);rw[Wf]at h1;have h2:=Nat.lt_of_le_of_lt h1 (Zb (m*d));have h3:=(Nat.pow_lt_pow_iff_right (by decide:1<2)).1 h2;have:=HBD.o;omega
   go_wp2_with (refine Jb (w0:=w1) rfl (.tmp 24) 40 rfl w1.heap.size 22 (.int .u64 0) 8 Tryz.underlying40 Tryz.info22 rfl (by decide) _ _ i rfl rfl (by have:=HI.o;omega) (Below.refl _ _) (Nat.le_refl _) ?_)
   intro wm ho1 hb1 hB1;have HW:Qb (wm.ownsRow w1.heap.size 22 1 (.slice (some ⟨w1.heap.size,0,none⟩) i i) i (List.replicate i (.int .u64 0))):=ho1;have HWB:=h_ hb1;have HWS:=h_ hB1;have hnews:=Wl HKF.o K.length (Nat.le_refl _) (w':=wm) (fun _ _ h=>Qj hb1 (Nat.le_refl _) h);have hlt:(Qz (K.take K.length)).length=K.length:=by rw[Zo,List.take_length]
   clear ho1 hb1 hB1;go_wp2_with (at_builtin;refine Wn rfl (.tmp 25) (.tmp 26) 40 rfl w1.heap.size 22 (.int .u64 0) 8 Tryz.underlying40 Tryz.info22 rfl (by decide) _ i _ rfl _ K.length _ (Qz (K.take K.length)) rfl hlt hnews (Ya _) HW.o HWB.o HWS.o (by have:=HI.o;have:=HKL.o;omega) ?_)
   intro v2 w2 ho2 hb2 _;have HR:Qb (Rd w2 v2 (18446744073709551616^i*(m*d))):=by
    have h1:=ho2.o;rw[Vy,<-Pm]at h1;refine⟨List.replicate i 0++K,Qr.of_own h1 (HKR.o.tab.below hb2) ?_,?_,?_⟩
    .intro x hx;rcases List.mem_append.1 hx with hx|hx
     .have:=List.eq_of_mem_replicate hx;omega
     .exact HKR.o.digs x hx
    .rw[Kh,Js,List.length_replicate,Nat.zero_add,HKC.o.val]
    .rw[List.length_append,List.length_replicate];have:=HI.o;have:=HKL.o;have:=HIL.o;have:=HLE.o;omega
   have HB2:=h_ (HB1.o.trans (hb2.mono HB1.o.size));have HO2:=h_ (HO.o.below hb2);clear ho2 hb2 hnews hlt HW HWB HWS HO HB1 HKR HKC HKF HBD;go_wp2_with fail;refine(Xd (HO2.o.rd (Nat.le_trans HTB.o (by decide))) HR.o).mono ?_;rintro q w3 ⟨x,rfl,hx,hb3⟩;have HX:Qb (Dg w3 x (m*Qc (L.take (i+1)))):=by rw[HS.o];exact hx
   have HB3:=h_ (HB2.o.trans (hb3.mono HB2.o.size));have q1:IntKind.i64.wrap ((i:Int)+1)=((i+1:Nat):Int):=by have:=HI.o;rw[IntWalk.i64_in _ (by omega)];rfl
   have q2:wrap64 ((i:Int)+1)=((i+1:Nat):Int):=by have:=HI.o;rw[IntWalk.wrap64_in _ (by omega)];rfl
   have HIK:Qb (i+1<=k):=by have:=HIL.o;have:=HK.o;rw[Qb];omega
   clear hx hb3 HR HO2 HB2 HS;go_wp2;go_roundw
   case rel=>exact⟨i+1,rfl,HIK,HX,HB3⟩
   case measure=>have:=HIK.o;simp only[intOf];omega
theorem Bf{w:World}{u:Value}{d:Dn}(hu:Cy w u d)(sd:Sd d)(m:Int)(hn:(Qa d).neg=false)(hf:bl (Qa d).m*m.natAbs<=60000)(hf2:(Qa d).e.natAbs*m.natAbs<=60000)(h64:(Qa d).m<18446744073709551616)(hm:m.natAbs<=60000) :
  Calls Tryz.prog 48 #[u,.int .i64 m] w (Um (Qa ⟨false,(Qa d).m^m.natAbs,(Qa d).e*(m.natAbs:Int)⟩) 0 w):=by
 have CP:=h_ (fun w u (h:Cy w u d)=>Qb6 h sd m.natAbs hn hf hf2 h64 hm);obtain⟨dn,dm,de⟩:=d;obtain⟨a1,k1,c1,rfl⟩:=hu.fm;obtain⟨k,hk⟩:∃k:Nat,k=m.natAbs:=⟨_,rfl⟩
 rw[<-hk]at CP ⊢;generalize Qa ⟨false,(Qa ⟨dn,dm,de⟩).m^k,(Qa ⟨dn,dm,de⟩).e*(k:Int)⟩=R at *
 obtain⟨rn,rm,re⟩:=R;have HU:=h_ hu;clear hu sd hn hf hf2 h64;go_enter Tryz.func48,Tryz.ntmps48;have F0:=h_ (Fx.two w 42 #[.bool dn,.slice a1 k1 c1,.int .i64 de] 42 #[.bool false,.slice none 0 0,.int .i64 0] rfl rfl);have X0:=h_ ((HU.o.alloc (.cells #[.bool dn,.slice a1 k1 c1,.int .i64 de] 42)).alloc (.cells #[.bool false,.slice none 0 0,.int .i64 0] 42));go_upto_region 1 with(fail)
 generalize alloc (alloc _ _) _=w0 at F0 X0 |-;obtain⟨tb,htb⟩:∃b,b=decide (m<0):=⟨_,rfl⟩
 have t1:decide (m<0)=tb:=htb.symm;have q1:m<0->IntKind.i64.wrap (-m)=(k:Int):=fun h=>by rw[IntWalk.i64_in _ (by omega)];omega
 have q2:¬m<0->m=(k:Int):=fun h=>by omega
 have HTB:=h_ htb;have HQ1:=h_ q1;have HQ2:=h_ q2;clear htb q1 q2 hk hm;cases tb
 case true =>have q:=HQ1.o (of_decide_eq_true HTB.o.symm);clear HQ1 HQ2 HTB;have c0_0:=F0.o.c3 0 rfl;have c1_0:=F0.o.c3 1 rfl;go_wp2_with fail;refine(CP.o _ _ X0.o).mono ?_;rintro q w1 ⟨u,rfl,hu,hb⟩;have F1:=h_ (F0.o.call hb);have X1:=h_ (X0.o.below hb);have R1:=h_ (hu);have c0_1:=F1.o.c3 0 rfl;have c1_1:=F1.o.c3 1 rfl;obtain⟨a5,k5,c5,rfl⟩:=R1.o.fm;clear hu;go_wp2;obtain⟨f0,p0⟩:=F1.o.s3 1 rfl (.bool rn) (.slice a5 k5 c5) (.int .i64 re) rfl rfl rfl;have p:=p0;have f:=f0;generalize setCell _ _ _=W at f p |-;have g1:=f.c3 1 rfl;refine bodyPost_ret (v:=.tuple #[.agg #[.bool rn,.slice a5 k5 c5,.int .i64 re],.int .i64 0]) (by simp[results,Tryz.results48,go_sem,g1]) rfl ?_;exact⟨_,rfl,R1.o.kp p,f.b⟩
 case false =>have q:=HQ2.o (of_decide_eq_false HTB.o.symm);subst q;clear HQ1 HQ2 HTB;have c0_0:=F0.o.c3 0 rfl;have c1_0:=F0.o.c3 1 rfl;go_wp2_with fail;refine(CP.o _ _ X0.o).mono ?_;rintro q w1 ⟨u,rfl,hu,hb⟩;have F1:=h_ (F0.o.call hb);have X1:=h_ (X0.o.below hb);have R1:=h_ (hu);have c0_1:=F1.o.c3 0 rfl;have c1_1:=F1.o.c3 1 rfl;obtain⟨a5,k5,c5,rfl⟩:=R1.o.fm;clear hu;go_wp2;obtain⟨f0,p0⟩:=F1.o.s3 1 rfl (.bool rn) (.slice a5 k5 c5) (.int .i64 re) rfl rfl rfl;have p:=p0;have f:=f0;generalize setCell _ _ _=W at f p |-;have g1:=f.c3 1 rfl;refine bodyPost_ret (v:=.tuple #[.agg #[.bool rn,.slice a5 k5 c5,.int .i64 re],.int .i64 0]) (by simp[results,Tryz.results48,go_sem,g1]) rfl ?_;exact⟨_,rfl,R1.o.kp p,f.b⟩
def Ve(P Q:Dn):Int:=if 0<Qg P+Qg Q then -1 else if Qg P+Qg Q < -1 then 1 else Qh (Qk 1) ⟨false,P.m*Q.m,P.e+Q.e⟩
theorem Qcg{w:World}{u v:Value}{P Q:Dn}(hu:Cy w u P)(hv:Cy w v Q)(bP:bl P.m<=20000)(bQ:bl Q.m<=20000)(Q0:Q.m≠0)(eP:-1000000<=P.e/\P.e<=1000000)(eQ:-1000000<=Q.e/\Q.e<=1000000)(tP:-2000000<=Qg P/\Qg P<=2000000)(tQ:-2000000<=Qg Q/\Qg Q<=2000000) :
  Calls Tryz.prog 49 #[u,v] w fun e w'=>e=.returned (.tuple #[.int .i64 (Ve P Q),.int .i64 0])/\Below w.heap.size w w':=by
 have C1:=h_ (fun w u (h:Cy w u P)=>Wg h.ry);have C2:=h_ (fun w u (h:Cy w u Q)=>Wg h.ry);have HA:Qb (Ve P Q=if 0<Qg P+Qg Q then -1 else if Qg P+Qg Q < -1 then 1 else Qh (Qk 1) ⟨false,P.m*Q.m,P.e+Q.e⟩):=rfl;have CM:=h_ (fun w u v (h:Dg w u P.m) (k:Dg w v Q.m)=>Dx h k Q0 bP bQ);have CC:=h_ (fun w u v (h:Cy w u (Qk 1)) (k:Ry w v ⟨false,P.m*Q.m,P.e+Q.e⟩)=>Zv h.ry k);have CO:=h_ (fun w (t:Qq w)=>Ko t 1 (by decide));have BM:Qb (bl (P.m*Q.m)<=50000):=Nat.le_trans (Wv _ _) (by omega);generalize Qh (Qk 1) ⟨false,P.m*Q.m,P.e+Q.e⟩=cc at *
 generalize Ve P Q=res at *
 generalize Qg P=t1 at *
 generalize Qg Q=t2 at *
 generalize decide (P.m≠0)=g1 at *
 generalize decide (Q.m≠0)=g2 at *
 obtain⟨x,hx⟩:∃x,x=t1+t2:=⟨_,rfl⟩
 have q1:IntKind.i64.wrap (t1+t2)=x:=by rw[hx];exact IntWalk.i64_in _ (by omega)
 rw[<-hx]at HA;obtain⟨y,hy⟩:∃y,y=P.e+Q.e:=⟨_,rfl⟩
 have q2:IntKind.i64.wrap (P.e+Q.e)=y:=by rw[hy];exact IntWalk.i64_in _ (by omega)
 have HY:Qb (-2000000<=y/\y<=2000000):=by rw[Qb];omega
 rw[<-hy]at CC;generalize Qk 1=O at *
 obtain⟨on,om,oe⟩:=O;obtain⟨pn,pm,pe⟩:=P;obtain⟨qn,qm,qe⟩:=Q;simp only at CM CC BM q2;generalize pm*qm=PQ at *
 obtain⟨a1,k1,c1,rfl⟩:=hu.fm;obtain⟨a2,k2,c2,rfl⟩:=hv.fm;have HU:=h_ hu;have HV:=h_ hv;clear hu hv bP bQ Q0 eP eQ tP tQ hx hy;go_enter Tryz.func49,Tryz.ntmps49;have F0:=h_ (Fx.two w 42 #[.bool pn,.slice a1 k1 c1,.int .i64 pe] 42 #[.bool qn,.slice a2 k2 c2,.int .i64 qe] rfl rfl);have X0:=h_ ((HU.o.alloc (.cells #[.bool pn,.slice a1 k1 c1,.int .i64 pe] 42)).alloc (.cells #[.bool qn,.slice a2 k2 c2,.int .i64 qe] 42));have Y0:=h_ ((HV.o.alloc (.cells #[.bool pn,.slice a1 k1 c1,.int .i64 pe] 42)).alloc (.cells #[.bool qn,.slice a2 k2 c2,.int .i64 qe] 42));go_upto_region 1 with(fail)
 generalize alloc (alloc _ _) _=w0 at F0 X0 Y0 |-;have c0_0:=F0.o.c3 0 rfl;have c1_0:=F0.o.c3 1 rfl;go_wp2_with fail;refine(C1.o _ _ X0.o).mono ?_;rintro q w1 ⟨rfl,hb⟩;have F1:=h_ (F0.o.call hb);have X1:=h_ (X0.o.below hb);have Y1:=h_ (Y0.o.below hb);have c0_1:=F1.o.c3 0 rfl;have c1_1:=F1.o.c3 1 rfl;go_wp2_with fail;refine(C2.o _ _ Y1.o).mono ?_;rintro q w2 ⟨rfl,hb⟩;have F2:=h_ (F1.o.call hb);have X2:=h_ (X1.o.below hb);have Y2:=h_ (Y1.o.below hb);have c0_2:=F2.o.c3 0 rfl;have c1_2:=F2.o.c3 1 rfl;by_cases h1:0<x
 case pos =>have hA:=HA.o;rw[if_pos h1]at hA;subst hA;have z1:decide (0<x)=true:=decide_eq_true h1;clear h1 HA;go_wp2;refine bodyPost_ret (v:=.tuple #[.int .i64 (-1),.int .i64 0]) (by simp[results,Tryz.results49,go_sem]) rfl ?_;exact⟨rfl,F2.o.b⟩
 have z1:decide (0<x)=false:=decide_eq_false h1;by_cases h2:x < -1
 case pos =>have hA:=HA.o;rw[if_neg h1,if_pos h2]at hA;subst hA;have z2:decide (x < -1)=true:=decide_eq_true h2;clear h1 h2 HA;go_wp2;refine bodyPost_ret (v:=.tuple #[.int .i64 1,.int .i64 0]) (by simp[results,Tryz.results49,go_sem]) rfl ?_;exact⟨rfl,F2.o.b⟩
 have hA:=HA.o;rw[if_neg h1,if_neg h2]at hA;subst hA;have z2:decide (x < -1)=false:=decide_eq_false h2;clear h1 h2 HA;go_wp2_with fail;refine(CO.o _ X2.o.tab).mono ?_;rintro q w3 ⟨u,rfl,hu,hb⟩;have F3:=h_ (F2.o.call hb);have X3:=h_ (X2.o.below hb);have Y3:=h_ (Y2.o.below hb);have O3:=h_ (hu);have c0_3:=F3.o.c3 0 rfl;have c1_3:=F3.o.c3 1 rfl;obtain⟨a3,k3,c3,rfl⟩:=O3.o.fm;clear hu z1 z2;go_upto_region 8 with(fail)
 have F4:=h_ (F3.o.new 42 #[.bool on,.slice a3 k3 c3,.int .i64 oe] rfl);have X4:=h_ (X3.o.alloc (.cells #[.bool on,.slice a3 k3 c3,.int .i64 oe] 42));have Y4:=h_ (Y3.o.alloc (.cells #[.bool on,.slice a3 k3 c3,.int .i64 oe] 42));have O4:=h_ (O3.o.alloc (.cells #[.bool on,.slice a3 k3 c3,.int .i64 oe] 42));obtain⟨g3,hg3⟩:∃g,g=(World.heap w3).size:=⟨_,rfl⟩
 rw[<-hg3]at F4 |-;clear hg3;simp only[nil_append,cons_append]at F4;generalize alloc w3 _=W4 at F4 X4 Y4 O4 |-;go_cut [11] (fun p wx=>Qb (∃g4 b5 b6 b7,p=.pointer (some ⟨g4,0,none⟩)/\Fx w wx [(w.heap.size,42,#[.bool pn,.slice a1 k1 c1,.int .i64 pe]),(w.heap.size+1,42,#[.bool qn,.slice a2 k2 c2,.int .i64 qe]),(g3,42,#[.bool on,.slice a3 k3 c3,.int .i64 oe]),(g4,42,#[.bool false,.slice b5 b6 b7,.int .i64 y])]/\Cy wx (.agg #[.bool on,.slice a3 k3 c3,.int .i64 oe]) ⟨on,om,oe⟩/\Dg wx (.slice b5 b6 b7) PQ))
 case first =>
  have FCD:=h_ (And.intro (F4.o.drew.c3 0 rfl).1 (F4.o.drew.c3 1 rfl).1);refine wp_region_held_drew (S:=fun w'=>(w'.cell? ⟨w.heap.size,0,none⟩=some (.bool pn)/\w'.cell? ⟨w.heap.size,1,none⟩=some (.slice a1 k1 c1)/\w'.cell? ⟨w.heap.size,2,none⟩=some (.int .i64 pe))/\(w'.cell? ⟨w.heap.size+1,0,none⟩=some (.bool qn)/\w'.cell? ⟨w.heap.size+1,1,none⟩=some (.slice a2 k2 c2)/\w'.cell? ⟨w.heap.size+1,2,none⟩=some (.int .i64 qe))) (by kernel_rfl) FCD.o (fun hHeld=>?_);have F5:=h_ (F4.o.drew);have X5:=h_ (X4.o.drew);have Y5:=h_ (Y4.o.drew);have O5:=h_ (O4.o.drew);generalize drew W4=W0 at F5 X5 Y5 O5 hHeld |-;refine wpAnyH_take (i:=0) (oi:=⟨some 33,_,_,_,_,_⟩) (v:=?_) rfl (by kernel_rfl) (by kernel_rfl) (by kernel_rfl) (fun _ _ _ h=>h) (Or.inl ⟨by rfl,?_⟩) (by assumption) ?_;rotate_left
  ·(intro w hSw;(try dsimp only at hSw);go_simp);try with_reducible rfl
  try simp only[Act.put,sI,sZ,sS]
  refine wpAnyH_take (i:=1) (oi:=⟨some 34,_,_,_,_,_⟩) (v:=?_) rfl (by kernel_rfl) (by kernel_rfl) (by kernel_rfl) (fun _ _ _ h=>h) (Or.inl ⟨by rfl,?_⟩) (by assumption) ?_;rotate_left
  ·(intro w hSw;(try dsimp only at hSw);go_simp);try with_reducible rfl
  try simp only[Act.put,sI,sZ,sS]
  refine wpAnyH_take (i:=2) (oi:=⟨some 35,_,_,_,_,_⟩) (v:=?_) rfl (by kernel_rfl) (by kernel_rfl) (by kernel_rfl) (fun _ _ _ h=>h) (Or.inl ⟨by rfl,?_⟩) (by assumption) ?_;rotate_left
  ·(intro w hSw;(try dsimp only at hSw);go_simp);try with_reducible rfl
  try simp only[Act.put,sI,sZ,sS]
  refine wpAnyH_take (i:=3) (oi:=⟨some 36,_,_,_,_,_⟩) (v:=?_) rfl (by kernel_rfl) (by kernel_rfl) (by kernel_rfl) (fun _ _ _ h=>h) (Or.inl ⟨by rfl,?_⟩) (by assumption) ?_;rotate_left
  ·(intro w hSw;(try dsimp only at hSw);go_simp);try with_reducible rfl
  try simp only[Act.put,sI,sZ,sS]
  refine wpAnyH_take (i:=5) (oi:=⟨some 38,_,_,_,_,_⟩) (v:=?_) rfl (by kernel_rfl) (by kernel_rfl) (by kernel_rfl) (fun _ _ _ h=>h) (Or.inl ⟨by rfl,?_⟩) (by assumption) ?_;rotate_left
  ·(intro w hSw;(try dsimp only at hSw);go_simp);try with_reducible rfl
  try simp only[Act.put,sI,sZ,sS]
  refine wpAnyH_take (i:=6) (oi:=⟨some 39,_,_,_,_,_⟩) (v:=?_) rfl (by kernel_rfl) (by kernel_rfl) (by kernel_rfl) (fun _ _ _ h=>h) (Or.inl ⟨by rfl,?_⟩) (by assumption) ?_;rotate_left
  ·(intro w hSw;(try dsimp only at hSw);go_simp);try with_reducible rfl
  try simp only[Act.put,sI,sZ,sS]
  refine wpAnyH_take (i:=7) (oi:=⟨some 40,_,_,_,_,_⟩) (v:=?_) rfl (by kernel_rfl) (by kernel_rfl) (by kernel_rfl) (fun _ _ _ h=>h) (Or.inl ⟨by rfl,?_⟩) (by assumption) ?_;rotate_left
  ·(intro w hSw;(try dsimp only at hSw);go_simp);try with_reducible rfl
  try simp only[Act.put,sI,sZ,sS]
  refine wpAnyH_take (i:=8) (oi:=⟨some 41,_,_,_,_,_⟩) (v:=?_) rfl (by kernel_rfl) (by kernel_rfl) (by kernel_rfl) (fun _ _ _ h=>h) (Or.inl ⟨by rfl,?_⟩) (by assumption) ?_;rotate_left
  ·(intro w hSw;(try dsimp only at hSw);go_simp);try with_reducible rfl
  try simp only[Act.put,sI,sZ,sS]
  refine wpAnyH_take (i:=9) (oi:=⟨some 42,_,_,_,_,_⟩) (v:=?_) rfl (by kernel_rfl) (by kernel_rfl) (by kernel_rfl) (fun _ _ _ h=>h) (Or.inl ⟨by rfl,?_⟩) (by assumption) ?_;rotate_left
  ·(intro w hSw;(try dsimp only at hSw);go_simp);try with_reducible rfl
  try simp only[Act.put,sI,sZ,sS]
  refine wpAnyH_ready (rs:=[4,11]) (by kernel_rfl) (by simp) ?_;refine AllReadyH.cons (o:=_) rfl (fun K hK=>?_) ?_
  .skip;go_simp;go_at_call 101
   with_reducible refine(CM.o _ _ _ X5.o.dm Y5.o.dm).mono ?_
   rintro q w6 ⟨u,rfl,hu,hb⟩;have F6:=h_ (F5.o.call hb);have X6:=h_ (X5.o.below hb);have Y6:=h_ (Y5.o.below hb);have O6:=h_ (O5.o.below hb);have M6:=h_ hu;obtain⟨b5,b6,b7,rfl⟩:=M6.o.form;clear hu hb
   try go_wp2_with fail
   refine hK.out _ _ (And.intro (F6.o.c3 0 rfl).1 (F6.o.c3 1 rfl).1) (fun hHeld'=>?_);clear hK K hHeld;have hHeld:=hHeld';clear hHeld'
   try simp only[Act.put,sI,sZ,sS]
   refine wpAnyH_ready (rs:=[10,11]) (by kernel_rfl) (by simp) ?_;refine AllReadyH.cons (o:=_) rfl (fun K hK=>?_) ?_
   .skip;go_simp;refine hK.out _ _ (And.intro (F6.o.c3 0 rfl).1 (F6.o.c3 1 rfl).1) (fun hHeld'=>?_);clear hK K hHeld;have hHeld:=hHeld';clear hHeld'
    try simp only[Act.put,sI,sZ,sS]
    refine wpAnyH_ready (rs:=[11]) (by kernel_rfl) (by simp) ?_;refine AllReadyH.cons (o:=_) rfl (fun K hK=>?_) ?_
    .skip;go_simp;have F7:=h_ (F6.o.new 42 #[.bool false,.slice none 0 0,.int .i64 0] rfl);have X7:=h_ (X6.o.alloc (.cells #[.bool false,.slice none 0 0,.int .i64 0] 42));have Y7:=h_ (Y6.o.alloc (.cells #[.bool false,.slice none 0 0,.int .i64 0] 42));have O7:=h_ (O6.o.alloc (.cells #[.bool false,.slice none 0 0,.int .i64 0] 42));have M7:=h_ (M6.o.alloc (.cells #[.bool false,.slice none 0 0,.int .i64 0] 42));obtain⟨g4,hg4⟩:∃g,g=(World.heap w6).size:=⟨_,rfl⟩
     rw[<-hg4]at F7 |-;clear hg4;simp only[nil_append,cons_append]at F7;generalize alloc w6 _=W7 at F7 X7 Y7 O7 M7 |-;refine hK.out _ _ (And.intro (F7.o.c3 0 rfl).1 (F7.o.c3 1 rfl).1) (fun hHeld'=>?_);clear hK K hHeld;have hHeld:=hHeld';clear hHeld'
     try simp only[Act.put,sI,sZ,sS]
     refine wpAnyH_ready (rs:=[12]) (by kernel_rfl) (by simp) ?_;refine AllReadyH.cons (o:=_) rfl (fun K hK=>?_) ?_
     .skip;have cc0:=F7.o.c3 3 rfl;go_simp;obtain⟨f,p⟩:=F7.o.s3 3 rfl (.bool false) (.slice b5 b6 b7) (.int .i64 y) rfl rfl rfl;generalize setCell _ _ _=W at f p |-;have F8:=h_ (f);have X8:=h_ (X7.o.kp p);have Y8:=h_ (Y7.o.kp p);have O8:=h_ (O7.o.kp p);have M8:=h_ (M7.o.kp p);simp only[sZ,sS]at F8;refine hK.out _ _ (And.intro (F8.o.c3 0 rfl).1 (F8.o.c3 1 rfl).1) (fun hHeld'=>?_);clear hK K hHeld;have hHeld:=hHeld';clear hHeld'
      try simp only[Act.put,sI,sZ,sS]
      refine wpAnyH_done (by kernel_rfl) ?_ _;go_wp2_with fail;go_meet;exact⟨_,_,_,_,rfl,F8.o,O8.o,M8.o⟩
     exact AllReadyH.nil
    exact AllReadyH.nil
   refine AllReadyH.cons (o:=_) rfl (fun K hK=>?_) ?_
   .skip;go_simp;have F7:=h_ (F6.o.new 42 #[.bool false,.slice none 0 0,.int .i64 0] rfl);have X7:=h_ (X6.o.alloc (.cells #[.bool false,.slice none 0 0,.int .i64 0] 42));have Y7:=h_ (Y6.o.alloc (.cells #[.bool false,.slice none 0 0,.int .i64 0] 42));have O7:=h_ (O6.o.alloc (.cells #[.bool false,.slice none 0 0,.int .i64 0] 42));have M7:=h_ (M6.o.alloc (.cells #[.bool false,.slice none 0 0,.int .i64 0] 42));obtain⟨g4,hg4⟩:∃g,g=(World.heap w6).size:=⟨_,rfl⟩
    rw[<-hg4]at F7 |-;clear hg4;simp only[nil_append,cons_append]at F7;generalize alloc w6 _=W7 at F7 X7 Y7 O7 M7 |-;refine hK.out _ _ (And.intro (F7.o.c3 0 rfl).1 (F7.o.c3 1 rfl).1) (fun hHeld'=>?_);clear hK K hHeld;have hHeld:=hHeld';clear hHeld'
    try simp only[Act.put,sI,sZ,sS]
    refine wpAnyH_ready (rs:=[10]) (by kernel_rfl) (by simp) ?_;refine AllReadyH.cons (o:=_) rfl (fun K hK=>?_) ?_
    .skip;go_simp;refine hK.out _ _ (And.intro (F7.o.c3 0 rfl).1 (F7.o.c3 1 rfl).1) (fun hHeld'=>?_);clear hK K hHeld;have hHeld:=hHeld';clear hHeld'
     try simp only[Act.put,sI,sZ,sS]
     refine wpAnyH_ready (rs:=[12]) (by kernel_rfl) (by simp) ?_;refine AllReadyH.cons (o:=_) rfl (fun K hK=>?_) ?_
     .skip;have cc0:=F7.o.c3 3 rfl;go_simp;obtain⟨f,p⟩:=F7.o.s3 3 rfl (.bool false) (.slice b5 b6 b7) (.int .i64 y) rfl rfl rfl;generalize setCell _ _ _=W at f p |-;have F8:=h_ (f);have X8:=h_ (X7.o.kp p);have Y8:=h_ (Y7.o.kp p);have O8:=h_ (O7.o.kp p);have M8:=h_ (M7.o.kp p);simp only[sZ,sS]at F8;refine hK.out _ _ (And.intro (F8.o.c3 0 rfl).1 (F8.o.c3 1 rfl).1) (fun hHeld'=>?_);clear hK K hHeld;have hHeld:=hHeld';clear hHeld'
      try simp only[Act.put,sI,sZ,sS]
      refine wpAnyH_done (by kernel_rfl) ?_ _;go_wp2_with fail;go_meet;exact⟨_,_,_,_,rfl,F8.o,O8.o,M8.o⟩
     exact AllReadyH.nil
    exact AllReadyH.nil
   exact AllReadyH.nil
  refine AllReadyH.cons (o:=_) rfl (fun K hK=>?_) ?_
  .skip;go_simp;have F6:=h_ (F5.o.new 42 #[.bool false,.slice none 0 0,.int .i64 0] rfl);have X6:=h_ (X5.o.alloc (.cells #[.bool false,.slice none 0 0,.int .i64 0] 42));have Y6:=h_ (Y5.o.alloc (.cells #[.bool false,.slice none 0 0,.int .i64 0] 42));have O6:=h_ (O5.o.alloc (.cells #[.bool false,.slice none 0 0,.int .i64 0] 42));obtain⟨g4,hg4⟩:∃g,g=(World.heap W0).size:=⟨_,rfl⟩
   rw[<-hg4]at F6 |-;clear hg4;simp only[nil_append,cons_append]at F6;generalize alloc W0 _=W6 at F6 X6 Y6 O6 |-;refine hK.out _ _ (And.intro (F6.o.c3 0 rfl).1 (F6.o.c3 1 rfl).1) (fun hHeld'=>?_);clear hK K hHeld;have hHeld:=hHeld';clear hHeld'
   try simp only[Act.put,sI,sZ,sS]
   refine wpAnyH_ready (rs:=[4]) (by kernel_rfl) (by simp) ?_;refine AllReadyH.cons (o:=_) rfl (fun K hK=>?_) ?_
   .skip;go_simp;go_at_call 101
    with_reducible refine(CM.o _ _ _ X6.o.dm Y6.o.dm).mono ?_
    rintro q w7 ⟨u,rfl,hu,hb⟩;have F7:=h_ (F6.o.call hb);have X7:=h_ (X6.o.below hb);have Y7:=h_ (Y6.o.below hb);have O7:=h_ (O6.o.below hb);have M7:=h_ hu;obtain⟨b5,b6,b7,rfl⟩:=M7.o.form;clear hu hb
    try go_wp2_with fail
    refine hK.out _ _ (And.intro (F7.o.c3 0 rfl).1 (F7.o.c3 1 rfl).1) (fun hHeld'=>?_);clear hK K hHeld;have hHeld:=hHeld';clear hHeld'
    try simp only[Act.put,sI,sZ,sS]
    refine wpAnyH_ready (rs:=[10]) (by kernel_rfl) (by simp) ?_;refine AllReadyH.cons (o:=_) rfl (fun K hK=>?_) ?_
    .skip;go_simp;refine hK.out _ _ (And.intro (F7.o.c3 0 rfl).1 (F7.o.c3 1 rfl).1) (fun hHeld'=>?_);clear hK K hHeld;have hHeld:=hHeld';clear hHeld'
     try simp only[Act.put,sI,sZ,sS]
     refine wpAnyH_ready (rs:=[12]) (by kernel_rfl) (by simp) ?_;refine AllReadyH.cons (o:=_) rfl (fun K hK=>?_) ?_
     .skip;have cc0:=F7.o.c3 3 rfl;go_simp;obtain⟨f,p⟩:=F7.o.s3 3 rfl (.bool false) (.slice b5 b6 b7) (.int .i64 y) rfl rfl rfl;generalize setCell _ _ _=W at f p |-;have F8:=h_ (f);have X8:=h_ (X7.o.kp p);have Y8:=h_ (Y7.o.kp p);have O8:=h_ (O7.o.kp p);have M8:=h_ (M7.o.kp p);simp only[sZ,sS]at F8;refine hK.out _ _ (And.intro (F8.o.c3 0 rfl).1 (F8.o.c3 1 rfl).1) (fun hHeld'=>?_);clear hK K hHeld;have hHeld:=hHeld';clear hHeld'
      try simp only[Act.put,sI,sZ,sS]
      refine wpAnyH_done (by kernel_rfl) ?_ _;go_wp2_with fail;go_meet;exact⟨_,_,_,_,rfl,F8.o,O8.o,M8.o⟩
     exact AllReadyH.nil
    exact AllReadyH.nil
   exact AllReadyH.nil
  exact AllReadyH.nil
 case rest =>
  obtain⟨g4,b5,b6,b7,rfl,hf,ho,hm⟩:=hcut.o;clear hcut;have F30:=h_ hf;have O30:=h_ ho;have M30:=h_ hm;have R30:Qb (Ry wc (.agg #[.bool false,.slice b5 b6 b7,.int .i64 y]) ⟨false,PQ,y⟩):=⟨_,rfl,hm.rd (by have:=BM.o;omega),by have:=BM.o;show bl PQ<=255000;omega,by have:=HY.o;show -4611686018427387904<=y;omega,by have:=HY.o;show y<=4611686018427387904;omega⟩
  clear hf ho hm M30;have c0_30:=F30.o.c3 0 rfl;have c1_30:=F30.o.c3 1 rfl;have c2_30:=F30.o.c3 2 rfl;have c3_30:=F30.o.c3 3 rfl;go_wp2_with fail;refine(CC.o _ _ _ O30.o R30.o).mono ?_;rintro q w31 ⟨rfl,hb⟩;have F31:=h_ (F30.o.call hb);have O31:=h_ (O30.o.below hb);have R31:=h_ (R30.o.below hb);have c0_31:=F31.o.c3 0 rfl;have c1_31:=F31.o.c3 1 rfl;have c2_31:=F31.o.c3 2 rfl;have c3_31:=F31.o.c3 3 rfl;go_wp2;refine bodyPost_ret (v:=.tuple #[.int .i64 res,.int .i64 0]) (by simp[results,Tryz.results49,go_sem]) rfl ?_;exact⟨rfl,F31.o.b⟩
theorem Qi5{n k b:Nat}(h:bl n<=b):bl (n^k)<=b*k+1:=by
 have h1:n<=2^b:=Nat.le_of_lt (Nat.lt_of_lt_of_le (Zb n) (Nat.pow_le_pow_right (by decide) h));have h2:n^k<=2^(b*k):=by rw[Nat.pow_mul];exact Nat.pow_le_pow_left h1 k
 exact Zp (Nat.lt_of_le_of_lt h2 (Nat.pow_lt_pow_right (by decide) (Nat.lt_succ_self _)))
def J1(x:Dn)(k:Nat):Dn:=Qa ⟨false,x.m^k,x.e*(k:Int)⟩
theorem Rb{x:Dn}{k:Nat}(h0:x.m≠0)(hb:bl x.m<=60)(he:-1200<=x.e/\x.e<=1200)(hk:k<=30) :
  (bl (J1 x k).m<=2000/\(J1 x k).m≠0/\-50000<=(J1 x k).e/\(J1 x k).e<=50000/\(J1 x k).neg=false)/\-60000<=Qg (J1 x k)/\Qg (J1 x k)<=60000:=by
 have h1:x.m^k≠0:=Nat.pos_iff_ne_zero.1 (Nat.pow_pos (Nat.pos_of_ne_zero h0));have hbp:=Qi5 (k:=k) hb;have hm:bl (x.m^k)<=1801:=Nat.le_trans hbp (by omega);have e1:-36000<=x.e*(k:Int)/\x.e*(k:Int)<=36000:=by
  have hn:(x.e*(k:Int)).natAbs<=36000:=by rw[Int.natAbs_mul,Int.natAbs_natCast];exact Nat.le_trans (Nat.mul_le_mul (show x.e.natAbs<=1200 by omega) hk) (by decide)
  omega
 unfold J1;generalize x.m^k=m at *
 generalize x.e*(k:Int)=e at *
 obtain⟨l,j,hw,hd,hl⟩:=Ji (n:=false) h1 (by omega:-100000<=e/\e<=100000);have hbb:=Wz (n:=false) (j:=j) (e:=e+(l:Int)) (by omega);rw[hd];refine⟨⟨by show bl (2*j+1)<=2000;omega,by simp,by show -50000<=e+(l:Int);omega,by show e+(l:Int)<=50000;omega,rfl⟩,?_⟩;unfold Qg;rw[hbb,if_neg (by simp)];simp only;omega
theorem Qjh{w:World}{u v:Value}{x b:Dn}(hu:Cy w u x)(hv:Cy w v b)(xb:Qa x=x)(bb:Qa b=b)(xn0:x.neg=false)(bn0:b.neg=false)(x0:x.m≠0)(b0:b.m≠0)(hx:bl x.m<=60)(hb:bl b.m<=60)(ex:-1200<=x.e/\x.e<=1200)(eb:-1200<=b.e/\b.e<=1200)(m:Int)(hm:m.natAbs<=30)(k:Nat)(hk:1<=k/\k<=30) :
  Calls Tryz.prog 21 #[u,.int .i64 m,v,.int .i64 (k:Int)] w fun e w'=>e=.returned (.tuple #[.int .i64 (if 0<=m then Qh (J1 x m.natAbs) (J1 b k)else Ve (J1 x m.natAbs) (J1 b k)),.int .i64 0])/\Below w.heap.size w w':=by
 have sx:Sd x:=⟨by omega,by omega,by omega⟩
 have sb:Sd b:=⟨by omega,by omega,by omega⟩
 have x64:x.m<18446744073709551616:=Nat.lt_of_lt_of_le (Zb _) (Nat.le_trans (Nat.pow_le_pow_right (by decide) (show bl x.m<=64 by omega)) (by decide));have b64:b.m<18446744073709551616:=Nat.lt_of_lt_of_le (Zb _) (Nat.le_trans (Nat.pow_le_pow_right (by decide) (show bl b.m<=64 by omega)) (by decide));have fx1:bl x.m*m.natAbs<=60000:=Nat.le_trans (Nat.mul_le_mul hx hm) (by decide);have fx2:x.e.natAbs*m.natAbs<=60000:=Nat.le_trans (Nat.mul_le_mul (show x.e.natAbs<=1200 by omega) hm) (by decide);have fb1:bl b.m*k<=60000:=Nat.le_trans (Nat.mul_le_mul hb hk.2) (by decide);have fb2:b.e.natAbs*k<=60000:=Nat.le_trans (Nat.mul_le_mul (show b.e.natAbs<=1200 by omega) hk.2) (by decide);have CB1:=h_ (fun w u (h:Cy w u x)=>Xr h.ry sx);have CB2:=h_ (fun w u (h:Cy w u b)=>Xr h.ry sb);rw[xb]at CB1;rw[bb]at CB2;have CS1:=h_ (fun w u (h:Cy w u x)=>Jn h.ry);have CS2:=h_ (fun w u (h:Cy w u b)=>Jn h.ry);have s1:Qe x=1:=by unfold Qe;rw[if_neg x0,xn0];rfl
 have s2:Qe b=1:=by unfold Qe;rw[if_neg b0,bn0];rfl
 rw[s1]at CS1;rw[s2]at CS2;have CF1:=h_ (fun w u (h:Cy w u x)=>Bk h sx m (by omega));have CF2:=h_ (fun w u (h:Cy w u b)=>Bk h sb (k:Int) (by omega));rw[xb,decide_eq_true fx1,decide_eq_true fx2]at CF1;rw[bb,show(k:Int).natAbs=k from rfl,decide_eq_true fb1,decide_eq_true fb2]at CF2;have CP1:=h_ (fun w u (h:Cy w u x)=>Bf h sx m (by rw[xb];exact xn0) (by rw[xb];exact fx1) (by rw[xb];exact fx2) (by rw[xb];exact x64) (by omega));have CP2:=h_ (fun w u (h:Cy w u b)=>Bf h sb (k:Int) (by rw[bb];exact bn0) (by rw[bb];exact fb1) (by rw[bb];exact fb2) (by rw[bb];exact b64) (by omega));obtain⟨⟨p1,p2,p3,p4,p5⟩,p6⟩:=Rb x0 hx ex hm;obtain⟨⟨q1,q2,q3,q4,q5⟩,q6⟩:=Rb (k:=k) b0 hb eb hk.2;have hp:Qa ⟨false,(Qa x).m^m.natAbs,(Qa x).e*(m.natAbs:Int)⟩=J1 x m.natAbs:=by rw[xb];rfl
 have hq:Qa ⟨false,(Qa b).m^(k:Int).natAbs,(Qa b).e*((k:Int).natAbs:Int)⟩=J1 b k:=by rw[bb];rfl
 rw[hp]at CP1;rw[hq]at CP2;generalize J1 x m.natAbs=P at *
 generalize J1 b k=Q at *
 have CC:=h_ (fun w u v (h:Cy w u P) (k:Cy w v Q)=>Zv h.ry k.ry);have CG:=h_ (fun w u v (h:Cy w u P) (k:Cy w v Q)=>Qcg h k (by omega) (by omega) q2 (by omega) (by omega) (by omega) (by omega));generalize Qh P Q=r1 at *
 generalize Ve P Q=r2 at *
 obtain⟨pn,pm,pe⟩:=P;obtain⟨qn,qm,qe⟩:=Q;obtain⟨xn,xm,xe⟩:=x;obtain⟨bn,bm,be⟩:=b;obtain⟨a1,k1,c1,rfl⟩:=hu.fm;obtain⟨a2,k2,c2,rfl⟩:=hv.fm;have HU:=h_ hu;have HV:=h_ hv;obtain⟨tm,htm⟩:∃t,t=decide (0<=m):=⟨_,rfl⟩
 have t1:decide (0<=m)=tm:=htm.symm;have t2:decide ((k:Int)<1)=false:=decide_eq_false (by omega);have t3:decide (k<1)=false:=decide_eq_false (by omega);have HTM:=h_ htm;clear hu hv xb bb xn0 bn0 x0 b0 hx hb ex eb hm hk sx sb x64 b64 fx1 fx2 fb1 fb2 s1 s2 p1 p2 p3 p4 p5 p6 q1 q2 q3 q4 q5 q6 hp hq htm;obtain⟨rr,hrr⟩:∃r,r=if 0<=m then r1 else r2:=⟨_,rfl⟩
 rw[<-hrr];have HRR:=h_ hrr;clear hrr;go_enter Tryz.func21,Tryz.ntmps21;have F0:=h_ (Fx.two w 42 #[.bool xn,.slice a1 k1 c1,.int .i64 xe] 42 #[.bool bn,.slice a2 k2 c2,.int .i64 be] rfl rfl);have X0:=h_ ((HU.o.alloc (.cells #[.bool xn,.slice a1 k1 c1,.int .i64 xe] 42)).alloc (.cells #[.bool bn,.slice a2 k2 c2,.int .i64 be] 42));have Y0:=h_ ((HV.o.alloc (.cells #[.bool xn,.slice a1 k1 c1,.int .i64 xe] 42)).alloc (.cells #[.bool bn,.slice a2 k2 c2,.int .i64 be] 42));go_upto_region 1 with(fail)
 generalize alloc (alloc _ _) _=w0 at F0 X0 Y0 |-;have c0_0:=F0.o.c3 0 rfl;have c1_0:=F0.o.c3 1 rfl;go_wp2_with fail;refine(CB1.o _ _ X0.o).mono ?_;rintro q w1 ⟨u,rfl,hu,hb⟩;have F1:=h_ (F0.o.call hb);have X1:=h_ (X0.o.below hb);have Y1:=h_ (Y0.o.below hb);have U1:=h_ (hu);clear hb;have c0_1:=F1.o.c3 0 rfl;have c1_1:=F1.o.c3 1 rfl;obtain⟨d1,d2,d3,rfl⟩:=U1.o.fm;clear hu;go_upto_region 2 with(fail)
 have F2:=h_ (F1.o.new 42 #[.bool xn,.slice d1 d2 d3,.int .i64 xe] rfl);have X2:=h_ (X1.o.alloc (.cells #[.bool xn,.slice d1 d2 d3,.int .i64 xe] 42));have Y2:=h_ (Y1.o.alloc (.cells #[.bool xn,.slice d1 d2 d3,.int .i64 xe] 42));have U2:=h_ (U1.o.alloc (.cells #[.bool xn,.slice d1 d2 d3,.int .i64 xe] 42));obtain⟨g1,hg1⟩:∃g,g=(World.heap w1).size:=⟨_,rfl⟩
 rw[<-hg1]at F2 |-;clear hg1;simp only[nil_append,cons_append]at F2;generalize alloc w1 _=W2 at F2 X2 Y2 U2 |-;have c0_2:=F2.o.c3 0 rfl;have c1_2:=F2.o.c3 1 rfl;have c2_2:=F2.o.c3 2 rfl;go_wp2_with fail;refine(CB2.o _ _ Y2.o).mono ?_;rintro q w3 ⟨u,rfl,hu,hb⟩;have F3:=h_ (F2.o.call hb);have X3:=h_ (X2.o.below hb);have Y3:=h_ (Y2.o.below hb);have U3:=h_ (hu);clear hb;have c0_3:=F3.o.c3 0 rfl;have c1_3:=F3.o.c3 1 rfl;have c2_3:=F3.o.c3 2 rfl;obtain⟨d4,d5,d6,rfl⟩:=U3.o.fm;clear hu;go_upto_region 3 with(fail)
 have F4:=h_ (F3.o.new 42 #[.bool bn,.slice d4 d5 d6,.int .i64 be] rfl);have X4:=h_ (X3.o.alloc (.cells #[.bool bn,.slice d4 d5 d6,.int .i64 be] 42));have Y4:=h_ (Y3.o.alloc (.cells #[.bool bn,.slice d4 d5 d6,.int .i64 be] 42));have U4:=h_ (U3.o.alloc (.cells #[.bool bn,.slice d4 d5 d6,.int .i64 be] 42));obtain⟨g2,hg2⟩:∃g,g=(World.heap w3).size:=⟨_,rfl⟩
 rw[<-hg2]at F4 |-;clear hg2;simp only[nil_append,cons_append]at F4;generalize alloc w3 _=W4 at F4 X4 Y4 U4 |-;have c0_4:=F4.o.c3 0 rfl;have c1_4:=F4.o.c3 1 rfl;have c2_4:=F4.o.c3 2 rfl;have c3_4:=F4.o.c3 3 rfl;go_wp2_with fail;refine(CS1.o _ _ X4.o).mono ?_;rintro q w5 ⟨rfl,hb⟩;have F5:=h_ (F4.o.call hb);have X5:=h_ (X4.o.below hb);have Y5:=h_ (Y4.o.below hb);clear hb;have c0_5:=F5.o.c3 0 rfl;have c1_5:=F5.o.c3 1 rfl;have c2_5:=F5.o.c3 2 rfl;have c3_5:=F5.o.c3 3 rfl;go_wp2_with fail;refine(CS2.o _ _ Y5.o).mono ?_;rintro q w6 ⟨rfl,hb⟩;have F6:=h_ (F5.o.call hb);have X6:=h_ (X5.o.below hb);have Y6:=h_ (Y5.o.below hb);clear hb;have c0_6:=F6.o.c3 0 rfl;have c1_6:=F6.o.c3 1 rfl;have c2_6:=F6.o.c3 2 rfl;have c3_6:=F6.o.c3 3 rfl;go_wp2_with fail;refine(CF1.o _ _ X6.o).mono ?_;rintro q w7 ⟨rfl,hb⟩;have F7:=h_ (F6.o.call hb);have X7:=h_ (X6.o.below hb);have Y7:=h_ (Y6.o.below hb);clear hb;have c0_7:=F7.o.c3 0 rfl;have c1_7:=F7.o.c3 1 rfl;have c2_7:=F7.o.c3 2 rfl;have c3_7:=F7.o.c3 3 rfl;go_wp2_with fail;refine(CF2.o _ _ Y7.o).mono ?_;rintro q w8 ⟨rfl,hb⟩;have F8:=h_ (F7.o.call hb);have X8:=h_ (X7.o.below hb);have Y8:=h_ (Y7.o.below hb);clear hb;have c0_8:=F8.o.c3 0 rfl;have c1_8:=F8.o.c3 1 rfl;have c2_8:=F8.o.c3 2 rfl;have c3_8:=F8.o.c3 3 rfl;go_wp2_with fail;refine(CP1.o _ _ X8.o).mono ?_;rintro q w9 ⟨u,rfl,hu,hb⟩;have F9:=h_ (F8.o.call hb);have X9:=h_ (X8.o.below hb);have Y9:=h_ (Y8.o.below hb);have P9:=h_ (hu);clear hb;have c0_9:=F9.o.c3 0 rfl;have c1_9:=F9.o.c3 1 rfl;have c2_9:=F9.o.c3 2 rfl;have c3_9:=F9.o.c3 3 rfl;obtain⟨e1,e2,e3,rfl⟩:=P9.o.fm;clear hu;go_upto_region 8 with(fail)
 have F10:=h_ (F9.o.new 42 #[.bool pn,.slice e1 e2 e3,.int .i64 pe] rfl);have X10:=h_ (X9.o.alloc (.cells #[.bool pn,.slice e1 e2 e3,.int .i64 pe] 42));have Y10:=h_ (Y9.o.alloc (.cells #[.bool pn,.slice e1 e2 e3,.int .i64 pe] 42));have P10:=h_ (P9.o.alloc (.cells #[.bool pn,.slice e1 e2 e3,.int .i64 pe] 42));obtain⟨g3,hg3⟩:∃g,g=(World.heap w9).size:=⟨_,rfl⟩
 rw[<-hg3]at F10 |-;clear hg3;simp only[nil_append,cons_append]at F10;generalize alloc w9 _=W10 at F10 X10 Y10 P10 |-;have c0_10:=F10.o.c3 0 rfl;have c1_10:=F10.o.c3 1 rfl;have c2_10:=F10.o.c3 2 rfl;have c3_10:=F10.o.c3 3 rfl;have c4_10:=F10.o.c3 4 rfl;go_wp2_with fail;refine(CP2.o _ _ Y10.o).mono ?_;rintro q w11 ⟨u,rfl,hu,hb⟩;have F11:=h_ (F10.o.call hb);have Y11:=h_ (Y10.o.below hb);have P11:=h_ (P10.o.below hb);have Q11:=h_ (hu);clear hb;have c0_11:=F11.o.c3 0 rfl;have c1_11:=F11.o.c3 1 rfl;have c2_11:=F11.o.c3 2 rfl;have c3_11:=F11.o.c3 3 rfl;have c4_11:=F11.o.c3 4 rfl;obtain⟨e4,e5,e6,rfl⟩:=Q11.o.fm;clear hu;go_upto_region 11 with(fail)
 have F12:=h_ (F11.o.new 42 #[.bool qn,.slice e4 e5 e6,.int .i64 qe] rfl);have Y12:=h_ (Y11.o.alloc (.cells #[.bool qn,.slice e4 e5 e6,.int .i64 qe] 42));have P12:=h_ (P11.o.alloc (.cells #[.bool qn,.slice e4 e5 e6,.int .i64 qe] 42));have Q12:=h_ (Q11.o.alloc (.cells #[.bool qn,.slice e4 e5 e6,.int .i64 qe] 42));obtain⟨g4,hg4⟩:∃g,g=(World.heap w11).size:=⟨_,rfl⟩
 rw[<-hg4]at F12 |-;clear hg4;simp only[nil_append,cons_append]at F12;generalize alloc w11 _=W12 at F12 Y12 P12 Q12 |-;have c0_12:=F12.o.c3 0 rfl;have c1_12:=F12.o.c3 1 rfl;have c2_12:=F12.o.c3 2 rfl;have c3_12:=F12.o.c3 3 rfl;have c4_12:=F12.o.c3 4 rfl;have c5_12:=F12.o.c3 5 rfl;cases tm
 case true =>have hm:0<=m:=of_decide_eq_true HTM.o.symm;have hr:=HRR.o;rw[if_pos hm]at hr;subst hr;clear hm HTM HRR;go_wp2_with fail;refine(CC.o _ _ _ P12.o Q12.o).mono ?_;rintro q w13 ⟨rfl,hb⟩;have F13:=h_ (F12.o.call hb);have P13:=h_ (P12.o.below hb);have Q13:=h_ (Q12.o.below hb);clear hb;have c0_13:=F13.o.c3 0 rfl;have c1_13:=F13.o.c3 1 rfl;have c2_13:=F13.o.c3 2 rfl;have c3_13:=F13.o.c3 3 rfl;have c4_13:=F13.o.c3 4 rfl;have c5_13:=F13.o.c3 5 rfl;go_wp2;refine bodyPost_ret (v:=.tuple #[.int .i64 rr,.int .i64 0]) (by simp[results,Tryz.results21,go_sem]) rfl ?_;exact⟨rfl,F13.o.b⟩
 case false =>have hm:¬0<=m:=of_decide_eq_false HTM.o.symm;have hr:=HRR.o;rw[if_neg hm]at hr;subst hr;clear hm HTM HRR;go_wp2_with fail;refine(CG.o _ _ _ P12.o Q12.o).mono ?_;rintro q w13 ⟨rfl,hb⟩;have F13:=h_ (F12.o.call hb);have P13:=h_ (P12.o.below hb);have Q13:=h_ (Q12.o.below hb);clear hb;have c0_13:=F13.o.c3 0 rfl;have c1_13:=F13.o.c3 1 rfl;have c2_13:=F13.o.c3 2 rfl;have c3_13:=F13.o.c3 3 rfl;have c4_13:=F13.o.c3 4 rfl;have c5_13:=F13.o.c3 5 rfl;go_wp2;refine bodyPost_ret (v:=.tuple #[.int .i64 rr,.int .i64 0]) (by simp[results,Tryz.results21,go_sem]) rfl ?_;exact⟨rfl,F13.o.b⟩
end Go.Proofs.YtobpioceopfkpaaGreatDoor
