/-
  Lemmas for WholeCompare (part 31); without conditions.
-/
import Derived.Test.YtobpioceopfkpaaGreatDoorM29
import Derived.Test.YtobpioceopfkpaaGreatDoorM30
import Derived.Test.YtobpioceopfkpaaGreatDoorM07
set_option maxRecDepth 100000
set_option maxHeartbeats 4000000
namespace Go.Proofs.YtobpioceopfkpaaGreatDoor
open Go.RowKit
open World (setCell alloc drew)
open List (set_cons_zero set_cons_succ setIfInBounds_toArray cons_append nil_append)
open Rl
theorem Qjw{x y:Dn}(h:Yo x y)(y5:Vb 0 5 y){s:Nat}(hs:s<=2400):Vb s (s+30) (Xz x y s).lo/\Vb s (s+30) (Xz x y s).hi:=by
 obtain⟨l1,l2,-⟩:=Re (t:=Qg (Qa x)) h.x0 h.hE (by omega:s<=3000);unfold Xz;generalize Xv (Qa x).m (Qg (Qa x)) s=L at *
 obtain⟨L1,L2⟩:=L;simp only at l1 l2 |-;obtain⟨p1,-⟩:=l1.mul y5 (by omega) (by omega) (by decide) (by decide);obtain⟨q1,-⟩:=l2.mul y5 (by omega) (by omega) (by decide) (by decide);unfold Pu;exact⟨D9 (P:=Vb s (s+30)) p1 p1 q1 q1,Ca (P:=Vb s (s+30)) p1 p1 q1 q1⟩
theorem dv1{q u n A:Rat}(hA:0<A)(hn:0<n)(h:q*n<=u):q/A<=u/A/n:=by
 rw[Jh hn,Jh hA];have:q/A*n*A=q*n:=by grind
 rw[this];exact h
theorem dv2{q u n A:Rat}(hA:0<A)(hn:0<n)(h:u<=q*n):u/A/n<=q/A:=by
 rw[<-Rat.not_lt,Rat.lt_div_iff hn,Rat.not_lt,<-Rat.not_lt,Rat.lt_div_iff hA,Rat.not_lt];have:q/A*n*A=q*n:=by grind
 rw[this];exact h
theorem Qgt(U:Nat){N:Nat}(hN:0<N):Vl U N false*N<=U/\U<=Vl U N true*N/\∀g,Vl U N g<=U+1:=by
 have h1:=Nat.div_add_mod U N;have h2:=Nat.mod_lt U hN;have h3:=Nat.div_le_self U N;rw[Nat.mul_comm]at h1;unfold Vl;refine⟨?_,?_,fun g=>?_⟩
 .rw[if_neg (by simp)];omega
 .by_cases h:U%N=0
  .rw[if_neg (by simp[h])];omega
  .rw[if_pos (by simp[h]),Nat.add_mul,Nat.one_mul];omega
 .split<;>omega
theorem Qbn{d:Dn}{s N:Nat}(v:Vb s (s+30) d)(hs:s<=2400)(hN:0<N)(g:Bool) :
  Sd (Uf d N s g)/\Vb s (s+31) (Uf d N s g)/\bl (Qx d s g)<=200000/\(g=(Qa d).neg->rv (Uf d N s g)<=rv d/(N:Rat))/\(g=!(Qa d).neg->rv d/(N:Rat)<=rv (Uf d N s g)):=by
 obtain⟨vb,-⟩:=v.bare (by omega) (by omega);have hsp:=v.span (by omega) (by omega);have e0:0<=(Qa d).e+(s:Int):=by have:=vb.lo;omega
 have eu:Qx d s g=mz s (Qa d):=by unfold Qx;rw[if_pos e0];rfl
 have hr:rv d=if(Qa d).neg then -(((mz s (Qa d):Nat):Rat)/(2:Rat)^s)else((mz s (Qa d):Nat):Rat)/(2:Rat)^s:=by
  rw[<-Yx (d:=d) ⟨by omega,by omega⟩];have h1:=Sk vb.lo;have hp:=Zl s;have e:val (Qa d).m (Qa d).e=((mz s (Qa d):Nat):Rat)/(2:Rat)^s:=by grind
  unfold rv;rw[e]
 have ub:=vb.b;unfold Uf;rw[eu,hr];generalize mz s (Qa d)=U at *
 generalize (Qa d).neg=n at *
 obtain⟨q1,q2,q3⟩:=Qgt U hN;have q3:=q3 g;have p1:2^(s+31)=2^(s+30)*2:=by rw[show s+31=s+30+1 from rfl,Nat.pow_succ]
 have pp:=Nat.two_pow_pos (s+30);have qb:Vl U N g<=2^(s+31):=by omega
 have w:Vb s (s+31) (Qa ⟨n,Vl U N g,-(s:Int)⟩):=by refine Vb.of_bare (by omega) ⟨by show -(s:Int)≤-(s:Int);omega,by show -(s:Int)<=1000000;omega⟩ ?_;unfold mz;simp only;rw[show(-(s:Int)+(s:Int)).toNat=0 by omega,Nat.pow_zero,Nat.mul_one];exact qb
 have er:rv (Qa ⟨n,Vl U N g,-(s:Int)⟩)=if n then -((Vl U N g:Rat)/(2:Rat)^s)else(Vl U N g:Rat)/(2:Rat)^s:=by rw[Yx ⟨by show -2147483648≤-(s:Int);omega,by show -(s:Int)<=2147483648;omega⟩,Ib]
 have hp:=Zl s;have np:(0:Rat)<(N:Rat):=by exact_mod_cast hN
 have r1:((Vl U N false:Nat):Rat)*(N:Rat)<=(U:Rat):=by exact_mod_cast q1
 have r2:(U:Rat)<=((Vl U N true:Nat):Rat)*(N:Rat):=by exact_mod_cast q2
 have ng:∀a:Rat,-a/(N:Rat)=-(a/(N:Rat)):=fun a=>by rw[Rat.div_def,Rat.div_def];grind
 rw[er];refine⟨⟨by have:=w.bl;omega,by have:=w.lo;omega,by have:=w.hi;omega⟩,w,Nat.le_trans (Zp (Nat.lt_of_le_of_lt ub (Nat.pow_lt_pow_right (by decide) (Nat.lt_succ_self _)))) (by omega),fun hg=>?_,fun hg=>?_⟩
 .subst hg;cases g
  .rw[if_neg (by simp),if_neg (by simp)];exact dv1 hp np r1
  .rw[if_pos rfl,if_pos rfl,ng];exact Rat.neg_le_neg (dv2 hp np r2)
 .subst hg;cases n
  .rw[if_neg (by simp),if_neg (by simp)];exact dv2 hp np r2
  .rw[if_pos rfl,if_pos rfl,ng];exact Rat.neg_le_neg (dv1 hp np r1)
theorem Qjy{x y:Dn}(h:Yo x y)(y5:Vb 0 5 y){s N:Nat}(hs:8<=s/\s<=2400)(hN:1<=N) :
  Sd (zN (Xz x y s) N s).lo/\Sd (zN (Xz x y s) N s).hi/\Qh (zN (Xz x y s) N s).lo (zN (Xz x y s) N s).hi<=0/\rv (zN (Xz x y s) N s).lo<=rv (Xz x y s).lo/(N:Rat)/\rv (Xz x y s).hi/(N:Rat)<=rv (zN (Xz x y s) N s).hi /\
  bl (Qx (Xz x y s).lo s (Qa (Xz x y s).lo).neg)<=200000/\bl (Qx (Xz x y s).hi s (!(Qa (Xz x y s).hi).neg))<=200000:=by
 obtain⟨-,d1,d2,d3⟩:=E8 h hs;obtain⟨v1,v2⟩:=Qjw h y5 hs.2;obtain⟨a1,a2,a3,a4,-⟩:=Qbn v1 hs.2 (by omega:0<N) (Qa (Xz x y s).lo).neg;obtain⟨b1,b2,b3,-,b4⟩:=Qbn v2 hs.2 (by omega:0<N) (!(Qa (Xz x y s).hi).neg);have a4:=a4 rfl;have b4:=b4 rfl;unfold zN;by_cases h1:N<=1
 .rw[if_pos h1];obtain rfl:N=1:=by omega
  have e:∀a:Rat,a/((1:Nat):Rat)=a:=fun a=>by push_cast;grind
  rw[e,e];exact⟨d1,d2,d3,Rat.le_refl,Rat.le_refl,a3,b3⟩
 .rw[if_neg h1];refine⟨a1,b1,?_,a4,b4,a3,b3⟩;have np:(0:Rat)<(N:Rat):=by exact_mod_cast (by omega:0<N)
  have le:=(Ww (v1.zk (by omega) (by omega)) (v2.zk (by omega) (by omega))).1.1 d3;refine(Ww (a2.zk (by omega) (by omega)) (b2.zk (by omega) (by omega))).1.2 (Rat.le_trans a4 (Rat.le_trans ?_ b4));rw[Jh np];have:rv (Xz x y s).lo/(N:Rat)*(N:Rat)=rv (Xz x y s).lo:=by grind
  rw[this];exact le
theorem Fl{y:Dn}(y5:Vb 0 5 y):0<=y.e/\Vs y=1/\(Zr y).natAbs=y.m*2^y.e.toNat/\(y.m≠0->Zr y≠0/\decide (Zr y<0)=y.neg):=by
 have e0:0<=y.e:=by have:=y5.lo;omega
 refine⟨e0,?_,?_,?_⟩
 .unfold Vs;rw[show(max (-y.e) 0).toNat=0 by omega]
 .unfold Zr;rw[show max y.e 0=y.e by omega];generalize y.m*2^y.e.toNat=q;split<;>omega
 .intro h;unfold Zr;rw[show max y.e 0=y.e by omega];have:y.m*2^y.e.toNat≠0:=Nat.mul_ne_zero h (by have:=Nat.two_pow_pos y.e.toNat;omega);generalize y.m*2^y.e.toNat=q at *
  cases y.neg
  .rw[if_neg (by simp)];exact⟨by omega,decide_eq_false (by omega)⟩
  .rw[if_pos rfl];exact⟨by omega,decide_eq_true (by omega)⟩
def Qcd(x y:Dn)(E N:Nat)(d:Dn):Prop:=∃y' N',Rs (Qa y).neg (Qa y).m E N y' N'/\Ye (Qa x) (Zr y') N' d
theorem Iq{x y d:Dn}{E N:Nat}(x0:(Qa x).m≠0)(y5:Vb 0 5 y)(yb:Qa y=y)(hE:y.e=(E:Int))(y0:y.m≠0)(h:Qcd x y E N d):d.m≠0/\val d.m d.e^N=Wq (val (Qa x).m (Qa x).e) (decide (Zr y<0))^(Zr y).natAbs:=by
 obtain⟨y',N',hl,hp⟩:=h;rw[yb]at hl;obtain⟨w1,w2,w3,w4⟩:=Fl y5;obtain⟨w5,w6⟩:=w4 y0;have e0:=hl.e0;have m0:=hl.m0;have hq:y'.m*2^y'.e.toNat≠0:=Nat.mul_ne_zero m0 (by have:=Nat.two_pow_pos y'.e.toNat;omega);have v3:(Zr y').natAbs=y'.m*2^y'.e.toNat:=by unfold Zr;rw[show max y'.e 0=y'.e by omega];generalize y'.m*2^y'.e.toNat=q;split<;>omega
 have v4:Zr y'≠0/\decide (Zr y'<0)=y'.neg:=by
  unfold Zr;rw[show max y'.e 0=y'.e by omega];generalize y'.m*2^y'.e.toNat=q at *
  cases y'.neg
  .rw[if_neg (by simp)];exact⟨by omega,decide_eq_false (by omega)⟩
  .rw[if_pos rfl];exact⟨by omega,decide_eq_true (by omega)⟩
 obtain⟨d0,hd⟩:=La v4.1 hp;rw[v4.2,hl.ng,v3]at hd;rw[w6,w3];refine⟨d0,?_⟩;have heq:=hl.eq;rw[<-show y.e.toNat=E by omega]at heq;generalize y.m*2^y.e.toNat=A at *
 generalize y'.m*2^y'.e.toNat=A' at *
 have bp:=Hd (Kg x0 (Qa x).e) y.neg;generalize Wq (val (Qa x).m (Qa x).e) y.neg=b at *
 have vp:=Kg d0 d.e;generalize val d.m d.e=v at *
 have key:(v^N)^N'=(b^A)^N':=by rw[<-Vq,Nat.mul_comm N N',Vq,hd,<-Vq,<-Vq,heq]
 exact Rat.le_antisymm (Hq (Wk (Rat.le_of_lt bp) A) hl.N0 (Vn key)) (Hq (Wk (Rat.le_of_lt vp) N) hl.N0 (Vn key.symm))
def PPn(x y:Dn)(N:Nat)(z:Int)(B:Nat)(_:Int)(ok:Bool):Prop:=ok=true->Vm (Wq (val (Qa x).m (Qa x).e) (decide (Zr y<0))) (Zr y).natAbs N z B
theorem Qll{w:World}{u:Value}{x y:Dn}{N:Nat}{z:Int}(hu:Ag w u x y N z 1024)(ok:Kq x y N z 1024)(nu:Yo x y)(y5:Vb 0 5 y)(yo:y.m%2=1)(hs:Ze x y=1\/Ze x y=-1)(hodd:(Qa x).m%2=1) :
  Calls Tryz.prog 20 #[u,.pointer none] w (Vo (PPn x y N z) w):=by
 obtain⟨w1,w2,w3,w4⟩:=Fl y5;have y0:y.m≠0:=by omega
 obtain⟨w5,w6⟩:=w4 y0;have yb:=ok.yb;have xb:=ok.xb;have N1:=ok.hN.1;have N12:=ok.hN.2;obtain⟨E,hE⟩:∃E:Nat,y.e=(E:Int):=⟨y.e.toNat,by omega⟩
 have hE5:E<=5:=by have:=y5.hi;omega
 have hb5:=y5.bl;have yM:(Zr y).natAbs<=32:=by rw[w3];have:=y5.b;unfold mz at this;rw[show(y.e+((0:Nat):Int)).toNat=y.e.toNat by omega]at this;exact this
 have ce:∀w u,Ag w u x y N z 1024->Calls Tryz.prog 38 #[u] w (Pc (Qcd x y E N) w):=by
  intro w u h;have x64:(Qa x).m<18446744073709551616:=Nat.lt_of_lt_of_le (Zb _) (Nat.le_trans (Nat.pow_le_pow_right (by decide) (Nat.le_trans ok.bx (by decide:60<=64))) (by decide));refine Qht h ok (by omega) (MK:=fun M K=>∃y' N',M=Zr y'/\K=((N':Nat):Int)/\Rs (Qa y).neg (Qa y).m E N y' N') (fun w u h=>?_) ?_
  .refine(Qff h ok.sy y0 (by rw[yb];omega) (by rw[yb];exact yo) (by rw[yb];exact hE) (by omega) ⟨by omega,by omega⟩).mono ?_;rintro e w' ⟨y',N',h1,h2,h3⟩;exact⟨_,_,h1,⟨y',N',rfl,rfl,h2⟩,h3⟩
  .rintro M K ⟨y',N',rfl,rfl,hl⟩ w u hx;have e0:=hl.e0;have eE:=hl.eE;have mm:=hl.mm;rw[yb]at mm;have hlt:y'.m*2^y'.e.toNat<9223372036854775808:=by have h1:y'.m<=2^6:=Nat.le_trans mm (Nat.le_of_lt (Nat.lt_of_lt_of_le (Zb _) (Nat.pow_le_pow_right (by decide) hb5)));have h2:2^y'.e.toNat<=2^5:=Nat.pow_le_pow_right (by decide) (by omega);exact Nat.lt_of_le_of_lt (Nat.mul_le_mul h1 h2) (by decide)
   have h0:y'.m*2^y'.e.toNat≠0:=Nat.mul_ne_zero hl.m0 (by have:=Nat.two_pow_pos y'.e.toNat;omega);have hM:(-9223372036854775808<Zr y'/\Zr y'<9223372036854775808)/\Zr y'≠0:=by
    unfold Zr;rw[show max y'.e 0=y'.e by omega];generalize y'.m*2^y'.e.toNat=q at *
    split<;>omega
   refine(Ew hx ok.sx nu.xneg nu.x0 hodd x64 (Zr y') N' hM.1 hM.2 ⟨hl.N0,by have:=hl.NN;omega⟩).mono ?_;rintro e w' ⟨v,d,o,h1,h2,h3,h4⟩;exact⟨v,d,o,h1,h2,fun ho=>⟨y',N',hl,h3 ho⟩,h4⟩
 have ct:∀b:Nat,64<=b->b<=1024->∀w u,Ag w u x y N z 1024->Calls Tryz.prog 45 #[u,.int .i64 (Ze x y),.int .i64 (b:Int)] w (Jo (PPn x y N z) QE w):=by
  intro b h1 h2 w u h;have ht:=ok.ty;rw[yb]at ht;obtain⟨s,hsc,hs8⟩:=Qcs ok h1 h2;obtain⟨⟨s1,s2,r1,r2⟩,d1,d2,-⟩:=E8 nu hs8;obtain⟨e1,e2,e3,e4,e5,e6,e7⟩:=Qjy nu y5 hs8 N1;obtain⟨L1,L2,p,q,z1,z2,z3,z4⟩:=Qhy nu (by rw[xb,xb]) (by omega:s<=3000);have np:(0:Rat)<(N:Rat):=by exact_mod_cast N1
  have yf:=@Ot y;rw[w2]at yf;have hY:rv y/(N:Rat)*(N:Rat)=if decide (Zr y<0)then -(((Zr y).natAbs:Nat):Rat)else(((Zr y).natAbs:Nat):Rat):=by rw[<-yf];push_cast;grind
  have dm:∀a b:Rat,a<=b->a/(N:Rat)<=b/(N:Rat):=fun a b h=>by
   rw[Jh np];have:a/(N:Rat)*(N:Rat)=a:=by grind
   rw[this];exact h
  have ml:∀L:Rat,L*rv y/(N:Rat)=L*(rv y/(N:Rat)):=fun L=>by rw[Rat.div_def,Rat.div_def];grind
  have x0:=nu.x0;have zx:Zk (20000:Nat) x:=⟨by have:=ok.sx.2.1;omega,by have:=ok.sx.2.1;omega,by have:=ok.sx.2.2;omega⟩
  obtain⟨g1,g2⟩:=Db (x:=x) (y:=y) (K:=20000) zx ok.xn ok.x0;refine Qeh h ok.hz hs (fun w u h=>Qku h ok ⟨by omega,by omega⟩ nu.xneg nu.x0 b ⟨h1,h2⟩ ht s hsc (by omega) s1 s2 r1 r2 rfl d1 d2 e6 e7) e1 e2 e3 (by omega) (fun B f _ c _=>?_) (fun B f _=>nofun);rw[xb];rw[xb]at p q;exact Qal ok.hz hs8 e1 e2 (by omega) (Hd (Kg ok.x0 x.e) _) ⟨fun h=>⟨(g1 h).1,by have:=(g1 h).2;omega⟩,fun h=>⟨(g2 h).1,by have:=(g2 h).2;omega⟩⟩
   (fun v h=>Eb p q hY (Rat.le_trans e4 (by rw[<-ml];exact dm _ _ z1)) (Rat.le_trans e4 (by rw[<-ml];exact dm _ _ z2)) h)
   (fun v h=>Ce p q hY (Rat.le_trans (by rw[<-ml];exact dm _ _ z3) e5) (Rat.le_trans (by rw[<-ml];exact dm _ _ z4) e5) h) c
 refine Qee (FF:=True) (QI:=QE) (.inr ⟨rfl,rfl⟩) hu ok (fun w u h=>(ce w u h).mono fun _ _ h=>h.g) (fun d hd=>⟨_,_,Qdf hd.choose_spec.choose_spec.2 z ok.hz,fun _=>?_⟩) (fun _=>ct 64 (by decide) (by decide)) (fun _ _ _=>trivial) (fun _ _=>ct) (fun w u I hq hI=>Sn hq.1 hq.2.1 hq.2.2 z ok.hz hI);obtain⟨d0,h⟩:=Iq nu.x0 y5 yb hE y0 hd;exact⟨d.m,d.e,d.m,d.e,d0,d0,rfl,rfl,Vn h,Vn h.symm⟩
end Go.Proofs.YtobpioceopfkpaaGreatDoor
namespace Go.Proofs.YtobpioceopfkpaaGreatDoor
open Go.RowKit
open World (setCell alloc drew)
open List (set_cons_zero set_cons_succ setIfInBounds_toArray cons_append nil_append)
theorem Qca{w:World}{u:Value}{x y:Dn}{N:Nat}{z tt:Int}(hu:Ag w u x y N z tt)(ok:Kq x y N z tt)(hs:Ze x y=0):Calls Tryz.prog 38 #[u] w (Bb (fun d=>d=Qk 1) False w):=by
 have CR:=h_ (fun w u (h:Ag w u x y N z tt)=>Ke h ok);have CS:=h_ (fun w u (h:Ag w u x y N z tt)=>Tg h ok);rw[hs]at CS;have CO:=h_ (fun w (t:Qq w)=>Ko t 1 (by decide));have HU:=h_ hu;obtain⟨a1,k1,c1,a2,k2,c2,he,hx,hy⟩:=hu;have HT:=h_ hx.tab;replace he:u=.agg #[.bool x.neg,.slice a1 k1 c1,.int .i64 x.e,.bool y.neg,.slice a2 k2 c2,.int .i64 y.e,.int .u64 (N:Int),.bool false,.int .i64 z,.int .i64 64,.int .i64 tt]:=he;subst he;obtain⟨xn,xm,xe⟩:=x;obtain⟨yn,ym,ye⟩:=y;have HD:Qb (Qk 1=Qk 1):=rfl;generalize hO:Qk 1=O at *
 have HO:=h_ hO;obtain⟨on,om,oe⟩:=O;clear hx hy ok hs hO;go_enter Tryz.func38,Tryz.ntmps38;have F0:=h_ (Fz.two w 58 #[.bool xn,.slice a1 k1 c1,.int .i64 xe,.bool yn,.slice a2 k2 c2,.int .i64 ye,.int .u64 (N:Int),.bool false,.int .i64 z,.int .i64 64,.int .i64 tt] 42 #[.bool false,.slice none 0 0,.int .i64 0]);have X0:=h_ (((HU.o).alloc (.cells #[.bool xn,.slice a1 k1 c1,.int .i64 xe,.bool yn,.slice a2 k2 c2,.int .i64 ye,.int .u64 (N:Int),.bool false,.int .i64 z,.int .i64 64,.int .i64 tt] 58)).alloc (.cells #[.bool false,.slice none 0 0,.int .i64 0] 42));have T0:=h_ (((HT.o).alloc (.cells #[.bool xn,.slice a1 k1 c1,.int .i64 xe,.bool yn,.slice a2 k2 c2,.int .i64 ye,.int .u64 (N:Int),.bool false,.int .i64 z,.int .i64 64,.int .i64 tt] 58)).alloc (.cells #[.bool false,.slice none 0 0,.int .i64 0] 42));go_upto_region 1 with(fail)
 generalize alloc (alloc _ _) _=w0 at F0 X0 T0 |-;have c0_0:=F0.o.c11 0 rfl;have c1_0:=F0.o.c3 1 rfl;go_wp2_with fail;refine(CR.o _ _ X0.o).mono ?_;rintro q w1 ⟨rfl,hb⟩;have F1:=h_ (F0.o.call hb);have X1:=h_ (X0.o.below hb);have T1:=h_ (T0.o.below hb);have c0_1:=F1.o.c11 0 rfl;have c1_1:=F1.o.c3 1 rfl;go_wp2_with fail;refine(CS.o _ _ X1.o).mono ?_;rintro q w2 ⟨rfl,hb⟩;have F2:=h_ (F1.o.call hb);have X2:=h_ (X1.o.below hb);have T2:=h_ (T1.o.below hb);have c0_2:=F2.o.c11 0 rfl;have c1_2:=F2.o.c3 1 rfl;go_wp2_with fail;refine(CO.o _ T2.o).mono ?_;rintro q w3 ⟨u,rfl,hu,hb⟩;have F3:=h_ (F2.o.call hb);have T3:=h_ (T2.o.below hb);have R3:=h_ (hu);have c0_3:=F3.o.c11 0 rfl;have c1_3:=F3.o.c3 1 rfl;obtain⟨a5,k5,c5,rfl⟩:=R3.o.fm;clear hu;go_wp2;have f:=F3.o.s3 1 rfl (.bool on) (.slice a5 k5 c5) (.int .i64 oe);have p:=((F3.o.one_fx 1 rfl rfl).s3 0 rfl (.bool on) (.slice a5 k5 c5) (.int .i64 oe) rfl rfl rfl).2;generalize setCell _ _ _=W at f p |-;have g1:=f.c3 1 rfl;refine bodyPost_ret (v:=.tuple #[.agg #[.bool on,.slice a5 k5 c5,.int .i64 oe],.bool true]) (by simp[results,Tryz.results38,go_sem,g1]) rfl ?_;exact⟨_,⟨on,om,oe⟩,true,rfl,R3.o.kp p,fun _=>rfl,nofun,f.b⟩
theorem Qij(z:Int)(hz:0<=z/\z<=3):∀w u,Cy w u (Qk 1)->Calls Tryz.prog 40 #[u,.bool false,.int .i64 z] w fun e w'=>e=.returned (.tuple #[.int .u64 (4607182418800017408:Nat),.int .u8 0,.int .i64 0])/\Below w.heap.size w w':=by
 intro w u hu;have e:Jg (Qk 1):=by rw[Pa];exact⟨rfl,⟨by decide,by decide,by decide⟩,by kernel_rfl,fun _=>rfl⟩
 have h:=e.to (by rw[Pa];decide) false z hz hu;rw[Pa]at h;have h1:Xk 1 0 false z=4607182418800017408:=(Lr hz).symm;have h2:Wh 1 0 false z=0:=by rcases(by omega:z=0\/z=1\/z=2\/z=3)with rfl|rfl|rfl|rfl<;>decide
 rw[show Xk (Dn.mk false 1 0).m (Dn.mk false 1 0).e false z=4607182418800017408 from h1,show Wh (Dn.mk false 1 0).m (Dn.mk false 1 0).e false z=0 from h2]at h;exact h
theorem Qlm{w:World}{u:Value}{x y:Dn}{N:Nat}{z:Int}(hu:Ag w u x y N z 1024)(ok:Kq x y N z 1024)(hs:Ze x y=0):Calls Tryz.prog 20 #[u,.pointer none] w (Vo (fun B _ ok=>ok=true->B=4607182418800017408) w):=by exact Qee (FF:=True) (G:=False) (R:=fun d=>d=Qk 1) (QI:=QE) (.inr ⟨rfl,rfl⟩) hu ok (fun w u h=>Qca h ok hs) (fun d hd=>⟨4607182418800017408,0,fun w u h=>Qij z ok.hz w u (hd▸h),fun _=>rfl⟩) (fun h=>h.elim) (fun _ _ _=>trivial) (fun h=>h.elim) (fun w u I hq hI=>Sn hq.1 hq.2.1 hq.2.2 z ok.hz hI)
end Go.Proofs.YtobpioceopfkpaaGreatDoor
set_option exponentiation.threshold 9000
namespace Go.Proofs.YtobpioceopfkpaaGreatDoor
open Go.RowKit
open World (setCell alloc drew)
open List (set_cons_zero set_cons_succ setIfInBounds_toArray cons_append nil_append)
theorem Qh5{w:World}{s:Value}{m:Nat}(h:Dg w s m)(h0:m≠0)(hm:m<18446744073709551616):Sl w s [.int .u64 (m:Int)]:=by
 obtain⟨L,hr,hc⟩:=h;have hL:L=[m]:=by
  have hv:=hc.val;have ht:=hc.top
  match L,hv,ht with
  | [],hv,_=>exact absurd hv.symm h0
  | [a],hv,_=>simp[Qc]at hv;rw[hv]
  | a :: b :: L,_,ht =>
   exfalso;have h1:=ht (by simp);have h2:18446744073709551616^1<=18446744073709551616^((a :: b :: L).length-1):=Nat.pow_le_pow_right (by decide) (by simp);omega
 subst hL;exact hr.sl
theorem Qdp(n:Nat):((2^n:Nat):Int)=(2:Int)^n:=by rw[Int.natCast_pow];rfl
theorem Dd{d:Dn}(h:d.neg=false):rv d=val d.m d.e:=by unfold rv;rw[h];simp
theorem Vx{x:Nat}(hx:x<9218868437227405312)(h0:0<x):-1074<=(Qf x).e/\(Qf x).e<=1100/\(Qf x).m*2^((Qf x).e+1074).toNat=Rf.Zd x/\(Qf x).neg=false/\(Qf x).m≠0/\bl (Qf x).m<=53:=by
 obtain⟨h1,h2,h3⟩:=Ud hx;have h4:¬(Qp x=0/\Xs x=0):=by unfold Qp Xs;omega
 obtain⟨p1,p2,p3,p4,p5,p6,p7,p8⟩:=Xo h2 h4;obtain⟨-,t1,t2⟩:=Pw h2 h4;refine⟨p4,by omega,?_,by rw[p1,h3],p2,p3⟩;have e1:=Sk (K:=1074) (d:=Qf x) (by omega);have e2:=Ra hx;rw[Dd (by rw[p1,h3])]at e2;rw[e2,Rat.mul_assoc]at e1;have e3:Sh*(2:Rat)^1074=1:=by unfold Sh;rw[show(2:Rat)^1074=(2:Rat)^((1074:Nat):Int)from(Wj 1074).symm,<-Va];exact Gw
 rw[e3,Rat.mul_one]at e1;exact Rat.natCast_inj.1 e1
theorem Qj7{x:Nat}(hx:x<9218868437227405312)(h0:0<x){w:World}{s:Value}{n:Bool}{m:Nat}{e:Int}(hd:Qf x=⟨n,m,e⟩)(h:Cy w (.agg #[.bool n,s,.int .i64 e]) ⟨n,m,e⟩) :
  Calls Tryz.prog 23 #[.agg #[.bool n,s,.int .i64 e]] w fun q w'=>∃v,q=.returned v/\Rf.NZ w' v ((Rf.Zd x:Int)*2^4926) (-1074)/\Below w.heap.size w w':=by
 obtain⟨e1,e2,e3,e4,e5,e6⟩:=Vx hx h0;rw[hd]at e1 e2 e3 e4 e5 e6;have e1:-1074<=e:=e1;have e2:e<=1100:=e2;have e3:m*2^(e+1074).toNat=Rf.Zd x:=e3;have e4:n=false:=e4;have e5:m≠0:=e5;have e6:bl m<=53:=e6;obtain⟨s',hs,hg,-⟩:=h;injection hs with hs;obtain rfl:s=s':=by simpa using hs
 have m64:m<18446744073709551616:=Nat.lt_of_lt_of_le (Zb _) (Nat.le_trans (Nat.pow_le_pow_right (by decide) (show bl m<=64 by omega)) (by decide));refine(Rf.Zu (Qh5 hg e5 m64) m64 (by omega)).mono ?_;rintro q w' ⟨v,ng,m',e',rfl,hn,hb,-,hh⟩;obtain⟨rfl,-,low,hl,rfl,hm⟩:=hh e5;have hm:m'*2^low=m:=hm;refine⟨v,rfl,⟨_,_,_,hn,by omega,by omega,?_⟩,hb⟩;rw[e4];unfold Rf.nv Rf.sg;rw[if_neg (by simp),<-e3,<-hm];have e7:m'*2^(e+(low:Int)+6000).toNat=m'*2^low*2^(e+1074).toNat*2^4926:=by rw[Nat.mul_assoc,Nat.mul_assoc,<-Nat.pow_add,<-Nat.pow_add];congr 2;omega
 rw[e7,Int.natCast_mul,Qdp]
theorem Ch{b:Nat}(hb:b<18446744073709551616)(hf:¬Qp b<2047)(w:World):Calls Tryz.prog 15 #[.int .u64 (b:Int)] w fun e w'=>e=.returned (.tuple #[.agg #[.bool false,.slice none 0 0,.int .i64 0],.bool false])/\Below w.heap.size w w':=by
 have C1:=h_ (fun w=>Cf hb w);rw[decide_eq_false hf]at C1;clear hf hb;have F0:=h_ (Fx.one w 42 #[.bool false,.slice none 0 0,.int .i64 0] rfl);go_enter Tryz.func15,Tryz.ntmps15;go_upto_region 1 with(fail)
 generalize alloc _ _=w0 at F0 |-;have c0:=F0.o.c3 0 rfl;go_wp2_with fail;refine(C1.o _).mono ?_;rintro q w1 ⟨rfl,rfl⟩;go_wp2;have f:=F0.o.s3 0 rfl (.bool false) (.slice none 0 0) (.int .i64 0) rfl rfl rfl;obtain⟨f,-⟩:=f;generalize (setCell (setCell (setCell _ _ _) _ _) _ _)=W at f |-;have g1:=f.c3 0 rfl;refine bodyPost_ret (v:=.tuple #[.agg #[.bool false,.slice none 0 0,.int .i64 0],.bool false]) (by simp[results,Tryz.results15,go_sem,g1]) rfl ?_;exact⟨rfl,f.b⟩
def Qkm(b:Nat)(w:World)(e:Ending)(w':World):Prop:=∃n a k c ee,e=.returned (.tuple #[.agg #[.bool n,.slice a k c,.int .i64 ee],.bool (decide (Qp b<2047))])/\(Qp b<2047->Cy w' (.agg #[.bool n,.slice a k c,.int .i64 ee]) (Qf b))/\Below w.heap.size w w'
theorem Nw{b:Nat}(hb:b<18446744073709551616){w:World}(t:Qq w):Calls Tryz.prog 15 #[.int .u64 (b:Int)] w (Qkm b w):=by
 by_cases hf:Qp b<2047
 .refine(Ur hb hf t).mono ?_;rintro e w' ⟨u,rfl,hu,hb⟩;obtain⟨a,k,c,rfl⟩:=hu.form;exact⟨_,a,k,c,_,by rw[decide_eq_true hf],fun _=>hu,hb⟩
 .refine(Ch hb hf w).mono ?_;rintro e w' ⟨rfl,hb⟩;exact⟨false,none,0,0,0,by rw[decide_eq_false hf],fun h=>absurd h hf,hb⟩
end Go.Proofs.YtobpioceopfkpaaGreatDoor
set_option exponentiation.threshold 256
namespace Go.Proofs.YtobpioceopfkpaaGreatDoor
open Go.RowKit
open World (setCell alloc drew)
open List (set_cons_zero set_cons_succ setIfInBounds_toArray cons_append nil_append)
open Rl
theorem Vo.mono{PP QQ:Nat->Int->Bool->Prop}{w w':World}{e:Ending}(h:Vo PP w e w')(hq:∀B f ok,PP B f ok->QQ B f ok):Vo QQ w e w':=by
 obtain⟨B,f,st,n,h1,h2,h3⟩:=h;refine⟨B,f,st,n,h1,?_,h3⟩;rcases h2 with⟨a,B',b,c⟩|⟨a,b,c⟩
 .exact .inl ⟨a,B',b,hq _ _ _ c⟩
 .exact .inr ⟨a,b,hq _ _ _ c⟩
theorem Ms{m:Int}(hm:m.natAbs<=29)(h0:m≠0):∃j l:Nat,Qk m=⟨decide (m<0),2*j+1,(l:Int)⟩/\m.natAbs=(2*j+1)*2^l/\bl (2*j+1)+l<=5:=by
 obtain⟨l,j,hw,hd,hl⟩:=Ji (n:=decide (m<0)) (m:=m.natAbs) (e:=0) (by omega) (by decide);refine⟨j,l,?_,hw,?_⟩
 .show Qa ⟨decide (m<0),m.natAbs,0⟩=_;rw[hd,Int.zero_add]
 .rw[<-hl];exact Zp (k:=5) (Nat.lt_of_le_of_lt hm (by decide))
theorem Qf2{m:Int}(hm:m.natAbs<=29):Zr (Qk m)=m:=by
 by_cases h0:m=0
 .subst h0;decide
 obtain⟨j,l,hd,hw,-⟩:=Ms hm h0;rw[hd];unfold Zr;simp only;rw[show max (l:Int) 0=l by omega,Int.toNat_natCast,<-hw];by_cases h:m<0
 .rw[if_pos (by simpa using h)];omega
 .rw[if_neg (by simpa using h)];omega
theorem Qem:Qk 0=⟨false,0,0⟩:=Zg rfl
theorem Qi9{x N:Nat}{m z:Int}(hx:x<9218868437227405312)(h0:0<x)(hm:m.natAbs<=29)(hN:1<=N/\N<=12)(hz:0<=z/\z<=3):Kq (Qf x) (Qk m) N z 1024:=by
 obtain⟨h1,h2,h3⟩:=Ud hx;have h4:¬(Qp x=0/\Xs x=0):=by unfold Qp Xs;omega
 obtain⟨x1,x2,x3,x4,x5,x6,x7,x8⟩:=Xo h2 h4;obtain⟨xs,xt1,xt2⟩:=Pw h2 h4;have hy:Sd (Qk m)/\Qa (Qk m)=Qk m/\bl (Qk m).m<=60/\-1100<=Qg (Qk m)/\Qg (Qk m)<=1100:=by
  by_cases m0:m=0
  .subst m0;rw[Qem];exact⟨⟨by decide,by decide,by decide⟩,Zg rfl,by decide,by decide,by decide⟩
  .obtain⟨j,l,hd,-,hl⟩:=Ms hm m0;have hb:=Wz (n:=decide (m<0)) (j:=j) (e:=(l:Int)) (by omega);rw[hd];refine⟨⟨by show bl (2*j+1)<=4000;omega,by show -4000<=(l:Int);omega,by show(l:Int)<=4000;omega⟩,hb,by show bl (2*j+1)<=60;omega,?_⟩;unfold Qg;rw[hb,if_neg (by simp)];simp only;omega
 obtain⟨y1,y2,y3,y4,y5⟩:=hy;exact⟨xs,y1,by rw[x1,h3],x2,by rw[x6];omega,⟨by rw[x6];omega,by rw[x6];omega⟩,by rw[y2];exact y3,⟨by rw[y2];exact y4,by rw[y2];exact y5⟩,hz,.inr (.inr rfl),hN,x6,y2⟩
def Qlj(x N:Nat)(m z:Int)(B:Nat)(_:Int)(ok:Bool):Prop:=ok=true->Vm (Wq (rv (Qf x)) (decide (m<0))) m.natAbs N z B
theorem Qjr{x N:Nat}{m z:Int}(hx:x<9218868437227405312)(h0:0<x)(hm:m.natAbs<=29)(hN:1<=N/\N<=12)(hz:0<=z/\z<=3){w:World}{u:Value}(hu:Ag w u (Qf x) (Qk m) N z 1024) :
  Calls Tryz.prog 20 #[u,.pointer none] w (Vo (Qlj x N m z) w):=by
 have ok:=Qi9 hx h0 hm hN hz;obtain⟨h1,h2,h3⟩:=Ud hx;have h4:¬(Qp x=0/\Xs x=0):=by unfold Qp Xs;omega
 obtain⟨x1,x2,x3,x4,x5,x6,x7,x8⟩:=Xo h2 h4;obtain⟨xs,xt1,xt2⟩:=Pw h2 h4;have hr:rv (Qf x)=val (Qf x).m (Qf x).e:=Dd (by rw[x1,h3]);by_cases hs:Ze (Qf x) (Qk m)=0
 .refine(Qlm hu ok hs).mono fun e w' h=>h.mono fun B f k hB hk=>?_;rw[hB hk];refine Qcn hz ?_;by_cases m0:m=0
  .subst m0;exact Rat.pow_zero _
  .have hy:Qe (Qk m)≠0:=by obtain⟨j,l,hd,-,-⟩:=Ms hm m0;rw[hd];unfold Qe;rw[if_neg (by simp)];split<;>decide
   have hc:Qh (Qf x) (Qk 1)=0:=by
    unfold Ze at hs;rcases Int.mul_eq_zero.1 hs with h|h
    .exact absurd h hy
    .exact h
   have c:=Ww (K:=4000) (a:=Qf x) (b:=Qk 1) ⟨by have:=xs.2.1;omega,by have:=xs.2.1;omega,by have:=xs.2.2;omega⟩ (by rw[Pa];exact⟨by decide,by decide,by decide⟩);have one:rv (Qk 1)=1:=by rw[Pa];unfold rv;simp only;rw[Vf,Gw];simp
   rw[one]at c;have e:rv (Qf x)=1:=Rat.le_antisymm (c.1.1 (by omega)) (c.2.1 (by omega));rw[e];have e2:∀n,Wq 1 n=1:=fun n=>by unfold Wq;split<;>grind
   rw[e2,one_pow]
 .have m0:m≠0:=by rintro rfl;apply hs;unfold Ze;rw[Qem];unfold Qe;rw[if_pos rfl,Int.zero_mul]
  obtain⟨j,l,hd,hw,hl⟩:=Ms hm m0;have b1:=Yu (Qk m);have b2:=Ez (Qf x) (Qk 1);have hs2:Ze (Qf x) (Qk m)=1\/Ze (Qf x) (Qk m)=-1:=by
   unfold Ze at hs ⊢;generalize Qe (Qk m)=a at *
   generalize Qh (Qf x) (Qk 1)=b at *
   rcases(by omega:a=-1\/a=0\/a=1)with rfl|rfl|rfl<;>rcases(by omega:b=-1\/b=0\/b=1)with rfl|rfl|rfl<;>simp at hs |-
  have y5:Vb 0 5 (Qk m):=by rw[hd];exact Fm (by show(0:Int)<=(l:Int);omega) (by simp) (by show(bl (2*j+1):Int)+(l:Int)+0<=(5:Nat);omega)
  have yv:Vb 1130 3000 (Qk m):=by rw[hd];exact Fm (by show(-(1130:Nat):Int)<=(l:Int);omega) (by simp) (by show(bl (2*j+1):Int)+(l:Int)+(1130:Nat)<=(3000:Nat);omega)
  have yb:bl (Qk m).m<=60:=by rw[hd];show bl (2*j+1)<=60;omega
  have hodd:(Qa (Qf x)).m%2=1:=by obtain⟨k,i,-,hd,-⟩:=Ji (n:=J7 x) (Lv h4) ⟨(by have:=Us h2;omega:-100000<=Jt x),by have:=Us h2;omega⟩;rw[x6,show Qf x=_ from hd];show(2*i+1)%2=1;omega
  have nu:Yo (Qf x) (Qk m):=⟨by rw[x6,x1,h3],by rw[x6];exact x2,Nat.le_trans (by rw[x6];exact Dw ⟨xt1,xt2⟩) (by decide),yv,yb⟩
  refine(Qll hu ok nu y5 (by rw[hd];show(2*j+1)%2=1;omega) hs2 hodd).mono fun e w' h=>h.mono fun B f k hB hk=>?_;have:=hB hk;rw[Qf2 hm,x6,<-hr]at this;exact this
theorem Qhx{a b:Int}(h:a<=b):(2:Rat)^a<=(2:Rat)^b:=by
 obtain⟨n,hn⟩:∃n:Nat,b=a+n:=⟨(b-a).toNat,by omega⟩
 rw[hn,Va,Wj];have h1:=Mo (a:=2) (by decide) n;have h2:=Rat.mul_le_mul_of_nonneg_left h1 (Rat.le_of_lt (Yg a));grind
theorem Yw{d:Dn}(h:d.neg=false):rv d=val d.m d.e:=by unfold rv;rw[h];simp
theorem Qfl{m:Nat}(h0:m≠0)(e:Int):(2:Rat)^((bl m:Int)-1+e)<=val m e/\val m e<(2:Rat)^((bl m:Int)-1+e+1):=by
 have hp:=Zi h0;have h1:2^(bl m-1)<=m:=by rw[hp];exact Nat.log2_self_le h0
 have h2:=Zb m;have t:=Yg e;rw[Va,show(bl m:Int)-1+e+1=((bl m:Nat):Int)+e by omega,Va,show(bl m:Int)-1=((bl m-1:Nat):Int)by omega,<-Yy,<-Yy];constructor
 .exact Rat.mul_le_mul_of_nonneg_right (by exact_mod_cast h1) (Rat.le_of_lt t)
 .exact Rat.mul_lt_mul_of_pos_right (by exact_mod_cast h2) t
theorem Qac{d:Dn}(h0:d.m≠0)(hn:d.neg=false)(he:-2147483648<=d.e/\d.e<=2147483648):(2:Rat)^Qg d<=rv d/\rv d<(2:Rat)^(Qg d+1):=by
 have hb:(Qa d).neg=false:=by rw[Zy h0];exact hn
 have hm:(Qa d).m≠0:=fun h=>h0 (Jq.1 h);rw[<-Yx he,Yw hb];have:=Qfl hm (Qa d).e;unfold Qg;rw[if_neg h0];exact this
theorem Dk{x:Dn}{k:Nat}(he:-1200<=x.e/\x.e<=1200)(hk:k<=30):rv (J1 x k)=val x.m x.e^k:=by
 have hn:(x.e*(k:Int)).natAbs<=36000:=by rw[Int.natAbs_mul,Int.natAbs_natCast];exact Nat.le_trans (Nat.mul_le_mul (show x.e.natAbs<=1200 by omega) hk) (by decide)
 have h:rv (J1 x k)=rv ⟨false,x.m^k,x.e*(k:Int)⟩:=Yx ⟨by show _<=x.e*(k:Int);omega,by show x.e*(k:Int)<=_;omega⟩;rw[h,Yw rfl,Sy]
theorem Fc{d:Dn}(h:-200000<=d.e/\d.e<=200000):Zk (200000:Nat) d:=⟨by omega,by omega,by omega⟩
theorem Cv{P Q:Dn}(hP:P.m≠0)(hQ:Q.m≠0)(nP:P.neg=false)(nQ:Q.neg=false)(eP:-50000<=P.e/\P.e<=50000)(eQ:-50000<=Q.e/\Q.e<=50000) :
  (rv P*rv Q<=1->0<=Ve P Q)/\(1<=rv P*rv Q->Ve P Q<=0):=by
 obtain⟨p1,p2⟩:=Qac hP nP (by omega);obtain⟨q1,q2⟩:=Qac hQ nQ (by omega);have hr:rv ⟨false,P.m*Q.m,P.e+Q.e⟩=rv P*rv Q:=by rw[Yw nP,Yw nQ,Yw rfl];unfold val;rw[Va];push_cast;grind
 have one:rv (Qk 1)=1:=by rw[Pa];unfold rv;simp only;rw[Vf,Gw];simp
 have c:=Ww (Fc (d:=Qk 1) (by rw[Pa];decide)) (Fc (d:=⟨false,P.m*Q.m,P.e+Q.e⟩) ⟨by show _<=P.e+Q.e;omega,by show P.e+Q.e<=_;omega⟩);rw[one,hr]at c;have t1:=Yg (Qg P);have t2:=Yg (Qg Q);have lo:(2:Rat)^(Qg P+Qg Q)<=rv P*rv Q:=by rw[Va];have a:=Rat.mul_le_mul_of_nonneg_right p1 (Rat.le_of_lt t2);have b:=Rat.mul_le_mul_of_nonneg_left q1 (by grind:0<=rv P);grind
 have hi:rv P*rv Q<(2:Rat)^(Qg P+Qg Q+2):=by rw[show Qg P+Qg Q+2=(Qg P+1)+(Qg Q+1)by omega,Va];have a:=Rat.mul_lt_mul_of_pos_right p2 (by grind:0<rv Q);have b:=Rat.mul_lt_mul_of_pos_left q2 (Yg (Qg P+1));grind
 have e1:(2:Rat)^(1:Int)=2:=by rw[show(1:Int)=((1:Nat):Int)by rfl,Wj];decide
 unfold Ve;by_cases h1:0<Qg P+Qg Q
 .rw[if_pos h1];have:=Qhx (by omega:(1:Int)<=Qg P+Qg Q);rw[e1]at this;exact⟨fun h=>by exfalso;grind,fun _=>by decide⟩
 rw[if_neg h1];by_cases h2:Qg P+Qg Q < -1
 .rw[if_pos h2];have:=Qhx (by omega:Qg P+Qg Q+2<=(0:Int));rw[Gw]at this;exact⟨fun _=>by decide,fun h=>by exfalso;grind⟩
 rw[if_neg h2];exact⟨fun h=>c.2.2 h,fun h=>c.1.2 h⟩
def Is(x b:Dn)(m:Int)(k:Nat):Int:=if 0<=m then Qh (J1 x m.natAbs) (J1 b k)else Ve (J1 x m.natAbs) (J1 b k)
theorem Hw{x b:Dn}{m:Int}{k:Nat}(xn:x.neg=false)(bn:b.neg=false)(x0:x.m≠0)(b0:b.m≠0)(hx:bl x.m<=60)(hb:bl b.m<=60)(ex:-1200<=x.e/\x.e<=1200)(eb:-1200<=b.e/\b.e<=1200)(hm:m.natAbs<=30)(hk:k<=30) :
  (rv b^k<=Wq (rv x) (decide (m<0))^m.natAbs->0<=Is x b m k)/\(Wq (rv x) (decide (m<0))^m.natAbs<=rv b^k->Is x b m k<=0):=by
 obtain⟨⟨-,P0,P1,P2,P3⟩,-⟩:=Rb x0 hx ex hm;obtain⟨⟨-,Q0,Q1,Q2,Q3⟩,-⟩:=Rb b0 hb eb hk;have vp:=Dk ex hm;have vq:=Dk eb hk;rw[Yw xn,Yw bn];have c:=Ww (Fc (d:=J1 x m.natAbs) (by omega)) (Fc (d:=J1 b k) (by omega));have g:=Cv P0 Q0 P3 Q3 (by omega) (by omega);rw[vp,vq]at c g;have xp:=Kg x0 x.e;unfold Is Wq;by_cases h:m<0
 .rw[decide_eq_true h,if_pos rfl,if_neg (by omega),Lz (by grind)];have pp:0<val x.m x.e^m.natAbs:=Rat.pow_pos xp;generalize val x.m x.e^m.natAbs=A at *
  generalize val b.m b.e^k=C at *
  have e:A*(1/A)=1:=by grind
  refine⟨fun h=>g.1 ?_,fun h=>g.2 ?_⟩
  .have:=Rat.mul_le_mul_of_nonneg_left h (Rat.le_of_lt pp);rwa[e]at this
  .have:=Rat.mul_le_mul_of_nonneg_left h (Rat.le_of_lt pp);rwa[e]at this
 .rw[decide_eq_false h,if_neg (by simp),if_pos (by omega)];exact⟨fun h=>c.2.2 h,fun h=>c.1.2 h⟩
end Go.Proofs.YtobpioceopfkpaaGreatDoor
namespace Go.Proofs.YtobpioceopfkpaaGreatDoor
open Go.RowKit
open World (setCell alloc drew)
open List (set_cons_zero set_cons_succ setIfInBounds_toArray cons_append nil_append)
def Oi(d:Dn)(m:Int)(T:Nat)(ok:Int->Prop)(B:Nat):Prop:=∃c:Int,ok c/\∀w u v,Cy w u d->Cy w v (Qf B) ->
  Calls Tryz.prog 21 #[u,.int .i64 m,v,.int .i64 (T:Int)] w fun e w'=>e=.returned (.tuple #[.int .i64 c,.int .i64 0])/\Below w.heap.size w w'
def Bi(d:Dn)(m:Int)(T:Nat)(ok:Int->Prop)(B:Nat):Prop:=B<18446744073709551616/\(Qp B<2047->Qe (Qf B)=0\/Qe (Qf B)=1/\Oi d m T ok B)
theorem Aa{w:World}(t:Qq w){x k:Nat}{n:Int}(hx:x<18446744073709551616)(hal:∀w,Qq w->Calls Tryz.prog 8 #[] w fun e w'=>e=.returned (.bool true)/\Below w.heap.size w w')(hf:¬Qp x<2047) :
  Calls Tryz.prog 7 #[.int .u64 (x:Int),.int .i8 n,.int .u8 (k:Int)] w fun e w'=>e=.returned (.bool true)/\Below w.heap.size w w':=by
 have CA:=h_ hal;have CD:=h_ (fun w=>Ch hx hf w);have HT:=h_ t;clear t hal hx hf;go_enter Tryz.func7,Tryz.ntmps7;go_wp2_with fail;refine(CA.o _ HT.o).mono ?_;rintro q w1 ⟨rfl,hb⟩;have F1:=h_ ((Fz.nil w).call hb);have T1:=h_ (HT.o.below hb);go_wp2_with fail;refine(CD.o _).mono ?_;rintro q w2 ⟨rfl,hb⟩;have F2:=h_ (F1.o.call hb);have T2:=h_ (T1.o.below hb);go_upto_region 4 with(fail)
 have F3:=h_ (F2.o.new 42 #[.bool false,.slice none 0 0,.int .i64 0]);have T3:=h_ (T2.o.alloc (.cells #[.bool false,.slice none 0 0,.int .i64 0] 42));obtain⟨g1,hg1⟩:∃g,g=(World.heap w2).size:=⟨_,rfl⟩
 rw[<-hg1]at F3 |-;clear hg1;simp only[nil_append]at F3;generalize alloc w2 _=W3 at F3 T3 |-;have c0_3:=F3.o.c3 0 rfl;go_wp2;go_ret;exact⟨rfl,F3.o.b⟩
theorem Sx{w:World}(t:Qq w){x k:Nat}{n:Int}(hx:x<18446744073709551616)(hal:∀w,Qq w->Calls Tryz.prog 8 #[] w fun e w'=>e=.returned (.bool true)/\Below w.heap.size w w')(hf:Qp x<2047)(h:Qe (Qf x)<=0\/Qe (Qf x)=1/\n=0) :
  Calls Tryz.prog 7 #[.int .u64 (x:Int),.int .i8 n,.int .u8 (k:Int)] w fun e w'=>e=.returned (.bool true)/\Below w.heap.size w w':=by
 have CA:=h_ hal;have CD:=h_ (fun w (t:Qq w)=>Ur hx hf t);have CS:=h_ (fun w u (h:Cy w u (Qf x))=>Jn h.ry);have HT:=h_ t;generalize Qe (Qf x)=sg at *
 generalize Qf x=dx at *
 obtain⟨xn,xm,xe⟩:=dx;have HH:=h_ h;clear t hal hx hf h;go_enter Tryz.func7,Tryz.ntmps7;go_wp2_with fail;refine(CA.o _ HT.o).mono ?_;rintro q w1 ⟨rfl,hb⟩;have F1:=h_ ((Fz.nil w).call hb);have T1:=h_ (HT.o.below hb);go_wp2_with fail;refine(CD.o _ T1.o).mono ?_;rintro q w2 ⟨u,rfl,hu,hb⟩;have F2:=h_ (F1.o.call hb);have T2:=h_ (T1.o.below hb);have X2:=h_ (hu);obtain⟨a1,k1,c1,rfl⟩:=X2.o.fm;clear hu;go_upto_region 4 with(fail)
 have F3:=h_ (F2.o.new 42 #[.bool xn,.slice a1 k1 c1,.int .i64 xe]);have T3:=h_ (T2.o.alloc (.cells #[.bool xn,.slice a1 k1 c1,.int .i64 xe] 42));have X3:=h_ (X2.o.alloc (.cells #[.bool xn,.slice a1 k1 c1,.int .i64 xe] 42));obtain⟨g1,hg1⟩:∃g,g=(World.heap w2).size:=⟨_,rfl⟩
 rw[<-hg1]at F3 |-;clear hg1;simp only[nil_append]at F3;generalize alloc w2 _=W3 at F3 T3 X3 |-;have c0_3:=F3.o.c3 0 rfl;go_wp2_with fail;refine(CS.o _ _ X3.o).mono ?_;rintro q w4 ⟨rfl,hb⟩;have F4:=h_ (F3.o.call hb);have T4:=h_ (T3.o.below hb);have X4:=h_ (X3.o.below hb);have c0_4:=F4.o.c3 0 rfl;rcases HH.o with h|⟨rfl,rfl⟩
 .have t1:decide (sg<=0)=true:=decide_eq_true h;clear h HH;go_wp2;go_ret;exact⟨rfl,F4.o.b⟩
 .go_wp2;go_ret;exact⟨rfl,F4.o.b⟩
theorem Fz.s11_8{w0 w:World}{bs:List (Nat×TypeId×Array Value)}(h:Fz w0 w bs)(i:Nat){g:Nat}{t:TypeId}{x0 x1 x2 x3 x4 x5 x6 x7 x8 x9 x10:Value}(hi:bs[i]?=some (g,t,#[x0,x1,x2,x3,x4,x5,x6,x7,x8,x9,x10]))(y:Value) :
  Fz w0 (w.setCell ⟨g,8,none⟩ y) (bs.set i (g,t,#[x0,x1,x2,x3,x4,x5,x6,x7,y,x9,x10])):=h.set i 8 hi y
def Qln(w wx:World)(s:Value)(g1:Nat)(xn:Bool)(xm:Nat)(xe:Int)(yn:Bool)(ym:Nat)(ye:Int)(a1:Option Addr)(k1 c1 T:Nat):Prop :=
 ∃g a2 k2 c2,s=.pointer (some ⟨g,0,none⟩)/\Fz w wx [(g1,42,#[.bool xn,.slice a1 k1 c1,.int .i64 xe]),(g,58,#[.bool xn,.slice a1 k1 c1,.int .i64 xe,.bool yn,.slice a2 k2 c2,.int .i64 ye,.int .u64 (T:Int),.bool false,.int .i64 3,.int .i64 64,.int .i64 1024])] /\
  Qq wx/\Cy wx (.agg #[.bool xn,.slice a1 k1 c1,.int .i64 xe]) ⟨xn,xm,xe⟩/\Cy wx (.agg #[.bool yn,.slice a2 k2 c2,.int .i64 ye]) ⟨yn,ym,ye⟩
theorem Oo{w:World}(t:Qq w){x k:Nat}{n:Int}(hx:x<18446744073709551616)(hn:-128<=n/\n<=127)(hk:k<256)(hal:∀w,Qq w->Calls Tryz.prog 8 #[] w fun e w'=>e=.returned (.bool true)/\Below w.heap.size w w')(hf:Qp x<2047)(hs:Qe (Qf x)=1)(hn0:n≠0){m:Int}(hm:n.tmod 30=m){T:Nat}(hT:T=1+k%12){P3 P2:Nat->Int->Bool->Prop}
  (c3:∀w u,Ag w u (Qf x) (Qk m) T 3 1024->Calls Tryz.prog 20 #[u,.pointer none] w (Vo P3 w)) (c2:∀w u,Ag w u (Qf x) (Qk m) T 2 1024->Calls Tryz.prog 20 #[u,.pointer none] w (Vo P2 w))
  (l3:∀B f,P3 B f true->Bi (Qf x) m T (fun c=>0<=c) B) (l2:∀B f,P2 B f true->Bi (Qf x) m T (fun c=>c<=0) B)
  {Z:Int} (co:∀w s,Cy w (.agg #[.bool (Qf x).neg,s,.int .i64 (Qf x).e]) (Qf x)->Calls Tryz.prog 23 #[.agg #[.bool (Qf x).neg,s,.int .i64 (Qf x).e]] w fun q w'=>∃v,q=.returned v/\Rf.NZ w' v Z (-1074)/\Below w.heap.size w w')
  (cb:∀w v,Rf.NZ w v Z (-1074)->Calls Tryz.prog 22 #[v] w fun q w'=>q=.returned (.bool true)/\Below w.heap.size w w') :
  Calls Tryz.prog 7 #[.int .u64 (x:Int),.int .i8 n,.int .u8 (k:Int)] w fun e w'=>e=.returned (.bool true)/\Below w.heap.size w w':=by
 have CA:=h_ hal;have CD:=h_ (fun w (t:Qq w)=>Ur hx hf t);have CS:=h_ (fun w u (h:Cy w u (Qf x))=>Jn h.ry);rw[hs]at CS;have z1:(n==0)=false:=by rw[beq_eq_false_iff_ne];exact hn0
 have q1:IntKind.i64.wrap n=n:=IntWalk.i64_in _ (by omega);have q2:IntKind.i64.wrap (k:Int)=(k:Int):=IntWalk.i64_in _ (by omega);have q3:IntKind.i64.wrap (1+(k:Int)%12)=(T:Int):=by rw[IntWalk.i64_in _ (by omega)];omega
 have hmb:m.natAbs<=29:=by rw[<-hm,Int.natAbs_tmod];exact Nat.le_of_lt_succ (Nat.mod_lt _ (by decide))
 have q4:IntKind.i64.wrap m=m:=IntWalk.i64_in _ (by omega);have q5:IntKind.u64.wrap (T:Int)=(T:Int):=by
  have:T<=12:=by omega
  exact IntWalk.u64_in _ (by omega)
 have CO:=h_ (fun w (t:Qq w)=>Ko t m (by omega));have C3:=h_ c3;have C2:=h_ c2;have L3:=h_ l3;have L2:=h_ l2;have COf:=h_ co;have CB:=h_ cb;have HT:=h_ t;have HTT:=h_ t;clear t hal hx hf hs hn hn0 hk c3 c2 l3 l2 co cb hmb hT;generalize Qk m=dy at *
 generalize Qf x=dx at *
 obtain⟨xn,xm,xe⟩:=dx;obtain⟨yn,ym,ye⟩:=dy;have COf:Qb (∀w s,Cy w (.agg #[.bool xn,s,.int .i64 xe]) ⟨xn,xm,xe⟩->Calls Tryz.prog 23 #[.agg #[.bool xn,s,.int .i64 xe]] w fun q w'=>∃v,q=.returned v/\Rf.NZ w' v Z (-1074)/\Below w.heap.size w w'):=COf;go_enter Tryz.func7,Tryz.ntmps7;go_wp2_with fail;refine(CA.o _ HT.o).mono ?_;rintro q w1 ⟨rfl,hb⟩;have F1:=h_ ((Fz.nil w).call hb);have T1:=h_ (HT.o.below hb);go_wp2_with fail;refine(CD.o _ T1.o).mono ?_;rintro q w2 ⟨u,rfl,hu,hb⟩;have F2:=h_ (F1.o.call hb);have T2:=h_ (T1.o.below hb);have X2:=h_ (hu);obtain⟨a1,k1,c1,rfl⟩:=X2.o.fm;clear hu CD;go_upto_region 4 with(fail)
 have F3:=h_ (F2.o.new 42 #[.bool xn,.slice a1 k1 c1,.int .i64 xe]);have T3:=h_ (T2.o.alloc (.cells #[.bool xn,.slice a1 k1 c1,.int .i64 xe] 42));have X3:=h_ (X2.o.alloc (.cells #[.bool xn,.slice a1 k1 c1,.int .i64 xe] 42));obtain⟨g1,hg1⟩:∃g,g=(World.heap w2).size:=⟨_,rfl⟩
 rw[<-hg1]at F3 |-;clear hg1;simp only[nil_append]at F3;generalize alloc w2 _=W3 at F3 T3 X3 |-;have c0_3:=F3.o.c3 0 rfl;go_wp2_with fail;refine(CS.o _ _ X3.o).mono ?_;rintro q w4 ⟨rfl,hb⟩;have F4:=h_ (F3.o.call hb);have T4:=h_ (T3.o.below hb);have X4:=h_ (X3.o.below hb);have c0_4:=F4.o.c3 0 rfl;go_upto_region 7 with(fail)
 go_cut [11] (fun p wx=>Qb (Qln w wx p g1 xn xm xe yn ym ye a1 k1 c1 T))
 case first =>
  have FCD:=h_ ((F4.o.drew.c3 0 rfl).1);refine wp_region_held_drew (S:=fun w'=>w'.cell? ⟨g1,0,none⟩=some (.bool xn)/\w'.cell? ⟨g1,1,none⟩=some (.slice a1 k1 c1)/\w'.cell? ⟨g1,2,none⟩=some (.int .i64 xe)) (by kernel_rfl) FCD.o (fun hHeld=>?_);have F5:=h_ (F4.o.drew);have T5:=h_ ((X4.o.drew).tab);have X5:=h_ (X4.o.drew);generalize drew w4=W0 at F5 T5 X5 hHeld |-;refine wpAnyH_take (i:=0) (oi:=⟨some 50,_,_,_,_,_⟩) (v:=?_) rfl (by kernel_rfl) (by kernel_rfl) (by kernel_rfl) (fun _ _ _ h=>h) (Or.inl ⟨by rfl,?_⟩) (by assumption) ?_;rotate_left
  ·(intro w hSw;(try dsimp only at hSw);go_simp);try with_reducible rfl
  try simp only[Act.put,setIfInBounds_toArray,set_cons_zero,set_cons_succ]
  refine wpAnyH_take (i:=1) (oi:=⟨some 51,_,_,_,_,_⟩) (v:=?_) rfl (by kernel_rfl) (by kernel_rfl) (by kernel_rfl) (fun _ _ _ h=>h) (Or.inl ⟨by rfl,?_⟩) (by assumption) ?_;rotate_left
  ·(intro w hSw;(try dsimp only at hSw);go_simp);try with_reducible rfl
  try simp only[Act.put,setIfInBounds_toArray,set_cons_zero,set_cons_succ]
  refine wpAnyH_take (i:=3) (oi:=⟨some 53,_,_,_,_,_⟩) (v:=?_) rfl (by kernel_rfl) (by kernel_rfl) (by kernel_rfl) (fun _ _ _ h=>h) (Or.inl ⟨by rfl,?_⟩) (by assumption) ?_;rotate_left
  ·(intro w hSw;(try dsimp only at hSw);go_simp);try with_reducible rfl
  try simp only[Act.put,setIfInBounds_toArray,set_cons_zero,set_cons_succ]
  refine wpAnyH_take (i:=4) (oi:=⟨some 54,_,_,_,_,_⟩) (v:=?_) rfl (by kernel_rfl) (by kernel_rfl) (by kernel_rfl) (fun _ _ _ h=>h) (Or.inl ⟨by rfl,?_⟩) (by assumption) ?_;rotate_left
  ·(intro w hSw;(try dsimp only at hSw);go_simp);try with_reducible rfl
  try simp only[Act.put,setIfInBounds_toArray,set_cons_zero,set_cons_succ]
  refine wpAnyH_ready (rs:=[2,7]) (by kernel_rfl) (by simp) ?_;refine AllReadyH.cons (o:=_) rfl (fun K hK=>?_) ?_
  .skip;go_simp;go_at_call 18
   with_reducible refine(CO.o _ T5.o).mono ?_
   rintro q w6 ⟨u,rfl,hu,hb⟩;have F6:=h_ (F5.o.call hb);have T6:=h_ (T5.o.below hb);have X6:=h_ (X5.o.below hb);have Y6:=h_ hu;obtain⟨a2,k2,c2,rfl⟩:=Y6.o.fm;clear hu hb
   try go_wp2_with fail
   refine hK.out _ _ ((F6.o.c3 0 rfl).1) (fun hHeld'=>?_);clear hK K hHeld;have hHeld:=hHeld';clear hHeld'
   try simp only[Act.put,setIfInBounds_toArray,set_cons_zero,set_cons_succ]
   refine wpAnyH_take (i:=5) (oi:=⟨some 55,_,_,_,_,_⟩) (v:=?_) rfl (by kernel_rfl) (by kernel_rfl) (by kernel_rfl) (fun _ _ _ h=>h) (Or.inl ⟨by rfl,?_⟩) (by assumption) ?_;rotate_left
   ·(intro w hSw;(try dsimp only at hSw);go_simp);try with_reducible rfl
   try simp only[Act.put,setIfInBounds_toArray,set_cons_zero,set_cons_succ]
   refine wpAnyH_take (i:=6) (oi:=⟨some 56,_,_,_,_,_⟩) (v:=?_) rfl (by kernel_rfl) (by kernel_rfl) (by kernel_rfl) (fun _ _ _ h=>h) (Or.inl ⟨by rfl,?_⟩) (by assumption) ?_;rotate_left
   ·(intro w hSw;(try dsimp only at hSw);go_simp);try with_reducible rfl
   try simp only[Act.put,setIfInBounds_toArray,set_cons_zero,set_cons_succ]
   refine wpAnyH_ready (rs:=[7]) (by kernel_rfl) (by simp) ?_;refine AllReadyH.cons (o:=_) rfl (fun K hK=>?_) ?_
   .skip;go_simp;have F7:=h_ (F6.o.new 58 #[.bool false,.slice none 0 0,.int .i64 0,.bool false,.slice none 0 0,.int .i64 0,.int .u64 0,.bool false,.int .i64 0,.int .i64 0,.int .i64 0]);have T7:=h_ (T6.o.alloc (.cells #[.bool false,.slice none 0 0,.int .i64 0,.bool false,.slice none 0 0,.int .i64 0,.int .u64 0,.bool false,.int .i64 0,.int .i64 0,.int .i64 0] 58));have X7:=h_ (X6.o.alloc (.cells #[.bool false,.slice none 0 0,.int .i64 0,.bool false,.slice none 0 0,.int .i64 0,.int .u64 0,.bool false,.int .i64 0,.int .i64 0,.int .i64 0] 58));have Y7:=h_ (Y6.o.alloc (.cells #[.bool false,.slice none 0 0,.int .i64 0,.bool false,.slice none 0 0,.int .i64 0,.int .u64 0,.bool false,.int .i64 0,.int .i64 0,.int .i64 0] 58));obtain⟨g2,hg2⟩:∃g,g=(World.heap w6).size:=⟨_,rfl⟩
    rw[<-hg2]at F7 |-;clear hg2;simp only[nil_append,cons_append]at F7;generalize alloc w6 _=W7 at F7 T7 X7 Y7 |-;refine hK.out _ _ ((F7.o.c3 0 rfl).1) (fun hHeld'=>?_);clear hK K hHeld;have hHeld:=hHeld';clear hHeld'
    try simp only[Act.put,setIfInBounds_toArray,set_cons_zero,set_cons_succ]
    refine wpAnyH_ready (rs:=[8]) (by kernel_rfl) (by simp) ?_;refine AllReadyH.cons (o:=_) rfl (fun K hK=>?_) AllReadyH.nil;have cc0:=F7.o.c11 1 rfl;go_simp;have f:=F7.o.s11 1 rfl (.bool xn) (.slice a1 k1 c1) (.int .i64 xe) (.bool yn) (.slice a2 k2 c2) (.int .i64 ye) (.int .u64 (T:Int)) (.bool false) (.int .i64 3) (.int .i64 64) (.int .i64 1024);have e1:=X7.o.setz HTT.o f.b (F7.o.box 1 _ _ _ rfl) rfl (fun k _ hk=>(Below.heap_setCell _ _ _ k hk).trans ((Below.heap_setCell _ _ _ k hk).trans ((Below.heap_setCell _ _ _ k hk).trans ((Below.heap_setCell _ _ _ k hk).trans ((Below.heap_setCell _ _ _ k hk).trans ((Below.heap_setCell _ _ _ k hk).trans ((Below.heap_setCell _ _ _ k hk).trans ((Below.heap_setCell _ _ _ k hk).trans ((Below.heap_setCell _ _ _ k hk).trans ((Below.heap_setCell _ _ _ k hk).trans (Below.heap_setCell _ _ _ k hk)))))))))));have e2:=Y7.o.setz HTT.o f.b (F7.o.box 1 _ _ _ rfl) rfl (fun k _ hk=>(Below.heap_setCell _ _ _ k hk).trans ((Below.heap_setCell _ _ _ k hk).trans ((Below.heap_setCell _ _ _ k hk).trans ((Below.heap_setCell _ _ _ k hk).trans ((Below.heap_setCell _ _ _ k hk).trans ((Below.heap_setCell _ _ _ k hk).trans ((Below.heap_setCell _ _ _ k hk).trans ((Below.heap_setCell _ _ _ k hk).trans ((Below.heap_setCell _ _ _ k hk).trans ((Below.heap_setCell _ _ _ k hk).trans (Below.heap_setCell _ _ _ k hk)))))))))));generalize (setCell (setCell (setCell (setCell (setCell (setCell (setCell (setCell (setCell (setCell (setCell _ _ _) _ _) _ _) _ _) _ _) _ _) _ _) _ _) _ _) _ _) _ _)=W at f e1 e2 |-;simp only[set_cons_zero,set_cons_succ]at f;refine hK.out _ _ ((f.c3 0 rfl).1) (fun hHeld'=>?_);clear hK K hHeld;have hHeld:=hHeld';clear hHeld'
    try simp only[Act.put,setIfInBounds_toArray,set_cons_zero,set_cons_succ]
    refine wpAnyH_done (by kernel_rfl) ?_ _;go_wp2_with fail;go_meet;exact⟨_,_,_,_,rfl,f,e1.tab,e1,e2⟩
   exact AllReadyH.nil
  refine AllReadyH.cons (o:=_) rfl (fun K hK=>?_) ?_
  .skip;go_simp;have F6:=h_ (F5.o.new 58 #[.bool false,.slice none 0 0,.int .i64 0,.bool false,.slice none 0 0,.int .i64 0,.int .u64 0,.bool false,.int .i64 0,.int .i64 0,.int .i64 0]);have T6:=h_ (T5.o.alloc (.cells #[.bool false,.slice none 0 0,.int .i64 0,.bool false,.slice none 0 0,.int .i64 0,.int .u64 0,.bool false,.int .i64 0,.int .i64 0,.int .i64 0] 58));have X6:=h_ (X5.o.alloc (.cells #[.bool false,.slice none 0 0,.int .i64 0,.bool false,.slice none 0 0,.int .i64 0,.int .u64 0,.bool false,.int .i64 0,.int .i64 0,.int .i64 0] 58));obtain⟨g3,hg3⟩:∃g,g=(World.heap W0).size:=⟨_,rfl⟩
   rw[<-hg3]at F6 |-;clear hg3;simp only[nil_append,cons_append]at F6;generalize alloc W0 _=W6 at F6 T6 X6 |-;refine hK.out _ _ ((F6.o.c3 0 rfl).1) (fun hHeld'=>?_);clear hK K hHeld;have hHeld:=hHeld';clear hHeld'
   try simp only[Act.put,setIfInBounds_toArray,set_cons_zero,set_cons_succ]
   refine wpAnyH_ready (rs:=[2]) (by kernel_rfl) (by simp) ?_;refine AllReadyH.cons (o:=_) rfl (fun K hK=>?_) ?_
   .skip;go_simp;go_at_call 18
    with_reducible refine(CO.o _ T6.o).mono ?_
    rintro q w7 ⟨u,rfl,hu,hb⟩;have F7:=h_ (F6.o.call hb);have T7:=h_ (T6.o.below hb);have X7:=h_ (X6.o.below hb);have Y7:=h_ hu;obtain⟨a2,k2,c2,rfl⟩:=Y7.o.fm;clear hu hb
    try go_wp2_with fail
    refine hK.out _ _ ((F7.o.c3 0 rfl).1) (fun hHeld'=>?_);clear hK K hHeld;have hHeld:=hHeld';clear hHeld'
    try simp only[Act.put,setIfInBounds_toArray,set_cons_zero,set_cons_succ]
    refine wpAnyH_take (i:=5) (oi:=⟨some 55,_,_,_,_,_⟩) (v:=?_) rfl (by kernel_rfl) (by kernel_rfl) (by kernel_rfl) (fun _ _ _ h=>h) (Or.inl ⟨by rfl,?_⟩) (by assumption) ?_;rotate_left
    ·(intro w hSw;(try dsimp only at hSw);go_simp);try with_reducible rfl
    try simp only[Act.put,setIfInBounds_toArray,set_cons_zero,set_cons_succ]
    refine wpAnyH_take (i:=6) (oi:=⟨some 56,_,_,_,_,_⟩) (v:=?_) rfl (by kernel_rfl) (by kernel_rfl) (by kernel_rfl) (fun _ _ _ h=>h) (Or.inl ⟨by rfl,?_⟩) (by assumption) ?_;rotate_left
    ·(intro w hSw;(try dsimp only at hSw);go_simp);try with_reducible rfl
    try simp only[Act.put,setIfInBounds_toArray,set_cons_zero,set_cons_succ]
    refine wpAnyH_ready (rs:=[8]) (by kernel_rfl) (by simp) ?_;refine AllReadyH.cons (o:=_) rfl (fun K hK=>?_) AllReadyH.nil;have cc0:=F7.o.c11 1 rfl;go_simp;have f:=F7.o.s11 1 rfl (.bool xn) (.slice a1 k1 c1) (.int .i64 xe) (.bool yn) (.slice a2 k2 c2) (.int .i64 ye) (.int .u64 (T:Int)) (.bool false) (.int .i64 3) (.int .i64 64) (.int .i64 1024);have e1:=X7.o.setz HTT.o f.b (F7.o.box 1 _ _ _ rfl) rfl (fun k _ hk=>(Below.heap_setCell _ _ _ k hk).trans ((Below.heap_setCell _ _ _ k hk).trans ((Below.heap_setCell _ _ _ k hk).trans ((Below.heap_setCell _ _ _ k hk).trans ((Below.heap_setCell _ _ _ k hk).trans ((Below.heap_setCell _ _ _ k hk).trans ((Below.heap_setCell _ _ _ k hk).trans ((Below.heap_setCell _ _ _ k hk).trans ((Below.heap_setCell _ _ _ k hk).trans ((Below.heap_setCell _ _ _ k hk).trans (Below.heap_setCell _ _ _ k hk)))))))))));have e2:=Y7.o.setz HTT.o f.b (F7.o.box 1 _ _ _ rfl) rfl (fun k _ hk=>(Below.heap_setCell _ _ _ k hk).trans ((Below.heap_setCell _ _ _ k hk).trans ((Below.heap_setCell _ _ _ k hk).trans ((Below.heap_setCell _ _ _ k hk).trans ((Below.heap_setCell _ _ _ k hk).trans ((Below.heap_setCell _ _ _ k hk).trans ((Below.heap_setCell _ _ _ k hk).trans ((Below.heap_setCell _ _ _ k hk).trans ((Below.heap_setCell _ _ _ k hk).trans ((Below.heap_setCell _ _ _ k hk).trans (Below.heap_setCell _ _ _ k hk)))))))))));generalize (setCell (setCell (setCell (setCell (setCell (setCell (setCell (setCell (setCell (setCell (setCell _ _ _) _ _) _ _) _ _) _ _) _ _) _ _) _ _) _ _) _ _) _ _)=W at f e1 e2 |-;simp only[set_cons_zero,set_cons_succ]at f;refine hK.out _ _ ((f.c3 0 rfl).1) (fun hHeld'=>?_);clear hK K hHeld;have hHeld:=hHeld';clear hHeld'
    try simp only[Act.put,setIfInBounds_toArray,set_cons_zero,set_cons_succ]
    refine wpAnyH_done (by kernel_rfl) ?_ _;go_wp2_with fail;go_meet;exact⟨_,_,_,_,rfl,f,e1.tab,e1,e2⟩
   exact AllReadyH.nil
  exact AllReadyH.nil
 case rest =>
  obtain⟨g2,a2,k2,c2,rfl,hF,hT,hX,hY⟩:=hcut.o;have F200:=h_ hF;have T200:=h_ hT;have X200:=h_ hX;have Y200:=h_ hY;clear hF hT hX hY hcut F4 T4 X4;have c0_200:=F200.o.c3 0 rfl;have c1_200:=F200.o.c11 1 rfl;go_wp2_with fail;refine(C3.o _ _ ⟨_,_,_,_,_,_,rfl,X200.o,Y200.o⟩).mono ?_;rintro q w201 ⟨Bp,fp,sp,np,rfl,hp,hb⟩;have F201:=h_ (F200.o.call hb);have T201:=h_ (T200.o.below hb);have X201:=h_ (X200.o.below hb);have Y201:=h_ (Y200.o.below hb);have c0_201:=F201.o.c3 0 rfl;have c1_201:=F201.o.c11 1 rfl;have HP:=h_ hp;clear hp C3;go_upto_region 9 with(fail)
  have F202:=h_ (F201.o.new 32 #[.int .u64 Bp,.int .u8 fp,.int .i64 sp]);have T202:=h_ (T201.o.alloc (.cells #[.int .u64 Bp,.int .u8 fp,.int .i64 sp] 32));have X202:=h_ (X201.o.alloc (.cells #[.int .u64 Bp,.int .u8 fp,.int .i64 sp] 32));have Y202:=h_ (Y201.o.alloc (.cells #[.int .u64 Bp,.int .u8 fp,.int .i64 sp] 32));obtain⟨g3,hg3⟩:∃g,g=(World.heap w201).size:=⟨_,rfl⟩
  rw[<-hg3]at F202 |-;clear hg3;simp only[nil_append,cons_append]at F202;generalize alloc w201 _=W202 at F202 T202 X202 Y202 |-;have c0_202:=F202.o.c3 0 rfl;have c1_202:=F202.o.c11 1 rfl;have c2_202:=F202.o.c3 2 rfl;go_upto_region 10 with(fail)
  have p:=Kp.set (i:=8) (x:=.int .i64 3) (F202.o.box 1 _ _ _ rfl) (by rfl) (Ih (by rfl)) (.int .i64 2);have f:=F202.o.s11_8 1 rfl (.int .i64 2);generalize setCell _ _ _=W at f p |-;have F203:=h_ (f);have T203:=h_ ((X202.o.kp p).tab);have X203:=h_ (X202.o.kp p);have Y203:=h_ (Y202.o.kp p);simp only[set_cons_zero,set_cons_succ]at F203;have c0_203:=F203.o.c3 0 rfl;have c1_203:=F203.o.c11 1 rfl;have c2_203:=F203.o.c3 2 rfl;go_wp2_with fail;refine(C2.o _ _ ⟨_,_,_,_,_,_,rfl,X203.o,Y203.o⟩).mono ?_;rintro q w204 ⟨Bq,fq,sq,nq,rfl,hq,hb⟩;have F204:=h_ (F203.o.call hb);have T204:=h_ (T203.o.below hb);have X204:=h_ (X203.o.below hb);have Y204:=h_ (Y203.o.below hb);have c0_204:=F204.o.c3 0 rfl;have c1_204:=F204.o.c11 1 rfl;have c2_204:=F204.o.c3 2 rfl;have HQ:=h_ hq;clear hq C2;go_upto_region 11 with(fail)
  have F205:=h_ (F204.o.new 32 #[.int .u64 Bq,.int .u8 fq,.int .i64 sq]);have T205:=h_ (T204.o.alloc (.cells #[.int .u64 Bq,.int .u8 fq,.int .i64 sq] 32));have X205:=h_ (X204.o.alloc (.cells #[.int .u64 Bq,.int .u8 fq,.int .i64 sq] 32));obtain⟨g4,hg4⟩:∃g,g=(World.heap w204).size:=⟨_,rfl⟩
  rw[<-hg4]at F205 |-;clear hg4;simp only[nil_append,cons_append]at F205;generalize alloc w204 _=W205 at F205 T205 X205 |-;have c0_205:=F205.o.c3 0 rfl;have c1_205:=F205.o.c11 1 rfl;have c2_205:=F205.o.c3 2 rfl;have c3_205:=F205.o.c3 3 rfl;rcases HP.o with⟨rfl,B,rfl,hB⟩|⟨rfl,-,-⟩
  case inr =>go_wp2;go_ret;exact⟨rfl,F205.o.b⟩
  rcases HQ.o with⟨rfl,C,rfl,hC⟩|⟨rfl,-,-⟩
  case inr =>go_wp2;go_ret;exact⟨rfl,F205.o.b⟩
  obtain⟨hlB,hcB⟩:=L3.o _ _ hB;have DB:=h_ (fun w (t:Qq w)=>Nw hlB t);have HCB:=h_ hcB;clear hlB hcB hB L3;go_wp2_with fail;refine(DB.o _ T205.o).mono ?_;rintro q w206 ⟨n5,a5,k5,c5,e5,rfl,hu,hb⟩;have F206:=h_ (F205.o.call hb);have T206:=h_ (T205.o.below hb);have X206:=h_ (X205.o.below hb);have c0_206:=F206.o.c3 0 rfl;have c1_206:=F206.o.c11 1 rfl;have c2_206:=F206.o.c3 2 rfl;have c3_206:=F206.o.c3 3 rfl;have HU:=h_ (fun h=>(hu h));generalize hfb:decide (Qp B<2047)=fb at *
  have HFB:=h_ hfb;clear hu hfb DB;go_upto_region 16 with(fail)
  have HU:=h_ (fun h=>(HU.o h).alloc (.cells #[.bool n5,.slice a5 k5 c5,.int .i64 e5] 42));have F207:=h_ (F206.o.new 42 #[.bool n5,.slice a5 k5 c5,.int .i64 e5]);have T207:=h_ (T206.o.alloc (.cells #[.bool n5,.slice a5 k5 c5,.int .i64 e5] 42));have X207:=h_ (X206.o.alloc (.cells #[.bool n5,.slice a5 k5 c5,.int .i64 e5] 42));obtain⟨g5,hg5⟩:∃g,g=(World.heap w206).size:=⟨_,rfl⟩
  rw[<-hg5]at F207 |-;clear hg5;simp only[nil_append,cons_append]at F207;generalize alloc w206 _=W207 at F207 T207 X207 HU |-;have c0_207:=F207.o.c3 0 rfl;have c1_207:=F207.o.c11 1 rfl;have c2_207:=F207.o.c3 2 rfl;have c3_207:=F207.o.c3 3 rfl;have c4_207:=F207.o.c3 4 rfl;go_cut [95] (fun b wx=>Qb (∃tb:Bool,b=.bool tb/\Fz w wx [(g1,42,#[.bool xn,.slice a1 k1 c1,.int .i64 xe]),(g2,58,#[.bool xn,.slice a1 k1 c1,.int .i64 xe,.bool yn,.slice a2 k2 c2,.int .i64 ye,.int .u64 (T:Int),.bool false,.int .i64 2,.int .i64 64,.int .i64 1024]),(g3,32,#[.int .u64 (B:Int),.int .u8 fp,.int .i64 0]),(g4,32,#[.int .u64 (C:Int),.int .u8 fq,.int .i64 0]),(g5,42,#[.bool n5,.slice a5 k5 c5,.int .i64 e5])]/\Qq wx/\Cy wx (.agg #[.bool xn,.slice a1 k1 c1,.int .i64 xe]) ⟨xn,xm,xe⟩/\(tb=true->Cy wx (.agg #[.bool n5,.slice a5 k5 c5,.int .i64 e5]) (Qf B)/\Oi ⟨xn,xm,xe⟩ m T (fun c=>0<=c) B)))
  case first =>
   cases fb
   case false =>have c4:=F207.o.c3 4 rfl;go_wp2_with fail;go_meet;exact⟨false,rfl,F207.o,T207.o,X207.o,nofun⟩
   case true =>
    have UU:=HU.o (of_decide_eq_true HFB.o);have CS:=h_ (fun w u (h:Cy w u (Qf B))=>Jn h.ry);rcases HCB.o (of_decide_eq_true HFB.o)with h0|⟨h1,hc⟩
    case inl =>rw[h0]at CS;have VV:=h_ UU;clear UU HU HCB HFB h0;have V207:=VV;have c4_207:=F207.o.c3 4 rfl;go_wp2_with fail;refine(CS.o _ _ V207.o).mono ?_;rintro q w208 ⟨rfl,hb⟩;have F208:=h_ (F207.o.call hb);have T208:=h_ (T207.o.below hb);have X208:=h_ (X207.o.below hb);have V208:=h_ (V207.o.below hb);clear F207 T207 X207 V207;have c4_208:=F208.o.c3 4 rfl;go_wp2_with fail;go_meet;exact⟨false,rfl,F208.o,T208.o,X208.o,nofun⟩
    case inr =>rw[h1]at CS;have VV:=h_ UU;have HK:=h_ hc;clear UU HU HCB HFB h1 hc;have V207:=VV;have c4_207:=F207.o.c3 4 rfl;go_wp2_with fail;refine(CS.o _ _ V207.o).mono ?_;rintro q w208 ⟨rfl,hb⟩;have F208:=h_ (F207.o.call hb);have T208:=h_ (T207.o.below hb);have X208:=h_ (X207.o.below hb);have V208:=h_ (V207.o.below hb);clear F207 T207 X207 V207;have c4_208:=F208.o.c3 4 rfl;go_wp2_with fail;go_meet;exact⟨true,rfl,F208.o,T208.o,X208.o,(fun _=>⟨V208.o,HK.o⟩)⟩
  case rest =>
   obtain⟨tb,rfl,hF,hT,hX,hV⟩:=hcut.o;have F307:=h_ hF;have T307:=h_ hT;have X307:=h_ hX;have HV:=h_ hV;clear hF hT hX hV hcut HU HCB HFB F207 T207 X207;cases tb
   case true =>
    obtain⟨hv,c,hc,hK⟩:=HV.o rfl;have V307:=h_ hv;have HK:=h_ hK;have tc:decide (c<0)=false:=decide_eq_false (by omega);clear hv hK hc HV;have c0_307:=F307.o.c3 0 rfl;have c1_307:=F307.o.c11 1 rfl;have c2_307:=F307.o.c3 2 rfl;have c3_307:=F307.o.c3 3 rfl;have c4_307:=F307.o.c3 4 rfl;go_wp2_with fail;refine(HK.o _ _ _ X307.o V307.o).mono ?_;rintro q w308 ⟨rfl,hb⟩;have F308:=h_ (F307.o.call hb);have T308:=h_ (T307.o.below hb);have X308:=h_ (X307.o.below hb);have V308:=h_ (V307.o.below hb);have c0_308:=F308.o.c3 0 rfl;have c1_308:=F308.o.c11 1 rfl;have c2_308:=F308.o.c3 2 rfl;have c3_308:=F308.o.c3 3 rfl;have c4_308:=F308.o.c3 4 rfl;obtain⟨hlC,hcC⟩:=L2.o _ _ hC;have DC:=h_ (fun w (t:Qq w)=>Nw hlC t);have HCC:=h_ hcC;clear hlC hcC hC L2;go_wp2_with fail;refine(DC.o _ T308.o).mono ?_;rintro q w309 ⟨n6,a6,k6,c6,e6,rfl,hu,hb⟩;have F309:=h_ (F308.o.call hb);have T309:=h_ (T308.o.below hb);have X309:=h_ (X308.o.below hb);have c0_309:=F309.o.c3 0 rfl;have c1_309:=F309.o.c11 1 rfl;have c2_309:=F309.o.c3 2 rfl;have c3_309:=F309.o.c3 3 rfl;have c4_309:=F309.o.c3 4 rfl;have HU:=h_ (fun h=>(hu h));generalize hfb:decide (Qp C<2047)=fb at *
    have HFB:=h_ hfb;clear hu hfb DC;go_upto_region 21 with(fail)
    have HU:=h_ (fun h=>(HU.o h).alloc (.cells #[.bool n6,.slice a6 k6 c6,.int .i64 e6] 42));have F310:=h_ (F309.o.new 42 #[.bool n6,.slice a6 k6 c6,.int .i64 e6]);have T310:=h_ (T309.o.alloc (.cells #[.bool n6,.slice a6 k6 c6,.int .i64 e6] 42));have X310:=h_ (X309.o.alloc (.cells #[.bool n6,.slice a6 k6 c6,.int .i64 e6] 42));obtain⟨g6,hg6⟩:∃g,g=(World.heap w309).size:=⟨_,rfl⟩
    rw[<-hg6]at F310 |-;clear hg6;simp only[nil_append,cons_append]at F310;generalize alloc w309 _=W310 at F310 T310 X310 HU |-;have c0_310:=F310.o.c3 0 rfl;have c1_310:=F310.o.c11 1 rfl;have c2_310:=F310.o.c3 2 rfl;have c3_310:=F310.o.c3 3 rfl;have c4_310:=F310.o.c3 4 rfl;have c5_310:=F310.o.c3 5 rfl;go_cut [121] (fun b wx=>Qb (∃tb:Bool,b=.bool tb/\Fz w wx [(g1,42,#[.bool xn,.slice a1 k1 c1,.int .i64 xe]),(g2,58,#[.bool xn,.slice a1 k1 c1,.int .i64 xe,.bool yn,.slice a2 k2 c2,.int .i64 ye,.int .u64 (T:Int),.bool false,.int .i64 2,.int .i64 64,.int .i64 1024]),(g3,32,#[.int .u64 (B:Int),.int .u8 fp,.int .i64 0]),(g4,32,#[.int .u64 (C:Int),.int .u8 fq,.int .i64 0]),(g5,42,#[.bool n5,.slice a5 k5 c5,.int .i64 e5]),(g6,42,#[.bool n6,.slice a6 k6 c6,.int .i64 e6])]/\Qq wx/\Cy wx (.agg #[.bool xn,.slice a1 k1 c1,.int .i64 xe]) ⟨xn,xm,xe⟩/\(tb=true->Cy wx (.agg #[.bool n6,.slice a6 k6 c6,.int .i64 e6]) (Qf C)/\Oi ⟨xn,xm,xe⟩ m T (fun c=>c<=0) C)))
    case first =>
     cases fb
     case false =>have c5:=F310.o.c3 5 rfl;go_wp2_with fail;go_meet;exact⟨false,rfl,F310.o,T310.o,X310.o,nofun⟩
     case true =>
      have UU:=HU.o (of_decide_eq_true HFB.o);have CS:=h_ (fun w u (h:Cy w u (Qf C))=>Jn h.ry);rcases HCC.o (of_decide_eq_true HFB.o)with h0|⟨h1,hc⟩
      case inl =>rw[h0]at CS;have VV:=h_ UU;clear UU HU HCC HFB h0;have V310:=VV;have c5_310:=F310.o.c3 5 rfl;go_wp2_with fail;refine(CS.o _ _ V310.o).mono ?_;rintro q w311 ⟨rfl,hb⟩;have F311:=h_ (F310.o.call hb);have T311:=h_ (T310.o.below hb);have X311:=h_ (X310.o.below hb);have V311:=h_ (V310.o.below hb);clear F310 T310 X310 V310;have c5_311:=F311.o.c3 5 rfl;go_wp2_with fail;go_meet;exact⟨false,rfl,F311.o,T311.o,X311.o,nofun⟩
      case inr =>rw[h1]at CS;have VV:=h_ UU;have HK:=h_ hc;clear UU HU HCC HFB h1 hc;have V310:=VV;have c5_310:=F310.o.c3 5 rfl;go_wp2_with fail;refine(CS.o _ _ V310.o).mono ?_;rintro q w311 ⟨rfl,hb⟩;have F311:=h_ (F310.o.call hb);have T311:=h_ (T310.o.below hb);have X311:=h_ (X310.o.below hb);have V311:=h_ (V310.o.below hb);clear F310 T310 X310 V310;have c5_311:=F311.o.c3 5 rfl;go_wp2_with fail;go_meet;exact⟨true,rfl,F311.o,T311.o,X311.o,(fun _=>⟨V311.o,HK.o⟩)⟩
    case rest =>
     obtain⟨tb,rfl,hF,hT,hX,hV⟩:=hcut.o;have F410:=h_ hF;have T410:=h_ hT;have X410:=h_ hX;have HV:=h_ hV;clear hF hT hX hV hcut HU HCC HFB F310 T310 X310;cases tb
     case true =>obtain⟨hv,c,hc,hK⟩:=HV.o rfl;have V410:=h_ hv;have HK:=h_ hK;have tc:decide (0<c)=false:=decide_eq_false (by omega);clear hv hK hc HV;have c0_410:=F410.o.c3 0 rfl;have c1_410:=F410.o.c11 1 rfl;have c2_410:=F410.o.c3 2 rfl;have c3_410:=F410.o.c3 3 rfl;have c4_410:=F410.o.c3 4 rfl;have c5_410:=F410.o.c3 5 rfl;go_wp2_with fail;refine(HK.o _ _ _ X410.o V410.o).mono ?_;rintro q w411 ⟨rfl,hb⟩;have F411:=h_ (F410.o.call hb);have T411:=h_ (T410.o.below hb);have X411:=h_ (X410.o.below hb);have V411:=h_ (V410.o.below hb);have c0_411:=F411.o.c3 0 rfl;have c1_411:=F411.o.c11 1 rfl;have c2_411:=F411.o.c3 2 rfl;have c3_411:=F411.o.c3 3 rfl;have c4_411:=F411.o.c3 4 rfl;have c5_411:=F411.o.c3 5 rfl;go_wp2_with fail;refine(COf.o _ _ X411.o).mono ?_;rintro q w412 ⟨v,rfl,hv,hb⟩;have F412:=h_ (F411.o.call hb);have T412:=h_ (T411.o.below hb);have X412:=h_ (X411.o.below hb);have c0_412:=F412.o.c3 0 rfl;have c1_412:=F412.o.c11 1 rfl;have c2_412:=F412.o.c3 2 rfl;have c3_412:=F412.o.c3 3 rfl;have c4_412:=F412.o.c3 4 rfl;have c5_412:=F412.o.c3 5 rfl;have HVV:=h_ hv;clear hv;go_wp2_with fail;refine(CB.o _ _ HVV.o).mono ?_;rintro q w413 ⟨rfl,hb⟩;have F413:=h_ (F412.o.call hb);have T413:=h_ (T412.o.below hb);have X413:=h_ (X412.o.below hb);have c0_413:=F413.o.c3 0 rfl;have c1_413:=F413.o.c11 1 rfl;have c2_413:=F413.o.c3 2 rfl;have c3_413:=F413.o.c3 3 rfl;have c4_413:=F413.o.c3 4 rfl;have c5_413:=F413.o.c3 5 rfl;go_wp2;go_ret;exact⟨rfl,F413.o.b⟩
     case false =>have c0_410:=F410.o.c3 0 rfl;have c1_410:=F410.o.c11 1 rfl;have c2_410:=F410.o.c3 2 rfl;have c3_410:=F410.o.c3 3 rfl;have c4_410:=F410.o.c3 4 rfl;have c5_410:=F410.o.c3 5 rfl;go_wp2_with fail;refine(COf.o _ _ X410.o).mono ?_;rintro q w411 ⟨v,rfl,hv,hb⟩;have F411:=h_ (F410.o.call hb);have T411:=h_ (T410.o.below hb);have X411:=h_ (X410.o.below hb);have c0_411:=F411.o.c3 0 rfl;have c1_411:=F411.o.c11 1 rfl;have c2_411:=F411.o.c3 2 rfl;have c3_411:=F411.o.c3 3 rfl;have c4_411:=F411.o.c3 4 rfl;have c5_411:=F411.o.c3 5 rfl;have HVV:=h_ hv;clear hv;go_wp2_with fail;refine(CB.o _ _ HVV.o).mono ?_;rintro q w412 ⟨rfl,hb⟩;have F412:=h_ (F411.o.call hb);have T412:=h_ (T411.o.below hb);have X412:=h_ (X411.o.below hb);have c0_412:=F412.o.c3 0 rfl;have c1_412:=F412.o.c11 1 rfl;have c2_412:=F412.o.c3 2 rfl;have c3_412:=F412.o.c3 3 rfl;have c4_412:=F412.o.c3 4 rfl;have c5_412:=F412.o.c3 5 rfl;go_wp2;go_ret;exact⟨rfl,F412.o.b⟩
   case false =>
    have c0_307:=F307.o.c3 0 rfl;have c1_307:=F307.o.c11 1 rfl;have c2_307:=F307.o.c3 2 rfl;have c3_307:=F307.o.c3 3 rfl;have c4_307:=F307.o.c3 4 rfl;obtain⟨hlC,hcC⟩:=L2.o _ _ hC;have DC:=h_ (fun w (t:Qq w)=>Nw hlC t);have HCC:=h_ hcC;clear hlC hcC hC L2;go_wp2_with fail;refine(DC.o _ T307.o).mono ?_;rintro q w308 ⟨n6,a6,k6,c6,e6,rfl,hu,hb⟩;have F308:=h_ (F307.o.call hb);have T308:=h_ (T307.o.below hb);have X308:=h_ (X307.o.below hb);have c0_308:=F308.o.c3 0 rfl;have c1_308:=F308.o.c11 1 rfl;have c2_308:=F308.o.c3 2 rfl;have c3_308:=F308.o.c3 3 rfl;have c4_308:=F308.o.c3 4 rfl;have HU:=h_ (fun h=>(hu h));generalize hfb:decide (Qp C<2047)=fb at *
    have HFB:=h_ hfb;clear hu hfb DC;go_upto_region 21 with(fail)
    have HU:=h_ (fun h=>(HU.o h).alloc (.cells #[.bool n6,.slice a6 k6 c6,.int .i64 e6] 42));have F309:=h_ (F308.o.new 42 #[.bool n6,.slice a6 k6 c6,.int .i64 e6]);have T309:=h_ (T308.o.alloc (.cells #[.bool n6,.slice a6 k6 c6,.int .i64 e6] 42));have X309:=h_ (X308.o.alloc (.cells #[.bool n6,.slice a6 k6 c6,.int .i64 e6] 42));obtain⟨g6,hg6⟩:∃g,g=(World.heap w308).size:=⟨_,rfl⟩
    rw[<-hg6]at F309 |-;clear hg6;simp only[nil_append,cons_append]at F309;generalize alloc w308 _=W309 at F309 T309 X309 HU |-;have c0_309:=F309.o.c3 0 rfl;have c1_309:=F309.o.c11 1 rfl;have c2_309:=F309.o.c3 2 rfl;have c3_309:=F309.o.c3 3 rfl;have c4_309:=F309.o.c3 4 rfl;have c5_309:=F309.o.c3 5 rfl;go_cut [121] (fun b wx=>Qb (∃tb:Bool,b=.bool tb/\Fz w wx [(g1,42,#[.bool xn,.slice a1 k1 c1,.int .i64 xe]),(g2,58,#[.bool xn,.slice a1 k1 c1,.int .i64 xe,.bool yn,.slice a2 k2 c2,.int .i64 ye,.int .u64 (T:Int),.bool false,.int .i64 2,.int .i64 64,.int .i64 1024]),(g3,32,#[.int .u64 (B:Int),.int .u8 fp,.int .i64 0]),(g4,32,#[.int .u64 (C:Int),.int .u8 fq,.int .i64 0]),(g5,42,#[.bool n5,.slice a5 k5 c5,.int .i64 e5]),(g6,42,#[.bool n6,.slice a6 k6 c6,.int .i64 e6])]/\Qq wx/\Cy wx (.agg #[.bool xn,.slice a1 k1 c1,.int .i64 xe]) ⟨xn,xm,xe⟩/\(tb=true->Cy wx (.agg #[.bool n6,.slice a6 k6 c6,.int .i64 e6]) (Qf C)/\Oi ⟨xn,xm,xe⟩ m T (fun c=>c<=0) C)))
    case first =>
     cases fb
     case false =>have c5:=F309.o.c3 5 rfl;go_wp2_with fail;go_meet;exact⟨false,rfl,F309.o,T309.o,X309.o,nofun⟩
     case true =>
      have UU:=HU.o (of_decide_eq_true HFB.o);have CS:=h_ (fun w u (h:Cy w u (Qf C))=>Jn h.ry);rcases HCC.o (of_decide_eq_true HFB.o)with h0|⟨h1,hc⟩
      case inl =>rw[h0]at CS;have VV:=h_ UU;clear UU HU HCC HFB h0;have V309:=VV;have c5_309:=F309.o.c3 5 rfl;go_wp2_with fail;refine(CS.o _ _ V309.o).mono ?_;rintro q w310 ⟨rfl,hb⟩;have F310:=h_ (F309.o.call hb);have T310:=h_ (T309.o.below hb);have X310:=h_ (X309.o.below hb);have V310:=h_ (V309.o.below hb);clear F309 T309 X309 V309;have c5_310:=F310.o.c3 5 rfl;go_wp2_with fail;go_meet;exact⟨false,rfl,F310.o,T310.o,X310.o,nofun⟩
      case inr =>rw[h1]at CS;have VV:=h_ UU;have HK:=h_ hc;clear UU HU HCC HFB h1 hc;have V309:=VV;have c5_309:=F309.o.c3 5 rfl;go_wp2_with fail;refine(CS.o _ _ V309.o).mono ?_;rintro q w310 ⟨rfl,hb⟩;have F310:=h_ (F309.o.call hb);have T310:=h_ (T309.o.below hb);have X310:=h_ (X309.o.below hb);have V310:=h_ (V309.o.below hb);clear F309 T309 X309 V309;have c5_310:=F310.o.c3 5 rfl;go_wp2_with fail;go_meet;exact⟨true,rfl,F310.o,T310.o,X310.o,(fun _=>⟨V310.o,HK.o⟩)⟩
    case rest =>
     obtain⟨tb,rfl,hF,hT,hX,hV⟩:=hcut.o;have F409:=h_ hF;have T409:=h_ hT;have X409:=h_ hX;have HV:=h_ hV;clear hF hT hX hV hcut HU HCC HFB F309 T309 X309;cases tb
     case true =>obtain⟨hv,c,hc,hK⟩:=HV.o rfl;have V409:=h_ hv;have HK:=h_ hK;have tc:decide (0<c)=false:=decide_eq_false (by omega);clear hv hK hc HV;have c0_409:=F409.o.c3 0 rfl;have c1_409:=F409.o.c11 1 rfl;have c2_409:=F409.o.c3 2 rfl;have c3_409:=F409.o.c3 3 rfl;have c4_409:=F409.o.c3 4 rfl;have c5_409:=F409.o.c3 5 rfl;go_wp2_with fail;refine(HK.o _ _ _ X409.o V409.o).mono ?_;rintro q w410 ⟨rfl,hb⟩;have F410:=h_ (F409.o.call hb);have T410:=h_ (T409.o.below hb);have X410:=h_ (X409.o.below hb);have V410:=h_ (V409.o.below hb);have c0_410:=F410.o.c3 0 rfl;have c1_410:=F410.o.c11 1 rfl;have c2_410:=F410.o.c3 2 rfl;have c3_410:=F410.o.c3 3 rfl;have c4_410:=F410.o.c3 4 rfl;have c5_410:=F410.o.c3 5 rfl;go_wp2_with fail;refine(COf.o _ _ X410.o).mono ?_;rintro q w411 ⟨v,rfl,hv,hb⟩;have F411:=h_ (F410.o.call hb);have T411:=h_ (T410.o.below hb);have X411:=h_ (X410.o.below hb);have c0_411:=F411.o.c3 0 rfl;have c1_411:=F411.o.c11 1 rfl;have c2_411:=F411.o.c3 2 rfl;have c3_411:=F411.o.c3 3 rfl;have c4_411:=F411.o.c3 4 rfl;have c5_411:=F411.o.c3 5 rfl;have HVV:=h_ hv;clear hv;go_wp2_with fail;refine(CB.o _ _ HVV.o).mono ?_;rintro q w412 ⟨rfl,hb⟩;have F412:=h_ (F411.o.call hb);have T412:=h_ (T411.o.below hb);have X412:=h_ (X411.o.below hb);have c0_412:=F412.o.c3 0 rfl;have c1_412:=F412.o.c11 1 rfl;have c2_412:=F412.o.c3 2 rfl;have c3_412:=F412.o.c3 3 rfl;have c4_412:=F412.o.c3 4 rfl;have c5_412:=F412.o.c3 5 rfl;go_wp2;go_ret;exact⟨rfl,F412.o.b⟩
     case false =>have c0_409:=F409.o.c3 0 rfl;have c1_409:=F409.o.c11 1 rfl;have c2_409:=F409.o.c3 2 rfl;have c3_409:=F409.o.c3 3 rfl;have c4_409:=F409.o.c3 4 rfl;have c5_409:=F409.o.c3 5 rfl;go_wp2_with fail;refine(COf.o _ _ X409.o).mono ?_;rintro q w410 ⟨v,rfl,hv,hb⟩;have F410:=h_ (F409.o.call hb);have T410:=h_ (T409.o.below hb);have X410:=h_ (X409.o.below hb);have c0_410:=F410.o.c3 0 rfl;have c1_410:=F410.o.c11 1 rfl;have c2_410:=F410.o.c3 2 rfl;have c3_410:=F410.o.c3 3 rfl;have c4_410:=F410.o.c3 4 rfl;have c5_410:=F410.o.c3 5 rfl;have HVV:=h_ hv;clear hv;go_wp2_with fail;refine(CB.o _ _ HVV.o).mono ?_;rintro q w411 ⟨rfl,hb⟩;have F411:=h_ (F410.o.call hb);have T411:=h_ (T410.o.below hb);have X411:=h_ (X410.o.below hb);have c0_411:=F411.o.c3 0 rfl;have c1_411:=F411.o.c11 1 rfl;have c2_411:=F411.o.c3 2 rfl;have c3_411:=F411.o.c3 3 rfl;have c4_411:=F411.o.c3 4 rfl;have c5_411:=F411.o.c3 5 rfl;go_wp2;go_ret;exact⟨rfl,F411.o.b⟩
open Rl
theorem Vm.lt{b:Rat}{M K B:Nat}{z:Int}(h:Vm b M K z B):B<=9218868437227405312:=by
 obtain⟨m,e,m',e',-,-,hB,-⟩:=h;have h1:=@Qck m e z;have h2:Xm z<=9218868437227405312:=by unfold Xm;split<;>omega
 omega
theorem Eg{x T B:Nat}{m z:Int}{ok:Int->Prop}(hx:x<9218868437227405312)(h0:0<x)(hm:m.natAbs<=29)(hT:1<=T/\T<=12)(h:Vm (Wq (rv (Qf x)) (decide (m<0))) m.natAbs T z B)
  (hok:B<9218868437227405312->B≠0->ok (Is (Qf x) (Qf B) m T)):Bi (Qf x) m T ok B:=by
 have hl:=h.lt;refine⟨by omega,fun hf=>?_⟩;have hB:B<9218868437227405312:=by
  apply Nat.lt_of_not_le;intro hle;obtain rfl:B=9218868437227405312:=by omega
  exact absurd hf (by decide)
 by_cases b0:B=0
 .subst b0;exact .inl (by decide)
 .obtain⟨x1,x2,-,x3,x4,x5⟩:=Vx hx h0;obtain⟨b1,b2,-,b3,b4,b5⟩:=Vx hB (by omega);obtain⟨f1,f2,-⟩:=Ud hx;obtain⟨g1,g2,-⟩:=Ud hB;have xb:=(Xo f2 (by unfold Qp Xs;omega)).2.2.2.2.2.1;have bb:=(Xo g2 (by unfold Qp Xs;omega)).2.2.2.2.2.1;refine .inr ⟨by unfold Qe;rw[if_neg b4,b3];rfl,_,hok hB b0,fun w u v hu hv=>?_⟩;exact Qjh hu hv xb bb x3 b3 x4 b4 (by omega) (by omega) (by omega) (by omega) m (by omega) T ⟨hT.1,by omega⟩
theorem Qc6{x T B:Nat}{m:Int}(hx:x<9218868437227405312)(h0:0<x)(hm:m.natAbs<=29)(hT:1<=T/\T<=12)(h:Vm (Wq (rv (Qf x)) (decide (m<0))) m.natAbs T 3 B):Bi (Qf x) m T (fun c=>0<=c) B:=by refine Eg hx h0 hm hT h fun hB b0=>?_;obtain⟨x1,x2,-,x3,x4,x5⟩:=Vx hx h0;obtain⟨b1,b2,-,b3,b4,b5⟩:=Vx hB (by omega);exact(Hw x3 b3 x4 b4 (by omega) (by omega) (by omega) (by omega) (by omega) (by omega)).1 (Qaj h hB b0)
theorem Qbb{x T B:Nat}{m:Int}(hx:x<9218868437227405312)(h0:0<x)(hm:m.natAbs<=29)(hT:1<=T/\T<=12)(h:Vm (Wq (rv (Qf x)) (decide (m<0))) m.natAbs T 2 B):Bi (Qf x) m T (fun c=>c<=0) B:=by refine Eg hx h0 hm hT h fun hB b0=>?_;obtain⟨x1,x2,-,x3,x4,x5⟩:=Vx hx h0;obtain⟨b1,b2,-,b3,b4,b5⟩:=Vx hB (by omega);exact(Hw x3 b3 x4 b4 (by omega) (by omega) (by omega) (by omega) (by omega) (by omega)).2 (Qfn h hB)
theorem Ck{w:World}(t:Qq w){x k:Nat}{n:Int}(hx:x<18446744073709551616)(hn:-128<=n/\n<=127)(hk:k<256)(hal:∀w,Qq w->Calls Tryz.prog 8 #[] w fun e w'=>e=.returned (.bool true)/\Below w.heap.size w w') :
  Calls Tryz.prog 7 #[.int .u64 (x:Int),.int .i8 n,.int .u8 (k:Int)] w fun e w'=>e=.returned (.bool true)/\Below w.heap.size w w':=by
 by_cases hf:Qp x<2047
 .have b:=Yu (Qf x);by_cases hs:Qe (Qf x)=1
  .by_cases h0:n=0
   .exact Sx t hx hal hf (.inr ⟨hs,h0⟩)
   .have xi:x<9218868437227405312/\0<x:=by
     have hm0:(Qf x).m≠0:=by intro h;unfold Qe at hs;rw[if_pos h]at hs;exact absurd hs (by decide)
     have hz:¬(Qp x=0/\Xs x=0):=by
      rintro⟨a,b⟩;have hm:Xi x=0:=by unfold Xi;rw[if_pos a];exact b
      exact hm0 (by show(Qa _).m=0;rw[Zg (d:=⟨J7 x,Xi x,Jt x⟩) hm])
     have hg:J7 x=false:=by
      have e:=(Xo hf hz).1;cases hg:J7 x
      .rfl
      .exfalso;rw[hg]at e;unfold Qe at hs;rw[if_neg hm0,e]at hs;exact absurd hs (by decide)
     have h63:x<9223372036854775808:=by unfold J7 at hg;have:=of_decide_eq_false hg;omega
     unfold Qp Xs at hz;unfold Qp at hf;omega
    obtain⟨x1,x2⟩:=xi;have hmb:(n.tmod 30).natAbs<=29:=by rw[Int.natAbs_tmod];exact Nat.le_of_lt_succ (Nat.mod_lt _ (by decide))
    have hT:1<=1+k%12/\1+k%12<=12:=by omega
    exact Oo t hx hn hk hal hf hs h0 rfl rfl (fun w u h=>Qjr x1 x2 hmb hT (by decide) h) (fun w u h=>Qjr x1 x2 hmb hT (by decide) h)
     (fun B f h=>Qc6 x1 x2 hmb hT (h rfl)) (fun B f h=>Qbb x1 x2 hmb hT (h rfl))
     (fun w s h=>Qj7 x1 x2 rfl h) (fun w v h=>Rf.Qbv (by show x<Rf.Km;unfold Rf.Km;omega) x2 h)
  .exact Sx t hx hal hf (.inl (by omega))
 .exact Aa t hx hal hf
end Go.Proofs.YtobpioceopfkpaaGreatDoor
