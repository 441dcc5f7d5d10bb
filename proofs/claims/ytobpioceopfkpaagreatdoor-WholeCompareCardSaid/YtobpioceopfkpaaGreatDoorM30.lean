/-
  Lemmas for WholeCompare (part 30); without conditions.
-/
import Derived.Test.YtobpioceopfkpaaGreatDoorM26
import Derived.Test.YtobpioceopfkpaaGreatDoorM28
import Derived.Test.YtobpioceopfkpaaGreatDoorM27
import Derived.Test.YtobpioceopfkpaaGreatDoorM05
set_option maxRecDepth 100000
set_option maxHeartbeats 4000000
namespace Go.Proofs.YtobpioceopfkpaaGreatDoor
open Go.RowKit
open World (setCell alloc drew)
open List (set_cons_zero set_cons_succ setIfInBounds_toArray cons_append nil_append)
theorem Gq{d:Dn}{s K:Nat}(h1:-(K:Int)<=(Qa d).e)(h2:s<=K):Qx d s false*2^(K-s)<=mz K (Qa d):=by
 unfold Qx mz;generalize Qa d=D at *
 obtain⟨n,m,e⟩:=D;simp only at h1 |-;by_cases h:0<=e+(s:Int)
 .rw[if_pos h,Nat.mul_assoc,<-Nat.pow_add,show(e+(s:Int)).toNat+(K-s)=(e+(K:Int)).toNat by omega];exact Nat.le_refl _
 .rw[if_neg h,if_neg (by simp)];rw[show K-s=(-e-(s:Int)).toNat+(e+(K:Int)).toNat by omega,Nat.pow_add,<-Nat.mul_assoc];exact Nat.mul_le_mul_right _ (Nat.div_mul_le_self _ _)
theorem Tl{d:Dn}{s K:Nat}(h1:-(K:Int)<=(Qa d).e)(h2:s<=K):mz K (Qa d)<=Qx d s true*2^(K-s):=by
 unfold Qx mz;generalize Qa d=D at *
 obtain⟨n,m,e⟩:=D;simp only at h1 |-;by_cases h:0<=e+(s:Int)
 .rw[if_pos h,Nat.mul_assoc,<-Nat.pow_add,show(e+(s:Int)).toNat+(K-s)=(e+(K:Int)).toNat by omega];exact Nat.le_refl _
 .rw[if_neg h,show K-s=(-e-(s:Int)).toNat+(e+(K:Int)).toNat by omega,Nat.pow_add,<-Nat.mul_assoc];refine Nat.mul_le_mul_right _ ?_;have hd:=Nat.div_add_mod m (2^(-e-(s:Int)).toNat);have hp:=Nat.mod_lt m (Nat.two_pow_pos (-e-(s:Int)).toNat);generalize 2^(-e-(s:Int)).toNat=P at *
  by_cases hz:m%P=0
  .rw[if_neg (by simp[hz])];rw[Nat.mul_comm];omega
  .rw[if_pos (by simp[hz]),Nat.add_mul,Nat.one_mul,Nat.mul_comm];omega
theorem Qby{d:Dn}(he:-100000<=d.e/\d.e<=100000)(hb:bl d.m<=50000):Qa (Qa d)=Qa d:=by
 obtain⟨n,m,e⟩:=d;simp only at he hb;by_cases h0:m=0
 .subst h0;rw[Zg (d:=⟨n,0,e⟩) rfl];exact Zg rfl
 .obtain⟨k,j,hw,hd,hl⟩:=Ji (n:=n) h0 he;rw[hd];exact Wz (by omega)
theorem Fq{d:Dn}{s:Nat}{a:Bool}(sd:Sd d)(ht:Qg (Qa d)<12):Qx d s a<=2^(12+s):=by
 have hbb:=Qby (d:=d) ⟨by have:=sd.2.1;omega,by have:=sd.2.2;omega⟩ (Nat.le_trans sd.1 (by decide));unfold Qg at ht;rw[hbb]at ht;unfold Qx;generalize Qa d=D at *
 obtain⟨n,m,e⟩:=D;simp only at ht |-;by_cases h0:m=0
 .subst h0;have hp:=Nat.two_pow_pos (12+s);split
  .simp
  .simp
 rw[if_neg h0]at ht;have hlt:=Zb m;have key:∀k:Nat,(bl m:Int)+e+s<=(12+s:Nat):=fun _=>by omega
 by_cases h:0<=e+(s:Int)
 .rw[if_pos h];have h1:m*2^(e+(s:Int)).toNat<2^bl m*2^(e+(s:Int)).toNat:=Nat.mul_lt_mul_of_pos_right hlt (Nat.two_pow_pos _);rw[<-Nat.pow_add]at h1;have h2:2^(bl m+(e+(s:Int)).toNat)<=2^(12+s):=Nat.pow_le_pow_right (by decide) (by omega);exact Nat.le_trans (Nat.le_of_lt h1) h2
 .rw[if_neg h];have h3:m/2^(-e-(s:Int)).toNat<2^(12+s):=by refine Nat.div_lt_of_lt_mul ?_;rw[<-Nat.pow_add];exact Nat.lt_of_lt_of_le hlt (Nat.pow_le_pow_right (by decide) (by omega))
  split
  .exact h3
  .exact Nat.le_of_lt h3
structure Lk(Z:In)(s:Nat)(I:In)(n1 n2:Bool)(l h c d q x y:Nat):Prop where
 hn1:decide (Qe Z.lo<0)=n1
 hn2:decide (Qe Z.hi<0)=n2
 hl:Qx Z.lo s n1=l
 hh:Qx Z.hi s (!n2)=h
 ec:(Qd 1 3 s).lo+(Qd 1 3 s).lo=c
 ed:(Qd 1 3 s).hi+(Qd 1 3 s).hi=d
 hq:Mh n1 l c d=q
 hx:Mg n1 l c d q=x
 hy:Mf n1 n2 h c d q=y
 hy2:y<=2^s
 hxy:x<=y
 hk:-8193<=Yq n1 q/\Yq n1 q<=8193
 hI:I=Zm (Xj x y s).lo (Xj x y s).hi (Yq n1 q-(s:Int)) false
theorem Ou{lo hi:Nat}{e:Int}(h1:bl lo<=4000)(h2:bl hi<=4000)(he:-19000<=e/\e<=15000):QE (Zm lo hi e false):=by
 have a1:=Jg.of h1 he;have a2:=Jg.of h2 he;obtain⟨p1,p2⟩:=Uj (P:=Jg) a1 a2;refine⟨p1,p2,?_⟩;unfold Zm;have hc:=Wb (K:=20000) (by decide) a1.zk a2.zk;have hc2:=Wb (K:=20000) (by decide) a2.zk a1.zk;split
 .rename_i h;rw[hc,Xg]at h;show Qh _ _<=0;rw[hc2];apply Int.not_lt.1;rw[Xg];omega
 .rename_i h;exact Int.not_lt.1 h
def eN(d:Dn):Bool:=decide (Qe d<0)
def eQ(Z:In)(s:Nat):Nat:=Mh (eN Z.lo) (Qx Z.lo s (eN Z.lo)) ((Qd 1 3 s).lo+(Qd 1 3 s).lo) ((Qd 1 3 s).hi+(Qd 1 3 s).hi)
def eX(Z:In)(s:Nat):Nat:=Mg (eN Z.lo) (Qx Z.lo s (eN Z.lo)) ((Qd 1 3 s).lo+(Qd 1 3 s).lo) ((Qd 1 3 s).hi+(Qd 1 3 s).hi) (eQ Z s)
def eY(Z:In)(s:Nat):Nat:=Mf (eN Z.lo) (eN Z.hi) (Qx Z.hi s (!eN Z.hi)) ((Qd 1 3 s).lo+(Qd 1 3 s).lo) ((Qd 1 3 s).hi+(Qd 1 3 s).hi) (eQ Z s)
def Sp(Z:In)(s:Nat):In:=Zm (Xj (eX Z s) (eY Z s) s).lo (Xj (eX Z s) (eY Z s) s).hi (Yq (eN Z.lo) (eQ Z s)-(s:Int)) false
def Rh(Z:In)(s:Nat):Bool:=decide (Qg (Qa Z.lo)<12)&&decide (Qg (Qa Z.hi)<12)&&decide (eY Z s<=2^s)
theorem Lk.is{Z I:In}{s:Nat}{n1 n2:Bool}{l h c d q x y:Nat}(E:Lk Z s I n1 n2 l h c d q x y):I=Sp Z s:=by obtain⟨rfl,rfl,rfl,rfl,rfl,rfl,rfl,rfl,rfl,-,-,-,hI⟩:=E;exact hI
theorem Qgl{Z:In}(s1:Sd Z.lo)(s2:Sd Z.hi)(hc:Qh Z.lo Z.hi<=0)(s:Nat)(hs:8<=s/\s<=3000) :
  (∃I,QE I/\(∃n1 n2 l h c d q x y,Lk Z s I n1 n2 l h c d q x y)/\∀w u,Iv w u Z->Calls Tryz.prog 93 #[u,.int .i64 (s:Int)] w fun e w'=>∃r,e=.returned (.tuple #[r,.int .i64 0])/\Iv w' r I/\Below w.heap.size w w') \/
  Rh Z s=false/\(∀w u,Iv w u Z->Calls Tryz.prog 93 #[u,.int .i64 (s:Int)] w fun e w'=>e=.returned (.tuple #[.agg #[.bool false,.slice none 0 0,.int .i64 0,.bool false,.slice none 0 0,.int .i64 0],.int .i64 1])/\Below w.heap.size w w'):=by
 have hcc:=hc;by_cases hg:(decide (Qg (Qa Z.lo)<12)&&decide (Qg (Qa Z.hi)<12))=false
 .exact .inr ⟨by unfold Rh;rw[hg,Bool.false_and],fun w u hu=>Es hu s fun w u h=>Qd3 h s1 s2 rfl rfl hg s (by omega)⟩
 have t1:Qg (Qa Z.lo)<12:=by apply Classical.byContradiction;intro h;exact hg (by simp[h])
 have t2:Qg (Qa Z.hi)<12:=by apply Classical.byContradiction;intro h;exact hg (by simp[h])
 clear hg;obtain⟨n1,hn1⟩:∃n1,decide (Qe Z.lo<0)=n1:=⟨_,rfl⟩
 obtain⟨n2,hn2⟩:∃n2,decide (Qe Z.hi<0)=n2:=⟨_,rfl⟩
 obtain⟨l,hl⟩:∃l,Qx Z.lo s n1=l:=⟨_,rfl⟩
 obtain⟨h,hh⟩:∃h,Qx Z.hi s (!n2)=h:=⟨_,rfl⟩
 obtain⟨c,ec⟩:∃c,(Qd 1 3 s).lo+(Qd 1 3 s).lo=c:=⟨_,rfl⟩
 obtain⟨d,ed⟩:∃d,(Qd 1 3 s).hi+(Qd 1 3 s).hi=d:=⟨_,rfl⟩
 obtain⟨q,hq⟩:∃q,Mh n1 l c d=q:=⟨_,rfl⟩
 obtain⟨x,hx⟩:∃x,Mg n1 l c d q=x:=⟨_,rfl⟩
 obtain⟨y,hy⟩:∃y,Mf n1 n2 h c d q=y:=⟨_,rfl⟩
 have cl:=Ef hs.1;have co:=Qgb s;have ct:=Qga hs.2;have l1:=Fq (s:=s) (a:=n1) s1 t1;have h1:=Fq (s:=s) (a:=!n2) s2 t2;rw[hl]at l1;rw[hh]at h1;have sb1:=s1.bare;have sb2:=s2.bare;have f1:=Gq (d:=Z.lo) (s:=s) (K:=8000) (by omega) (by omega);have f2:=Gq (d:=Z.hi) (s:=s) (K:=8000) (by omega) (by omega);have g1:=Tl (d:=Z.lo) (s:=s) (K:=8000) (by omega) (by omega);have g2:=Tl (d:=Z.hi) (s:=s) (K:=8000) (by omega) (by omega);have zk1:Zk (8000:Nat) Z.lo:=⟨by have:=s1.2.1;omega,by have:=s1.2.1;omega,by have:=s1.2.2;omega⟩
 have zk2:Zk (8000:Nat) Z.hi:=⟨by have:=s2.2.1;omega,by have:=s2.2.1;omega,by have:=s2.2.2;omega⟩
 rw[Vu (by decide) zk1.1 zk1.2]at f1 g1;rw[Vu (by decide) zk2.1 zk2.2]at f2 g2;rw[Wb (K:=(8000:Nat)) (by decide) zk1 zk2]at hc;have hz:zv (8000:Nat) Z.lo<=zv (8000:Nat) Z.hi:=by apply Int.not_lt.1;intro hlt;have:=Xg.2 hlt;omega
 have m1:=Ps (8000:Nat) Z.lo;have m2:=Ps (8000:Nat) Z.hi;have n1z:n1=true↔zv (8000:Nat) Z.lo<0:=by rw[<-hn1,decide_eq_true_iff,Yv (K:=(8000:Nat)),We]
 have n2z:n2=true↔zv (8000:Nat) Z.hi<0:=by rw[<-hn2,decide_eq_true_iff,Yv (K:=(8000:Nat)),We]
 have hP:=Nat.two_pow_pos (8000-s);have hord:(n1=true->n2=true->h<=l)/\(n1=false->n2=false/\l<=h):=by
  constructor
  .intro e1 e2;have z1:=n1z.1 e1;have z2:=n2z.1 e2;rw[e1]at hl;rw[e2]at hh;rw[hl]at g1;rw[show(!true)=false from rfl]at hh;rw[hh]at f2;exact Nat.le_of_mul_le_mul_right (c:=2^(8000-s)) (by omega) hP
  .intro e1;have z1:¬zv (8000:Nat) Z.lo<0:=fun hlt=>by have:=n1z.2 hlt;rw[e1]at this;cases this
   have e2:n2=false:=by
    cases n2
    .rfl
    .have:=n2z.1 rfl;omega
   refine⟨e2,?_⟩;rw[e1]at hl;rw[e2]at hh;rw[hl]at f1;rw[show(!false)=true from rfl]at hh;rw[hh]at g2;exact Nat.le_of_mul_le_mul_right (c:=2^(8000-s)) (by omega) hP
 clear f1 f2 g1 g2 m1 m2 n1z n2z hz hP zk1 zk2 sb1 sb2;rw[ec]at cl;have e12:2^(12+s)=4096*2^s:=Nat.pow_add 2 12 s;have hcd:c<=d:=by rw[<-ec,<-ed];exact Nat.add_le_add co co
 have c0:0<c:=by have:=Nat.two_pow_pos s;omega
 have hl8:l<=8192*c:=by omega
 have hq8:q<=8193:=by
  rw[<-hq];unfold Mh;split
  .have h3:l/c<=8192:=by have:=Nat.div_le_of_le_mul (m:=l) (k:=c) (n:=8192) (by rw[Nat.mul_comm];exact hl8);exact this
   split<;>omega
  .have h3:l/d<=8192:=Nat.div_le_of_le_mul (by rw[Nat.mul_comm];exact Nat.le_trans hl8 (Nat.mul_le_mul_left _ hcd));omega
 have hlq:n1=true->l<=q*c:=by
  intro e1;rw[<-hq,e1];unfold Mh;rw[if_pos rfl];have hd:=Nat.div_add_mod l c;have hm:=Nat.mod_lt l c0;split
  .rw[Nat.mul_comm];omega
  .rw[Nat.add_mul,Nat.one_mul,Nat.mul_comm];omega
 have hqcd:q*c<=q*d:=Nat.mul_le_mul_left _ hcd;have hql:n1=false->q*d<=l/\l%d=l-q*d:=by
  intro e1;have e2:q=l/d:=by rw[<-hq,e1];rfl
  have hd:=Nat.div_add_mod l d;rw[e2,Nat.mul_comm];omega
 have bs:∀v:Nat,v<=2^(12+s)->bl v<=4000:=fun v hv=>Nat.le_trans (Zp (k:=12+s+1) (Nat.lt_of_le_of_lt hv (Nat.pow_lt_pow_right (by decide) (by omega)))) (by omega);have bt:∀v:Nat,v<=2^(s+12)->bl v<=4000:=fun v hv=>bs v (by rw[Nat.add_comm];exact hv);have b1:bl (Qd 1 3 s).lo<=4000:=bt _ (Nat.le_trans co ct);have b2:bl (Qd 1 3 s).hi<=4000:=bt _ ct;have bc:bl c<=4001:=by rw[<-ec];exact Cp b1 b1
 have bd:bl d<=4001:=by rw[<-ed];exact Cp b2 b2
 have bq:bl q<=64:=Zs (by omega);have hxy:x<=y:=by
  rw[<-hx,<-hy];unfold Mg Mf;cases n1
  .obtain⟨e2,h3⟩:=hord.2 rfl;obtain⟨h4,h5⟩:=hql rfl;rw[if_neg (by simp),if_neg (by simp),h5];omega
  .rw[if_pos rfl,if_pos rfl];have h3:=hlq rfl;unfold Gh;cases n2
   .rw[if_neg (by simp)];omega
   .have h4:=hord.1 rfl rfl;rw[if_pos rfl];omega
 have hk:-8193<=Yq n1 q/\Yq n1 q<=8193:=by unfold Yq;split<;>omega
 have hmn:∀PP:Ending->World->Prop,∀w u,Iv w u Z->(∀w' u v,y<=2^s->Dg w' u x->Dg w' v y->Below w.heap.size w w'->PP (.returned (.tuple #[.int .i64 (Yq n1 q),u,v,.int .i64 0])) w') ->
   (∀w',2^s<y->Below w.heap.size w w'->PP (.returned (.tuple #[.int .i64 0,.slice none 0 0,.slice none 0 0,.int .i64 1])) w')->Calls Tryz.prog 133 #[u,.int .i64 (s:Int)] w PP:=by
  intro PP w u hu ok bad;refine Qhf hu s1 s2 ?_ t1 t2 hn1 hn2 s (by omega) hl hh ec ed (Nat.le_trans b1 (by decide)) (Nat.le_trans b2 (by decide)) (Nat.le_trans (bs _ l1) (by decide)) (Nat.le_trans (bs _ h1) (by decide)) (by omega) (by omega) c0 (by omega) hq (by omega) hx hy hlq ?_ ?_ (Nat.le_trans (Wv q c) (by omega)) (Nat.le_trans (Wv q d) (by omega)) ok bad
  .exact hcc
  .intro e1 e2;exact Nat.le_trans (hord.1 e1 e2) (Nat.le_trans (hlq e1) hqcd)
  .intro e1;exact⟨(hord.2 e1).1,Nat.le_trans hqcd (Nat.le_trans (hql e1).1 (hord.2 e1).2)⟩
 by_cases hy2:y<=2^s
 .left;have hx2:x<=2^s:=Nat.le_trans hxy hy2;have he:=Ek hx2 hy2;have hp:=Qay hs.2;have x1:=bt _ (Nat.le_trans he.1 hp);have x2:=bt _ (Nat.le_trans he.2 hp);refine⟨_,Ou x1 x2 (by omega),⟨n1,n2,l,h,c,d,q,x,y,hn1,hn2,hl,hh,ec,ed,hq,hx,hy,hy2,hxy,hk,rfl⟩,fun w u hu=>?_⟩;exact Qg8 hu s (by omega) (by omega) (fun w u hu=>hmn _ w u hu (fun w' u v _ h1 h2 h3=>⟨u,v,rfl,h1,h2,h3⟩) (fun w' hlt _=>absurd hy2 (by omega))) hxy hy2 (Nat.le_trans x1 (by decide)) (Nat.le_trans x2 (by decide))
 .right;have ey:eY Z s=y:=by unfold eY eQ eN;rw[hn1,hn2,hl,hh,ec,ed,hq,hy]
  refine⟨by unfold Rh;rw[ey,decide_eq_false hy2,Bool.and_false],?_⟩;exact fun w u hu=>Es hu s fun w u hu=>hmn _ w u hu (fun w' u v hle _ _ _=>absurd hle hy2) (fun w' _ hb=>⟨rfl,hb⟩)
def Xz(x y:Dn)(s:Nat):In:=Pu (Xv (Qa x).m (Qg (Qa x)) s) ⟨y,y⟩
def Ll(Z:In)(s:Nat)(sg z:Int)(B:Nat)(f:Int):Prop :=
 (0<=Qh Z.lo (Qk 710)/\B=Xm z)\/(Qh Z.hi (Qk (-746))<=0/\B=Jc z)\/(sg=1/\Qh Z.hi Qv<0/\(B:Int)=Ki z)\/(sg=-1/\0<Qh Z.lo (Xa Qv)/\(B:Int)=Kj z) \/
 ∃I,(∃n1 n2 l h c d q x y,Lk Z s I n1 n2 l h c d q x y)/\QE I/\I.lo.m≠0/\I.hi.m≠0/\B=Xk I.lo.m I.lo.e false z/\B=Xk I.hi.m I.hi.e false z/\f=Wh I.lo.m I.lo.e false z
def PPc(x y:Dn)(z:Int)(s:Nat)(B:Nat)(f:Int)(ok:Bool):Prop:=(ok=true->f≠0/\Ll (Xz x y s) s (Ze x y) z B f)/\(ok=false->Rh (Xz x y s) s=false\/Gg (Sp (Xz x y s) s) z=false)
structure Yo(x y:Dn):Prop where
 xneg:(Qa x).neg=false
 x0:(Qa x).m≠0
 hE:(Xl (Qa x).m (Qg (Qa x))).natAbs<=2048
 yv:Vb 1130 3000 y
 yb:bl y.m<=60
theorem E8{x y:Dn}(h:Yo x y){s:Nat}(hs:8<=s/\s<=2400) :
  (Sd (Xv (Qa x).m (Qg (Qa x)) s).lo/\Sd (Xv (Qa x).m (Qg (Qa x)) s).hi/\Qh (Xv (Qa x).m (Qg (Qa x)) s).lo (Xv (Qa x).m (Qg (Qa x)) s).hi<=0/\Qh y y<=0) /\
  Sd (Xz x y s).lo/\Sd (Xz x y s).hi/\Qh (Xz x y s).lo (Xz x y s).hi<=0:=by
 obtain⟨l1,l2,l3,-,-⟩:=Re (t:=Qg (Qa x)) h.x0 h.hE (by omega:s<=3000);unfold Xz;generalize Xv (Qa x).m (Qg (Qa x)) s=L at *
 obtain⟨L1,L2⟩:=L;simp only at l1 l2 l3 |-;have yv:=h.yv;have yb:=h.yb;have cle:∀{K:Nat} {a b:Dn},Zk K a->Zk K b->zv K a<=zv K b->Qh a b<=0:=by intro K a b ha hb hle;rw[Wb (K:=K) (by omega) ha hb];apply Int.not_lt.1;rw[Xg];omega
 have zl1:=l1.zk (by omega) (by omega);have zl2:=l2.zk (by omega) (by omega);have sdL:∀d,Vb s (s+25) d->Sd d:=fun d hd=>⟨by have:=hd.bl;omega,by have:=hd.lo;omega,by have:=hd.hi;omega⟩
 refine⟨⟨sdL _ l1,sdL _ l2,cle zl1 zl2 l3,cle (yv.zk (by decide) (by decide)) (yv.zk (by decide) (by decide)) (Int.le_refl _)⟩,?_⟩;obtain⟨p1,-,p2⟩:=l1.mul yv (by omega) (by omega) (by decide) (by decide);obtain⟨q1,-,q2⟩:=l2.mul yv (by omega) (by omega) (by decide) (by decide);have bl1:=l1.bl;have bl2:=l2.bl;have P1:Vb (s+1130) (s+25+3000) (Xw L1 y)/\bl (Xw L1 y).m<=s+90:=⟨p1,by omega⟩
 have P2:Vb (s+1130) (s+25+3000) (Xw L2 y)/\bl (Xw L2 y).m<=s+90:=⟨q1,by omega⟩
 have sdZ:∀d,Vb (s+1130) (s+25+3000) d/\bl d.m<=s+90->Sd d:=fun d hd=>⟨by have:=hd.2;omega,by have:=hd.1.lo;omega,by have:=hd.1.hi;omega⟩
 have M1:=D9 (P:=fun d=>Vb (s+1130) (s+25+3000) d/\bl d.m<=s+90) P1 P1 P2 P2;have M2:=Ca (P:=fun d=>Vb (s+1130) (s+25+3000) d/\bl d.m<=s+90) P1 P1 P2 P2;have z1:=P1.1.zk (by omega) (by omega);have z2:=P2.1.zk (by omega) (by omega);have hle:=Dz (K:=((s+1130:Nat):Int)) (by omega) z1 z1 z2 z2;unfold Pu;simp only;exact⟨sdZ _ M1,sdZ _ M2,cle (M1.1.zk (by omega) (by omega)) (M2.1.zk (by omega) (by omega)) hle⟩
theorem Qeh{w:World}{u:Value}{x y:Dn}{N:Nat}{z tt:Int}{PP:Nat->Int->Bool->Prop}{Z:In}{b s:Nat}(hu:Ag w u x y N z tt)(hz:0<=z/\z<=3)(hs:Ze x y=1\/Ze x y=-1)
  (cl:∀w u,Ag w u x y N z tt->Calls Tryz.prog 90 #[u,.int .i64 (b:Int)] w fun e w'=>∃r,e=.returned (.tuple #[r,.int .i64 (s:Int),.int .i64 0])/\Iv w' r Z/\Below w.heap.size w w')
  (d1:Sd Z.lo) (d2:Sd Z.hi) (d3:Qh Z.lo Z.hi<=0) (hs3:8<=s/\s<=3000)
  (hP:∀B f,f≠0->Ll Z s (Ze x y) z B f->PP B f true) (hN:∀B f,(Rh Z s=false\/Gg (Sp Z s) z=false)->PP B f false) :
  Calls Tryz.prog 45 #[u,.int .i64 (Ze x y),.int .i64 (b:Int)] w (Jo PP QE w):=by
 have s0:Ze x y≠0:=by omega
 by_cases c1:0<=Qh Z.lo (Qk 710)
 .exact Sz (B:=Xm z) (f:=5) hu cl (fun w u h=>Qhk h d1 d2 d3 c1 s0) rfl (fun w t=>Bx z hz) (hP _ _ (by decide) (.inl ⟨c1,rfl⟩))
 have c1':Qh Z.lo (Qk 710)<0:=by omega
 by_cases c2:Qh Z.hi (Qk (-746))<=0
 .exact Sz (B:=Jc z) (f:=3) hu cl (fun w u h=>Qea h d1 d2 d3 c1' c2 s0) rfl (fun w t=>Be z hz) (hP _ _ (by decide) (.inr (.inl ⟨c2,rfl⟩)))
 have c2':0<Qh Z.hi (Qk (-746)):=by omega
 have opn:(∀w u,Iv w u Z->Calls Tryz.prog 91 #[u,.int .i64 (Ze x y)] w fun e w'=>e=.returned (.int .i64 0)/\Below w.heap.size w w')->Calls Tryz.prog 45 #[u,.int .i64 (Ze x y),.int .i64 (b:Int)] w (Jo PP QE w):=by
  intro cb;rcases Qgl d1 d2 d3 s hs3 with⟨I,qi,he,cx⟩|⟨hx,cx⟩
  .obtain⟨B,f,o,cd,h1,h2⟩:=Qav qi.1 qi.2.1 qi.2.2 z hz;refine Qfi hu cl cb cx cd ?_ (fun ho=>⟨(h2 ho).1,(h2 ho).2.1,qi⟩);cases o
   .obtain⟨n1,n2,l,h,c,d,q,a,b,E⟩:=he;exact hN _ _ (.inr (by rw[<-E.is];exact(h2 rfl).2.2))
   .have k:=h1 rfl;exact hP _ _ k.1 (.inr (.inr (.inr (.inr ⟨I,he,qi,k.2.2.1,k.2.2.2.1,k.2.2.2.2.1,k.2.2.2.2.2,k.2.1⟩))))
  .exact Qfj hu cl cb cx (hN _ _ (.inl hx)) ⟨Jg.zero,Jg.zero,of_decide_eq_true (by kernel_rfl)⟩
 rcases hs with hs|hs
 .rw[hs]at opn |-;by_cases c3:Qh Z.hi Qv<0
  .have hm:Ki z=((Ki z).toNat:Int):=by unfold Ki;split<;>rfl
   refine Sz (B:=(Ki z).toNat) (f:=1) hu cl (fun w u h=>Qhm h d1 d2 d3 c1' c2' c3) rfl (fun w t=>?_) (hP _ _ (by decide) (.inr (.inr (.inl ⟨hs,c3,hm.symm⟩))));rw[<-hm];exact By t z hz
  .exact opn (fun w u h=>Qhl h d1 d2 d3 c1' c2' (by omega))
 .rw[hs]at opn |-;by_cases c3:0<Qh Z.lo (Xa Qv)
  .have hm:Kj z=((Kj z).toNat:Int):=by unfold Kj;split<;>rfl
   refine Sz (B:=(Kj z).toNat) (f:=1) hu cl (fun w u h=>Qho h d1 d2 d3 c1' c2' c3) rfl (fun w t=>?_) (hP _ _ (by decide) (.inr (.inr (.inr (.inl ⟨hs,c3,hm.symm⟩)))));rw[<-hm];exact B8 t z hz
  .exact opn (fun w u h=>Qeb h d1 d2 d3 c1' c2' (by omega))
theorem Qfk{w:World}{u:Value}{x y:Dn}{z tt:Int}(hu:Ag w u x y 1 z tt)(ok:Kq x y 1 z tt)(nu:Yo x y)(hs:Ze x y=1\/Ze x y=-1)(b:Nat)(hb1:64<=b)(hb2:b<=1024){s:Nat}(hsc:Vp y b=(s:Int)) :
  Calls Tryz.prog 45 #[u,.int .i64 (Ze x y),.int .i64 (b:Int)] w (Jo (PPc x y z s) QE w):=by
 have ht:=ok.ty;rw[ok.yb]at ht;have hsb:8<=s/\s<=2400:=by unfold Vp at hsc;split at hsc<;>omega
 obtain⟨⟨s1,s2,r1,r2⟩,d1,d2,d3⟩:=E8 nu hsb;exact Qeh hu ok.hz hs (fun w u h=>Qju h ok nu.xneg nu.x0 b ⟨hb1,hb2⟩ ht s hsc (by omega) s1 s2 r1 r2) d1 d2 d3 (by omega) (fun B f h1 h2=>⟨fun _=>⟨h1,h2⟩,nofun⟩) (fun B f h=>⟨nofun,fun _=>h⟩)
open Rl
def val(m:Nat)(e:Int):Rat:=(m:Rat)*(2:Rat)^e
def rv(d:Dn):Rat:=if d.neg then -val d.m d.e else val d.m d.e
theorem Yg(e:Int):(0:Rat)<(2:Rat)^e:=Rat.zpow_pos (by decide)
theorem Va(a b:Int):(2:Rat)^(a+b)=(2:Rat)^a*(2:Rat)^b:=Rat.zpow_add (by decide) a b
theorem Wj(n:Nat):(2:Rat)^(n:Int)=(2:Rat)^n:=Rat.zpow_natCast 2 n
theorem Kv(n:Nat):(2:Rat)^(-(n:Int))=1/(2:Rat)^n:=by rw[Rat.zpow_neg,Wj,Rat.div_def,Rat.one_mul]
theorem Qk2{e:Int}(h:0<=e):(2:Rat)^e.toNat=(2:Rat)^e:=by rw[<-Wj,Int.toNat_of_nonneg h]
theorem To(a:Rat)(m n:Nat):a^(m+n)=a^m*a^n:=by
 induction n with
 | zero=>rw[Nat.add_zero,Rat.pow_zero,Rat.mul_one]
 | succ n ih=>rw[<-Nat.add_assoc,Rat.pow_succ,ih,Rat.pow_succ,Rat.mul_assoc]
theorem Qhz(m:Nat)(e:Int):0<=val m e:=Rat.mul_nonneg (nn m) (Rat.le_of_lt (Yg e))
theorem Kg{m:Nat}(h:m≠0)(e:Int):0<val m e:=Rat.mul_pos (by exact_mod_cast Nat.pos_of_ne_zero h) (Yg e)
theorem Sk{K:Nat}{d:Dn}(h:-(K:Int)<=d.e):((mz K d:Nat):Rat)=val d.m d.e*(2:Rat)^K:=by unfold mz val;push_cast;rw[Qk2 (by omega),Va,Wj];grind
theorem Gb{K:Nat}{d:Dn}(h:-(K:Int)<=d.e):((zv K d:Int):Rat)=rv d*(2:Rat)^K:=by
 have:=Sk h;unfold zv rv;split
 .push_cast;rw[this];grind
 .push_cast;rw[this]
theorem Ic{K:Nat}{a b:Dn}(ha:-(K:Int)<=a.e)(hb:-(K:Int)<=b.e):rv a<=rv b↔zv K a<=zv K b:=by
 have h1:=Gb ha;have h2:=Gb hb;have hp:=Zl K;constructor
 .intro h;have h3:=Rat.mul_le_mul_of_nonneg_right h (Rat.le_of_lt hp);rw[<-h1,<-h2]at h3;exact_mod_cast h3
 .intro h;have h3:((zv K a:Int):Rat)<=((zv K b:Int):Rat):=by exact_mod_cast h
  rw[h1,h2]at h3;exact Rat.le_of_mul_le_mul_right h3 hp
theorem Yx{d:Dn}(he:-2147483648<=d.e/\d.e<=2147483648):rv (Qa d)=rv d:=by
 obtain⟨K,hK⟩:∃K:Nat,K=2147483648:=⟨_,rfl⟩
 have h0:-(K:Int)<=d.e:=by omega
 have h1:=Kx (K:=(K:Int)) (d:=d) (by omega) h0 he;have h2:=Ut (K:=(K:Int)) (d:=d) (by omega) h0 he;exact Rat.le_antisymm ((Ic h2 h0).2 (by omega)) ((Ic h0 h2).2 (by omega))
theorem Gf{K:Nat}{a b:Dn}(ha:Zk K a)(hb:Zk K b):rv a<=rv b↔zv K a<=zv K b:=Ic ha.1 hb.1
theorem Ww{K:Nat}{a b:Dn}(ha:Zk K a)(hb:Zk K b):(Qh a b<=0↔rv a<=rv b)/\(0<=Qh a b↔rv b<=rv a):=by rw[Gf ha hb,Gf hb ha,Wb (by omega) ha hb];have h1:=@We (zv K a) (zv K b);have h2:=@Xg (zv K a) (zv K b);omega
theorem Ep{n:Bool}{m:Nat}{e:Int}(he:-100000<=e/\e<=100000)(hb:bl m<=100000):Zk (2147483648:Nat) (Qa ⟨n,m,e⟩):=by
 by_cases h0:m=0
 .subst h0;rw[Zg (d:=⟨n,0,e⟩) rfl];exact⟨by decide,by decide,by decide⟩
 .obtain⟨k,j,hw,hd,hl⟩:=Ji (n:=n) h0 he;rw[hd];exact⟨by show -2147483648<=e+(k:Int);omega,by show -2147483648<=e+(k:Int);omega,by show e+(k:Int)<=2147483648;omega⟩
theorem Gc{lo hi:Nat}{e:Int}{neg:Bool}(he:-100000<=e/\e<=100000)(b1:bl lo<=100000)(b2:bl hi<=100000) :
  rv (Zm lo hi e neg).lo<=rv ⟨neg,lo,e⟩/\rv (Zm lo hi e neg).lo<=rv ⟨neg,hi,e⟩/\rv ⟨neg,lo,e⟩<=rv (Zm lo hi e neg).hi/\rv ⟨neg,hi,e⟩<=rv (Zm lo hi e neg).hi:=by
 have e1:=Yx (d:=⟨neg,lo,e⟩) ⟨by show _<=e;omega,by show e<=_;omega⟩;have e2:=Yx (d:=⟨neg,hi,e⟩) ⟨by show _<=e;omega,by show e<=_;omega⟩;have z1:=Ep (n:=neg) he b1;have z2:=Ep (n:=neg) he b2;rw[<-e1,<-e2];unfold Zm;have c:=(Ww z1 z2).1;have c':=(Ww z1 z2).2;split
 .rename_i h;have:=c'.1 (by omega);exact⟨this,Rat.le_refl,Rat.le_refl,this⟩
 .rename_i h;have:=c.1 (by omega);exact⟨Rat.le_refl,this,this,Rat.le_refl⟩
theorem Iy{num den s:Nat}(h:0<den)(h3:num*3<=den){r:Rat}(hr:r=((den:Rat)+(num:Rat))/((den:Rat)-(num:Rat))) :
  P ((((Qd num den s).lo*2:Nat):Rat)/(2:Rat)^s) r/\Q ((((Qd num den s).hi*2:Nat):Rat)/(2:Rat)^s) r:=by
 obtain⟨⟨m,h1⟩,h2⟩:=Ix (s:=s) h h3;have hd:(0:Rat)<(den:Rat):=by exact_mod_cast h
 have hn:(0:Rat)<=(num:Rat):=nn num;have h3':(num:Rat)*3<=(den:Rat):=by exact_mod_cast h3
 have h0:0<=(num:Rat)/(den:Rat):=Wt hn (Rat.le_of_lt hd);have he:(num:Rat)/(den:Rat)*(den:Rat)=(num:Rat):=by grind
 have ht:(num:Rat)/(den:Rat)*3<=1:=by
  have e:(num:Rat)/(den:Rat)*3=((num:Rat)*3)/(den:Rat):=by rw[Rat.div_def,Rat.div_def];grind
  rw[e,<-Rat.not_lt,Rat.lt_div_iff hd,Rat.not_lt];grind
 have hrr:r=(1+(num:Rat)/(den:Rat))/(1-(num:Rat)/(den:Rat)):=by
  rw[hr];generalize (num:Rat)/(den:Rat)=t at *
  rw[<-he];have:(den:Rat)-t*(den:Rat)≠0:=by grind
  have:1-t≠0:=by grind
  grind
 have hp:=Zl s;rw[hrr];generalize (num:Rat)/(den:Rat)=t at *
 generalize (2:Rat)^s=q at *
 refine⟨(Qkd h0 (by grind) m).le_z ?_,Qkc h0 (by grind) fun n=>?_⟩
 .rw[<-Rat.not_lt,Rat.lt_div_iff hp,Rat.not_lt];push_cast;generalize Ls t m=L at *
  grind
 .have:=h2 n;rw[Jh hp];push_cast;generalize Ls t n=L at *
  grind
theorem Ib{n:Bool}{m s:Nat}:rv ⟨n,m,-(s:Int)⟩=if n then -((m:Rat)/(2:Rat)^s)else(m:Rat)/(2:Rat)^s:=by
 unfold rv val;simp only;rw[Kv];have e:(m:Rat)*(1/(2:Rat)^s)=(m:Rat)/(2:Rat)^s:=by rw[Rat.div_def,Rat.div_def];grind
 rw[e]
theorem Uh{a k:Nat}(h:a<=2^k)(hk:k<=4000):bl a<=100000:=Nat.le_trans (Zp (k:=k+1) (Nat.lt_of_le_of_lt h (Nat.pow_lt_pow_right (by decide) (by omega)))) (by omega)
theorem Qez{num den s:Nat}(h:0<den)(h3:num*3<=den)(hs:s<=3000):bl ((Qd num den s).lo*2)<=100000/\bl ((Qd num den s).hi*2)<=100000:=by have h:=Kb (num:=num) (den:=den) (s:=s) (by omega) h3;have h2:=Mr hs;have h4:2^(s+12)*2=2^(s+13):=(Nat.pow_succ (n:=2) (m:=s+12)).symm;exact⟨Uh (k:=s+13) (Nat.le_trans (Nat.mul_le_mul_right 2 (Nat.le_trans h.1 h2)) (Nat.le_of_eq h4)) (by omega),Uh (k:=s+13) (Nat.le_trans (Nat.mul_le_mul_right 2 (Nat.le_trans h.2 h2)) (Nat.le_of_eq h4)) (by omega)⟩
theorem Qf8{m s:Nat}(h0:m≠0)(hs:s<=3000):P (rv (Vk m s).lo) ((m:Rat)/(Qs m:Rat))/\Q (rv (Vk m s).hi) ((m:Rat)/(Qs m:Rat)):=by
 obtain⟨g1,g2,g3⟩:=Tr h0;have hm:(0:Rat)<(m:Rat):=by exact_mod_cast Nat.pos_of_ne_zero h0
 unfold Vk;generalize Qs m=o at *
 have ho:(0:Rat)<(o:Rat):=by exact_mod_cast g2
 by_cases hlt:m<o
 .rw[if_pos hlt]at g1 |-;rw[decide_eq_true hlt];obtain⟨p,q⟩:=Iy (num:=o-m) (den:=m+o) (s:=s) (by omega) g1 (r:=(o:Rat)/(m:Rat)) (by
   have e:((o-m:Nat):Rat)=(o:Rat)-(m:Rat):=by
    have:((o-m:Nat):Rat)+(m:Rat)=(o:Rat):=by exact_mod_cast (by omega:o-m+m=o)
    grind
   rw[e];push_cast;have:(m:Rat)+(o:Rat)-((o:Rat)-(m:Rat))≠0:=by grind
   grind)
  obtain⟨bb1,bb2⟩:=Qez (num:=o-m) (den:=m+o) (s:=s) (by omega) g1 hs;obtain⟨w1,w2,w3,w4⟩:=Gc (lo:=(Qd (o-m) (m+o) s).lo*2) (hi:=(Qd (o-m) (m+o) s).hi*2) (e:=-(s:Int)) (neg:=true) (by omega) bb1 bb2;rw[Ib,if_pos rfl]at w1 w2 w3 w4;have e:1/((o:Rat)/(m:Rat))=(m:Rat)/(o:Rat):=by grind
  have p':=p.neg;have q':=q.neg;rw[e]at p' q';exact⟨q'.le_z w2,p'.le_z w3⟩
 .rw[if_neg hlt]at g1 |-;rw[decide_eq_false hlt];obtain⟨p,q⟩:=Iy (num:=m-o) (den:=m+o) (s:=s) (by omega) g1 (r:=(m:Rat)/(o:Rat)) (by
   have e:((m-o:Nat):Rat)=(m:Rat)-(o:Rat):=by
    have:((m-o:Nat):Rat)+(o:Rat)=(m:Rat):=by exact_mod_cast (by omega:m-o+o=m)
    grind
   rw[e];push_cast;have:(m:Rat)+(o:Rat)-((m:Rat)-(o:Rat))≠0:=by grind
   grind)
  obtain⟨bb1,bb2⟩:=Qez (num:=m-o) (den:=m+o) (s:=s) (by omega) g1 hs;obtain⟨w1,w2,w3,w4⟩:=Gc (lo:=(Qd (m-o) (m+o) s).lo*2) (hi:=(Qd (m-o) (m+o) s).hi*2) (e:=-(s:Int)) (neg:=false) (by omega) bb1 bb2;rw[Ib,if_neg (by simp)]at w1 w2 w3 w4;exact⟨p.le_z w1,q.le_z w4⟩
theorem Qis(s:Nat):P ((((Qd 1 3 s).lo+(Qd 1 3 s).lo:Nat):Rat)/(2:Rat)^s) 2/\Q ((((Qd 1 3 s).hi+(Qd 1 3 s).hi:Nat):Rat)/(2:Rat)^s) 2:=by have:=Iy (num:=1) (den:=3) (s:=s) (by decide) (by decide) (r:=2) (by push_cast;grind);rwa[Nat.mul_two,Nat.mul_two]at this
theorem My(s n:Nat):P ((((Qd 1 3 s).lo+(Qd 1 3 s).lo)*n:Nat)/(2:Rat)^s) ((2:Rat)^n)/\Q ((((Qd 1 3 s).hi+(Qd 1 3 s).hi)*n:Nat)/(2:Rat)^s) ((2:Rat)^n):=by
 obtain⟨p,q⟩:=Qis s;generalize (Qd 1 3 s).lo+(Qd 1 3 s).lo=c at *
 generalize (Qd 1 3 s).hi+(Qd 1 3 s).hi=d at *
 have p':=p.pow n;have q':=q.pow n;have e:∀c:Nat,(n:Rat)*((c:Rat)/(2:Rat)^s)=((c*n:Nat):Rat)/(2:Rat)^s:=fun c=>by push_cast;rw[Rat.div_def,Rat.div_def];grind
 rw[e]at p' q';exact⟨p',q'⟩
theorem Qf7{E:Int}{s:Nat}(hE:E.natAbs<=2048)(hs:s<=3000):P (rv (Vj E s).lo) ((2:Rat)^E)/\Q (rv (Vj E s).hi) ((2:Rat)^E):=by
 have hb:bl (((Qd 1 3 s).lo+(Qd 1 3 s).lo)*E.natAbs)<=100000/\bl (((Qd 1 3 s).hi+(Qd 1 3 s).hi)*E.natAbs)<=100000:=by have h:=Kb (num:=1) (den:=3) (s:=s) (by decide) (by decide);have h2:=Mr hs;have h3:=p24 s;exact⟨Uh (Nat.le_trans (Nat.mul_le_mul (Nat.add_le_add (Nat.le_trans h.1 h2) (Nat.le_trans h.1 h2)) hE) (Nat.le_of_eq h3)) (by omega),Uh (Nat.le_trans (Nat.mul_le_mul (Nat.add_le_add (Nat.le_trans h.2 h2) (Nat.le_trans h.2 h2)) hE) (Nat.le_of_eq h3)) (by omega)⟩
 obtain⟨p,q⟩:=My s E.natAbs;unfold Vj;generalize ((Qd 1 3 s).lo+(Qd 1 3 s).lo)*E.natAbs=c at *
 generalize ((Qd 1 3 s).hi+(Qd 1 3 s).hi)*E.natAbs=d at *
 obtain⟨w1,w2,w3,w4⟩:=Gc (lo:=c) (hi:=d) (e:=-(s:Int)) (neg:=decide (E<0)) (by omega) hb.1 hb.2;rw[Ib]at w1 w2 w3 w4;by_cases h:E<0
 .rw[decide_eq_true h]at *
  rw[if_pos rfl]at w1 w2 w3 w4;have e:(2:Rat)^E=1/(2:Rat)^E.natAbs:=by rw[<-Kv];congr 1;omega
  rw[e];exact⟨q.neg.le_z w2,p.neg.le_z w3⟩
 .rw[decide_eq_false h]at *
  rw[if_neg (by simp)]at w1 w2 w3 w4;have e:(2:Rat)^E=(2:Rat)^E.natAbs:=by rw[<-Wj];congr 1;omega
  rw[e];exact⟨p.le_z w1,q.le_z w4⟩
theorem Yy(n:Nat):((2^n:Nat):Rat)=(2:Rat)^(n:Int):=by rw[Xt,Wj]
theorem Qc3{m:Nat}{e:Int}(h0:m≠0):(m:Rat)/(Qs m:Rat)*(2:Rat)^(Xl m ((bl m:Int)-1+e))=val m e:=by
 have hb:0<bl m:=by rw[Zi h0];omega
 have key:∀(o:Nat) (E:Int),(o:Rat)=(2:Rat)^(E-e)->(m:Rat)/(o:Rat)*(2:Rat)^E=val m e:=fun o E h=>by
  rw[h];unfold val;have h1:(2:Rat)^E=(2:Rat)^(E-e)*(2:Rat)^e:=by rw[<-Va];congr 1;omega
  rw[h1];have h2:=Yg (E-e);grind
 unfold Qs Xl;split
 .refine key _ _ ?_;rw[show 2^(bl m-1)+2^(bl m-1)=2^(bl m)by rw[<-Nat.mul_two,<-Nat.pow_succ];congr 1;omega,Yy];congr 1;omega
 .refine key _ _ ?_;rw[Yy];congr 1;omega
theorem Qiq{m s:Nat}{e:Int}(h0:m≠0)(hE:(Xl m ((bl m:Int)-1+e)).natAbs<=2048)(hs:s<=3000) :
  P (rv (Xv m ((bl m:Int)-1+e) s).lo) (val m e)/\Q (rv (Xv m ((bl m:Int)-1+e) s).hi) (val m e):=by
 obtain⟨v1,v2,-,v3,v4⟩:=Re h0 hE hs;obtain⟨x1,x2,-⟩:=Ee h0 hs;obtain⟨y1,y2,-⟩:=Ed hE hs;obtain⟨p1,q1⟩:=Qf8 (s:=s) h0 hs;obtain⟨p2,q2⟩:=Qf7 (E:=Xl m ((bl m:Int)-1+e)) hE hs;rw[<-Qc3 h0];generalize Xv m ((bl m:Int)-1+e) s=L at *
 generalize Vk m s=X at *
 generalize Vj (Xl m ((bl m:Int)-1+e)) s=Y at *
 have key:∀a b c:Dn,Vb s (s+25) a->Vb s (s+13) b->Vb s (s+24) c->zv s a=zv s b+zv s c->rv a=rv b+rv c:=fun a b c ha hb hc h=>by have h1:=Gb ha.lo;have h2:=Gb hb.lo;have h3:=Gb hc.lo;rw[h]at h1;push_cast at h1;rw[h2,h3]at h1;have:=Zl s;grind
 rw[key _ _ _ v1 x1 y1 v3,key _ _ _ v2 x2 y2 v4];exact⟨p1.add p2,q1.add q2⟩
theorem Ar{K p K' p':Nat}{a c:Dn}(ha:Vb K p a)(hc:Vb K' p' c)(hK:K<=20000)(hp:p<=20000)(hK':K'<=20000)(hp':p'<=20000):rv (Xw a c)=rv a*rv c:=by
 obtain⟨h1,h2,-⟩:=ha.mul hc hK hp hK' hp';have e1:=Gb h1.lo;have e2:=Gb ha.lo;have e3:=Gb hc.lo;rw[h2]at e1;push_cast at e1;rw[e2,e3,To]at e1;have t1:=Zl K;have t2:=Zl K';generalize (2:Rat)^K=k1 at *
 generalize (2:Rat)^K'=k2 at *
 have:0<k1*k2:=Rat.mul_pos t1 t2;have e4:rv (Xw a c)*(k1*k2)=rv a*rv c*(k1*k2):=by rw[<-e1];grind
 exact Rat.le_antisymm (Rat.le_of_mul_le_mul_right (Vn e4) this) (Rat.le_of_mul_le_mul_right (Vn e4.symm) this)
theorem Qf5{K:Nat}{a b c d:Dn}(ha:Zk K a)(hb:Zk K b)(hc:Zk K c)(hd:Zk K d):rv (Yj a b c d)<=rv a/\rv (Yj a b c d)<=rv c/\rv a<=rv (Yl a b c d)/\rv c<=rv (Yl a b c d):=by
 have hK:(0:Int)<=K:=by omega
 have l1:=Uc hK hb ha;have z1:Zk K (Z9 b a):=Wy hb ha;have l2:=Uc hK hc z1;have z2:Zk K (Z9 c (Z9 b a)):=Wy hc z1;have l3:=Uc hK hd z2;have m1:=Ub hK hb ha;have y1:Zk K (Z8 b a):=Wx hb ha;have m2:=Ub hK hc y1;have y2:Zk K (Z8 c (Z8 b a)):=Wx hc y1;have m3:=Ub hK hd y2;have e1:Yj a b c d=Z9 d (Z9 c (Z9 b a)):=rfl;have e2:Yl a b c d=Z8 d (Z8 c (Z8 b a)):=rfl;have z3:Zk K (Yj a b c d):=Wy hd z2;have y3:Zk K (Yl a b c d):=Wx hd y2;rw[Gf z3 ha,Gf z3 hc,Gf ha y3,Gf hc y3,e1,e2];omega
theorem Ah{x:Dn}(h:Qa (Qa x)=Qa x)(h0:(Qa x).m≠0):Qg (Qa x)=(bl (Qa x).m:Int)-1+(Qa x).e:=by unfold Qg;rw[h,if_neg h0]
theorem Qhy{x y:Dn}(h:Yo x y)(hx:Qa (Qa x)=Qa x){s:Nat}(hs:s<=3000):∃L1 L2:Rat,P L1 (val (Qa x).m (Qa x).e)/\Q L2 (val (Qa x).m (Qa x).e) /\
  rv (Xz x y s).lo<=L1*rv y/\rv (Xz x y s).lo<=L2*rv y/\L1*rv y<=rv (Xz x y s).hi/\L2*rv y<=rv (Xz x y s).hi:=by
 have hE:=h.hE;rw[Ah hx h.x0]at hE;obtain⟨p,q⟩:=Qiq (s:=s) h.x0 hE hs;obtain⟨l1,l2,-⟩:=Re h.x0 hE hs;unfold Xz;rw[Ah hx h.x0];generalize Xv (Qa x).m ((bl (Qa x).m:Int)-1+(Qa x).e) s=L at *
 obtain⟨L1,L2⟩:=L;simp only at p q l1 l2 |-;have yv:=h.yv;refine⟨_,_,p,q,?_⟩;rw[<-Ar l1 yv (by omega) (by omega) (by omega) (by omega),<-Ar l2 yv (by omega) (by omega) (by omega) (by omega)];obtain⟨p1,-,-⟩:=l1.mul yv (by omega) (by omega) (by decide) (by decide);obtain⟨q1,-,-⟩:=l2.mul yv (by omega) (by omega) (by decide) (by decide);have z1:=p1.zk (by omega) (by omega);have z2:=q1.zk (by omega) (by omega);have:=Qf5 z1 z1 z2 z2;unfold Pu;simp only;exact⟨this.1,this.2.1,this.2.2.1,this.2.2.2⟩
theorem Qia{K:Nat}{d:Dn}(h:-(K:Int)<=d.e):(Qe d<0->rv d=-(((mz K d:Nat):Rat)/(2:Rat)^K))/\(¬Qe d<0->rv d=((mz K d:Nat):Rat)/(2:Rat)^K):=by
 have h1:=Sk h;have hp:=Zl K;have e:val d.m d.e=((mz K d:Nat):Rat)/(2:Rat)^K:=by grind
 unfold Qe rv;rw[e];by_cases h0:d.m=0
 .rw[if_pos h0,G3.2 h0];have z:((0:Nat):Rat)/(2:Rat)^K=0:=by rw[Rat.div_def];exact Rat.zero_mul _
  rw[z];refine⟨nofun,fun _=>?_⟩;split
  .rfl
  .rfl
 .rw[if_neg h0];cases d.neg<;>simp
theorem Hy{a b q p:Rat}(hq:0<q)(hp:0<p):(a*p<=b->a/q<=b/(q*p))/\(b<=a*p->b/(q*p)<=a/q):=by
 have hqp:=Rat.mul_pos hq hp;have e:a/q=a*p/(q*p):=by grind
 rw[e];constructor
 .intro h;rw[Jh hqp];have:a*p/(q*p)*(q*p)=a*p:=by grind
  rw[this];exact h
 .intro h;rw[Jh hqp];have:b/(q*p)*(q*p)=b:=by grind
  rw[this];exact h
theorem Fp{d:Dn}{s:Nat}(sd:Sd d)(hs:s<=3000) :
  (¬Qe d<0->(Qx d s false:Rat)/(2:Rat)^s<=rv d/\rv d<=(Qx d s true:Rat)/(2:Rat)^s) /\
  (Qe d<0→-((Qx d s true:Rat)/(2:Rat)^s)<=rv d/\rv d≤-((Qx d s false:Rat)/(2:Rat)^s)):=by
 have sb:=sd.bare;obtain⟨K,hK⟩:∃K:Nat,K=8000:=⟨_,rfl⟩
 have f1:=Gq (d:=d) (s:=s) (K:=K) (by omega) (by omega);have g1:=Tl (d:=d) (s:=s) (K:=K) (by omega) (by omega);rw[Vu (by omega) (by have:=sd.2.1;omega) ⟨by have:=sd.2.1;omega,by have:=sd.2.2;omega⟩]at f1 g1;have ab:=Qia (K:=K) (d:=d) (by have:=sd.2.1;omega);have eK:(2:Rat)^K=(2:Rat)^s*(2:Rat)^(K-s):=by rw[<-To];congr 1;omega
 rw[eK]at ab;have h1:((Qx d s false:Nat):Rat)*(2:Rat)^(K-s)<=((mz K d:Nat):Rat):=by rw[<-Xt];exact_mod_cast f1
 have h2:((mz K d:Nat):Rat)<=((Qx d s true:Nat):Rat)*(2:Rat)^(K-s):=by rw[<-Xt];exact_mod_cast g1
 have k1:=(Hy (Zl s) (Zl (K-s))).1 h1;have k2:=(Hy (Zl s) (Zl (K-s))).2 h2;constructor
 .intro hn;rw[ab.2 hn];exact⟨k1,k2⟩
 .intro hn;rw[ab.1 hn];exact⟨Rat.neg_le_neg k2,Rat.neg_le_neg k1⟩
theorem Qki{x s:Nat}{k:Int}{z w:Rat}(y:Nat)(hy:y<=2^s)(h:Q w ((2:Rat)^k))(hz:(x:Rat)/(2:Rat)^s+w<=z)(h0:(Xj x y s).lo≠0):Q z (val (Xj x y s).lo (k-(s:Int))):=by
 obtain⟨⟨m,h1⟩,-⟩:=Cg (a:=x) (s:=s) hy;have hp:=Zl s;have a0:0<=(x:Rat)/(2:Rat)^s:=Wt (nn x) (Rat.le_of_lt hp);have hv:(0:Rat)<((Xj x y s).lo:Rat)/(2:Rat)^s:=by
  rw[Rat.lt_div_iff hp];have:(0:Rat)<((Xj x y s).lo:Rat):=by exact_mod_cast Nat.pos_of_ne_zero h0
  grind
 have q:=Q.ofE a0 hv (fun u hu=>by
  have:=hu m;rw[<-Rat.not_lt,Rat.lt_div_iff hp,Rat.not_lt];have h3:=Rat.mul_le_mul_of_nonneg_left this (Rat.le_of_lt hp);grind)
 have q2:=(q.add h).le_z hz;have e:val (Xj x y s).lo (k-(s:Int))=((Xj x y s).lo:Rat)/(2:Rat)^s*(2:Rat)^k:=by unfold val;rw[Int.sub_eq_add_neg,Va,Kv,Rat.div_def,Rat.div_def];grind
 rw[e];exact q2
theorem Qkj{x s:Nat}{k:Int}{z w:Rat}(y:Nat)(hy:y<=2^s)(h:P w ((2:Rat)^k))(hz:z<=(y:Rat)/(2:Rat)^s+w):P z (val (Xj x y s).hi (k-(s:Int))):=by
 obtain⟨-,h1⟩:=Cg (a:=x) (s:=s) hy;have hp:=Zl s;have a0:0<=(y:Rat)/(2:Rat)^s:=Wt (nn y) (Rat.le_of_lt hp);have p:=P.ofU a0 (u:=((Xj x y s).hi:Rat)/(2:Rat)^s) (fun n=>by
  rw[Jh hp];have:=h1 n;grind)
 have p2:=(p.add h).le_z hz;have e:val (Xj x y s).hi (k-(s:Int))=((Xj x y s).hi:Rat)/(2:Rat)^s*(2:Rat)^k:=by unfold val;rw[Int.sub_eq_add_neg,Va,Kv,Rat.div_def,Rat.div_def];grind
 rw[e];exact p2
theorem Qld{X D L i Z:Rat}(e:L=X+D)(h:L*i<=Z):X*i+D*i<=Z:=by rw[e]at h;grind
theorem Qlc{X D L i Z:Rat}(e:X+L=D)(h:-(L*i)<=Z):X*i+-(D*i)<=Z:=by rw[<-e];grind
theorem Qlb{Y D H i Z:Rat}(h:Z<=H*i)(k:(H-D)*i<=Y*i):Z<=Y*i+D*i:=by grind
theorem Qla{Y D H i Z:Rat}(e:H+D=Y)(h:Z<=H*i):Z<=Y*i+-(D*i):=by rw[<-e];grind
theorem Qk9{Y D H i Z:Rat}(h:Z≤-(H*i))(k:(D-H)*i<=Y*i):Z<=Y*i+-(D*i):=by grind
theorem Qk8{H Z:Rat}(h:Z≤-H)(k:0<=H):Z<=H:=by grind
theorem Qiw{Z I:In}{s:Nat}{n1 n2:Bool}{l h c d q x y:Nat}(E:Lk Z s I n1 n2 l h c d q x y)(s1:Sd Z.lo)(s2:Sd Z.hi)(hs:8<=s/\s<=3000) :
  (0<rv I.lo->Q (rv Z.lo) (rv I.lo))/\P (rv Z.hi) (rv I.hi):=by
 obtain⟨hn1,hn2,hl,hh,ec,ed,hq,hx,hy,hy2,hxy,hk,hI⟩:=E;obtain⟨u1,u2⟩:=Fp (s:=s) s1 hs.2;obtain⟨v1,v2⟩:=Fp (s:=s) s2 hs.2;obtain⟨cp,dq⟩:=My s q;rw[ec]at cp;rw[ed]at dq;have cl:=Ef hs.1;rw[ec]at cl;have c0:0<c:=by have:=Nat.two_pow_pos s;omega
 have hp:=Zl s;obtain⟨i,hi⟩:∃i,i=1/(2:Rat)^s:=⟨_,rfl⟩
 have fr:∀a:Rat,a/(2:Rat)^s=a*i:=fun a=>by rw[hi,Rat.div_def,Rat.div_def];grind
 have ip:0<i:=by rw[hi,Rat.lt_div_iff hp];grind
 simp only[fr]at u1 u2 v1 v2 cp dq;have frx:=fr (x:Rat);have fry:=fr (y:Rat);clear hi fr;have sub:∀a b:Nat,(a:Rat)-(b:Rat)<=((a-b:Nat):Rat):=fun a b=>by
  have:(a:Rat)<=((a-b:Nat):Rat)+(b:Rat):=by exact_mod_cast (by omega:a<=a-b+b)
  grind
 have lower:∃w,Q w ((2:Rat)^(Yq n1 q))/\(x:Rat)/(2:Rat)^s+w<=rv Z.lo:=by
  rw[frx];cases n1
  .have a1:=(u1 (of_decide_eq_false hn1)).1;rw[hl]at a1;refine⟨_,by unfold Yq;rw[if_neg (by simp),Wj];exact dq,?_⟩;have hl2:l=x+d*q:=by rw[<-hx,<-hq];unfold Mg Mh;rw[if_neg (by simp),if_neg (by simp)];have:=Nat.mod_add_div l d;omega
   have e:(l:Rat)=(x:Rat)+((d*q:Nat):Rat):=by exact_mod_cast hl2
   exact Qld e a1
  .have a1:=(u2 (of_decide_eq_true hn1)).1;rw[hl]at a1;refine⟨_,by unfold Yq;rw[if_pos rfl,Kv];exact cp.neg,?_⟩;have hlq:l<=c*q:=by
    rw[<-hq];unfold Mh;rw[if_pos rfl];have hd:=Nat.div_add_mod l c;have hm:=Nat.mod_lt l c0;split
    .omega
    .rw[Nat.mul_add,Nat.mul_one];omega
   have hl2:x+l=c*q:=by rw[<-hx];unfold Mg;rw[if_pos rfl,Nat.mul_comm q c];omega
   exact Qlc (by exact_mod_cast hl2) a1
 have upper:∃w,P w ((2:Rat)^(Yq n1 q))/\rv Z.hi<=(y:Rat)/(2:Rat)^s+w:=by
  rw[fry];cases n1
  .refine⟨_,by unfold Yq;rw[if_neg (by simp),Wj];exact cp,?_⟩;have b1:rv Z.hi<=(h:Rat)*i:=by
    cases n2
    .have:=(v1 (of_decide_eq_false hn2)).2;rwa[show true=!false from rfl,hh]at this
    .have:=(v2 (of_decide_eq_true hn2)).2;rw[show false=!true from rfl,hh]at this;exact Qk8 this (Rat.mul_nonneg (nn h) (Rat.le_of_lt ip))
   have b2:=sub h (q*c);have e:h-q*c=y:=by rw[<-hy];unfold Mf;rw[if_neg (by simp)]
   rw[e,Nat.mul_comm q c]at b2;exact Qlb b1 (Rat.mul_le_mul_of_nonneg_right b2 (Rat.le_of_lt ip))
  .refine⟨_,by unfold Yq;rw[if_pos rfl,Kv];exact dq.neg,?_⟩;have e:Gh n2 h (q*d)=y:=by rw[<-hy];unfold Mf;rw[if_pos rfl]
   unfold Gh at e;rw[Nat.mul_comm q d]at e;cases n2
   .have b1:=(v1 (of_decide_eq_false hn2)).2;rw[show true=!false from rfl,hh]at b1;rw[if_neg (by simp)]at e;exact Qla (by exact_mod_cast e) b1
   .have b1:=(v2 (of_decide_eq_true hn2)).2;rw[show false=!true from rfl,hh]at b1;rw[if_pos rfl]at e;have b2:=sub (d*q) h;rw[e]at b2;exact Qk9 b1 (Rat.mul_le_mul_of_nonneg_right b2 (Rat.le_of_lt ip))
 have he:=Ek (Nat.le_trans hxy hy2) hy2;have hp12:=Qay hs.2;obtain⟨w1,w2,w3,w4⟩:=Gc (lo:=(Xj x y s).lo) (hi:=(Xj x y s).hi) (e:=Yq n1 q-(s:Int)) (neg:=false) (by omega) (Uh (Nat.le_trans he.1 hp12) (by omega)) (Uh (Nat.le_trans he.2 hp12) (by omega));rw[<-hI]at w1 w2 w3 w4;have em:∀m e,rv ⟨false,m,e⟩=val m e:=fun m e=>by unfold rv;rw[if_neg (by simp)]
 rw[em]at w1 w2 w3 w4;constructor
 .intro h0;obtain⟨w,l1,l2⟩:=lower;have h1:(Xj x y s).lo≠0:=by
   intro h1;rw[h1]at w1;have:val 0 (Yq n1 q-(s:Int))=0:=by unfold val;push_cast;grind
   grind
  exact(Qki y hy2 l1 l2 h1).le_x h0 w1
 .obtain⟨w,l1,l2⟩:=upper;exact(Qkj y hy2 l1 l2).le_x w4
def Nk(A p:Nat)(z:Int):Nat:=if Ul z (A/2^p%2==1) (A/2^(p-1)%2==1) (decide (A%2^(p-1)≠0))then A/2^p+1 else A/2^p
theorem Qic{m:Nat}{u e:Int}{K:Nat}(he:-(K:Int)<=e)(hu:1<=u+K)(z:Int):(Xf m (u-e) z false).1=Nk (m*2^(e+K).toNat) (u+K).toNat z:=by
 obtain⟨p,hp⟩:∃p:Nat,(u+K).toNat=p+1:=⟨(u+K).toNat-1,by omega⟩
 have key:Zh m (u-e)=(m*2^(e+K).toNat/2^(p+1),m*2^(e+K).toNat/2^p%2==1,decide (m*2^(e+K).toNat%2^p≠0)):=by
  unfold Zh;by_cases hn:u-e<=0
  .rw[if_pos hn];have e1:m*2^(e+K).toNat=m*2^(-(u-e)).toNat*2*2^p:=by rw[Nat.mul_assoc,Nat.mul_assoc,Nat.mul_comm 2,<-Nat.pow_succ,<-Nat.pow_add];congr 2;omega
   have e2:m*2^(e+K).toNat=m*2^(-(u-e)).toNat*2^(p+1):=by rw[e1,Nat.mul_assoc,Nat.mul_comm 2,Nat.pow_succ]
   rw[show m*2^(e+K).toNat/2^(p+1)=m*2^(-(u-e)).toNat by rw[e2,Nat.mul_div_cancel _ (Nat.two_pow_pos _)]];rw[e1,Nat.mul_div_cancel _ (Nat.two_pow_pos _),Nat.mul_mod_left,Nat.mul_mod_left];rfl
  .rw[if_neg hn];have e1:2^(p+1)=2^(u-e).toNat*2^(e+K).toNat:=by rw[<-Nat.pow_add];congr 1;omega
   have e2:2^p=2^((u-e).toNat-1)*2^(e+K).toNat:=by rw[<-Nat.pow_add];congr 1;omega
   have h0:=Nat.two_pow_pos (e+K).toNat
   rw[e1,e2,Nat.mul_div_mul_right _ _ h0,Nat.mul_div_mul_right _ _ h0,Nat.mul_mod_mul_right];congr 2;rw[decide_eq_decide];constructor
   .intro h;exact Nat.mul_ne_zero h (by omega)
   .intro h h1;rw[h1,Nat.zero_mul]at h;exact h rfl
 unfold Xf Nk;rw[key,hp];simp only[Bool.or_false,Nat.add_sub_cancel]
theorem Qck{m:Nat}{e z:Int}:Xk m e false z<=Xm z:=by
 unfold Xk;split
 .exact Nat.le_refl _
 .split
  .unfold Jc Xm;split<;>split<;>omega
  .have hw:=Gp m (Zq ((bl m:Int)-1+e)-e) z false;have hl:=Nn (m:=m) (n:=Zq ((bl m:Int)-1+e)-e) (by unfold Zq;omega);have hu:(Zq ((bl m:Int)-1+e)+1074).toNat<=2045:=by unfold Zq;omega
   generalize (Xf m (Zq ((bl m:Int)-1+e)-e) z false).1=wv at *
   generalize (Zq ((bl m:Int)-1+e)+1074).toNat=uv at *
   unfold Xm;split
   .omega
   .rename_i hz;omega
end Go.Proofs.YtobpioceopfkpaaGreatDoor
namespace Go.Proofs.YtobpioceopfkpaaGreatDoor
open Go.RowKit
open World (setCell alloc drew)
open List (set_cons_zero set_cons_succ setIfInBounds_toArray cons_append nil_append)
def Th(x y d:Dn):Prop:=Ye (Qa x) (Zr y) (Vs y) d
theorem Qbi{w:World}{u:Value}{x y:Dn}{z tt:Int}(hu:Ag w u x y 1 z tt)(ok:Kq x y 1 z tt)(nu:Yo x y)(hs:Ze x y≠0)(y0:y.m≠0)(hodd:(Qa x).m%2=1) :
  Calls Tryz.prog 38 #[u] w (Pc (Th x y) w):=by
 have yb:=ok.yb;have no:(∀w u,Cy w u (Qa y)->Calls Tryz.prog 115 #[u] w fun e w'=>e=.returned (.tuple #[.agg #[.int .i64 0,.int .i64 0],.bool false])/\Below w.heap.size w w')->Calls Tryz.prog 38 #[u] w (Pc (Th x y) w):=by intro co;have ht:=hu;obtain⟨a1,k1,c1,a2,k2,c2,-,hx,-⟩:=ht;have hx:=h_ hx;refine(Qcb hu ok hs (fun w u h=>Qfd h ok.sy y0 ok.by' co)).mono ?_;rintro e w' ⟨h1,h2⟩;exact⟨_,_,false,h1,Cy.zero3 (hx.o.tab.below h2),nofun,h2⟩
 by_cases h1:y.e < -62
 .exact no (fun w u h=>Qkr h (by rw[yb];exact ok.sy) (by rw[yb,yb];exact h1))
 by_cases h2:62<(bl y.m:Int)+max y.e 0
 .exact no (fun w u h=>Qhn h (by rw[yb];exact ok.sy) (by rw[yb,yb];omega) (by rw[yb,yb];exact h2))
 have hK:0<Vs y/\Vs y<=4611686018427387904:=by unfold Vs;exact⟨Nat.two_pow_pos _,Nat.le_trans (Nat.pow_le_pow_right (by decide) (by omega:(max (-y.e) 0).toNat<=62)) (by decide)⟩
 have hb:bl (y.m*2^(max y.e 0).toNat)<=62:=by rw[Vd y0];omega
 have hm:y.m*2^(max y.e 0).toNat<4611686018427387904:=Nat.lt_of_lt_of_le (Zb _) (Nat.le_trans (Nat.pow_le_pow_right (by decide) hb) (by decide));have hm0:y.m*2^(max y.e 0).toNat≠0:=Nat.mul_ne_zero y0 (by have:=Nat.two_pow_pos (max y.e 0).toNat;omega);have hM:(-9223372036854775808<Zr y/\Zr y<9223372036854775808)/\Zr y≠0:=by
  unfold Zr;generalize y.m*2^(max y.e 0).toNat=q at *
  split<;>omega
 have x64:(Qa x).m<18446744073709551616:=Nat.lt_of_lt_of_le (Zb _) (Nat.le_trans (Nat.pow_le_pow_right (by decide) (Nat.le_trans ok.bx (by decide:60<=64))) (by decide));refine Ok hu ok hs (M:=Zr y) (K:=(Vs y:Nat)) (fun w u h=>Qfb h ok.sy y0 ok.by' ⟨by omega,by omega⟩ (fun w u h=>?_)) (fun w u h=>?_)
 .have:=Qjj h (by rw[yb];exact ok.sy) (by rw[yb,yb];omega) (by rw[yb,yb];omega);rwa[yb,yb]at this
 .exact Ew h ok.sx nu.xneg nu.x0 hodd x64 (Zr y) (Vs y) hM.1 hM.2 ⟨hK.1,by omega⟩
theorem Qdf{X d:Dn}{M:Int}{K:Nat}(h:Ye X M K d)(z:Int)(hz:0<=z/\z<=3):∀w u,Cy w u d->Calls Tryz.prog 40 #[u,.bool false,.int .i64 z] w fun e w'=>e=.returned (.tuple #[.int .u64 (Xk d.m d.e false z:Nat),.int .u8 (Wh d.m d.e false z),.int .i64 0])/\Below w.heap.size w w':=by
 obtain⟨g,r,-,-,h1,h2,h3,h4,h5,h6,h7⟩:=h;intro w u hu;have e:Jg d:=⟨h1,⟨Nat.le_trans h6 (by decide),by omega,by omega⟩,by obtain⟨n,m,e⟩:=d;exact Yz h7 (by simp only at h4 h5;omega),fun _=>h7⟩
 exact e.to (by omega) false z hz hu
theorem Qcs{x y:Dn}{N:Nat}{z tt:Int}(ok:Kq x y N z tt){b:Nat}(h1:64<=b)(h2:b<=1024):∃s:Nat,Vp y b=(s:Int)/\8<=s/\s<=2400:=by
 have ht:=ok.ty;rw[ok.yb]at ht;obtain⟨s,hsc⟩:∃s:Nat,Vp y b=(s:Int):=⟨(Vp y b).toNat,by unfold Vp;split<;>omega⟩
 exact⟨s,hsc,by unfold Vp at hsc;split at hsc<;>omega⟩
open Rl
theorem Mp{a b:Rat}(ha:0<=a)(h:a<=b)(n:Nat):a^n<=b^n:=by
 induction n with
 | zero=>rw[Rat.pow_zero,Rat.pow_zero];exact Rat.le_refl
 | succ n ih=>rw[Rat.pow_succ,Rat.pow_succ];exact Mv ih h (Wk (Rat.le_trans ha h) n) ha
theorem Qid{a b:Rat}(ha:0<=a)(h:a<b)(n:Nat):a^(n+1)<b^(n+1):=by
 induction n with
 | zero =>
  have e:∀c:Rat,c^(0+1)=c:=fun c=>by grind
  rw[e,e];exact h
 | succ n ih =>
  rw[Rat.pow_succ a,Rat.pow_succ b];have h1:=Rat.mul_lt_mul_of_pos_right ih (by grind:0<b);have h2:=Rat.mul_le_mul_of_nonneg_left (Rat.le_of_lt h) (Wk ha (n+1));grind
theorem Hq{a b:Rat}(hb:0<=b){n:Nat}(hn:0<n)(h:a^n<=b^n):a<=b:=by
 obtain⟨k,rfl⟩:∃k,n=k+1:=⟨n-1,by omega⟩
 apply Classical.byContradiction;intro hc;have:=Qid hb (Rat.not_le.1 hc) k;grind
theorem one_pow(n:Nat):(1:Rat)^n=1:=by
 induction n with
 | zero=>exact Rat.pow_zero _
 | succ n ih=>rw[Rat.pow_succ,ih];grind
theorem Mo{a:Rat}(h:1<=a)(n:Nat):1<=a^n:=by have:=Mp (by decide) h n;rwa[one_pow]at this
theorem Id{a:Rat}(h0:0<=a)(h:a<=1)(n:Nat):a^n<=1:=by have:=Mp h0 h n;rwa[one_pow]at this
theorem Rx{a:Rat}(h:1<=a){n:Nat}(hn:0<n):a<=a^n:=by
 obtain⟨k,rfl⟩:∃k,n=k+1:=⟨n-1,by omega⟩
 have:=Mo h k;rw[Rat.pow_succ];have:=Rat.mul_le_mul_of_nonneg_right this (by grind:0<=a);grind
theorem Rz{a:Rat}(h0:0<=a)(h:a<=1){n:Nat}(hn:0<n):a^n<=a:=by
 obtain⟨k,rfl⟩:∃k,n=k+1:=⟨n-1,by omega⟩
 have:=Id h0 h k;rw[Rat.pow_succ];have:=Rat.mul_le_mul_of_nonneg_right this h0;grind
theorem Vq(a:Rat)(m n:Nat):a^(m*n)=(a^m)^n:=by
 induction n with
 | zero=>rw[Nat.mul_zero,Rat.pow_zero,Rat.pow_zero]
 | succ n ih=>rw[Nat.mul_succ,To,ih,Rat.pow_succ]
theorem Dy(a b:Rat)(n:Nat):(a*b)^n=a^n*b^n:=by
 induction n with
 | zero=>rw[Rat.pow_zero,Rat.pow_zero,Rat.pow_zero];grind
 | succ n ih=>rw[Rat.pow_succ,ih,Rat.pow_succ,Rat.pow_succ];grind
theorem Qjx(e:Int)(n:Nat):((2:Rat)^e)^n=(2:Rat)^(e*(n:Int)):=by
 induction n with
 | zero=>simp
 | succ n ih=>rw[Rat.pow_succ,ih,<-Va];congr 1;push_cast;grind
theorem Sy(m:Nat)(e:Int)(n:Nat):val m e^n=val (m^n) (e*(n:Int)):=by unfold val;rw[Dy,Qjx];congr 1;push_cast;rfl
theorem Lz{a:Rat}(ha:a≠0)(n:Nat):(1/a)^n=1/a^n:=by
 have h:(1/a*a)^n=1:=by rw[show 1/a*a=1 by grind,one_pow]
 rw[Dy]at h;have:a^n≠0:=by intro h0;rw[h0]at h;grind
 grind
def Wq(X:Rat)(n:Bool):Rat:=if n then 1/X else X
def Vm(b:Rat)(M K:Nat)(z:Int)(B:Nat):Prop:=∃(m:Nat) (e:Int) (m':Nat) (e':Int),m≠0/\m'≠0/\B=Xk m e false z/\B=Xk m' e' false z/\val m e^K<=b^M/\b^M<=val m' e'^K
theorem Eb{X L1 L2 Y z v:Rat}{n:Bool}{M K:Nat}(p:P L1 X)(q:Q L2 X)(hY:Y*(K:Rat)=if n then -(M:Rat)else(M:Rat))(h1:z<=L1*Y)(h2:z<=L2*Y)(hv:Q z v):v^K<=Wq X n^M:=by
 have k:=hv.pow K;have h1:=Rat.mul_le_mul_of_nonneg_left h1 (nn K);have h2:=Rat.mul_le_mul_of_nonneg_left h2 (nn K);have e:∀L:Rat,(K:Rat)*(L*Y)=Y*(K:Rat)*L:=fun L=>by grind
 have e2:∀L:Rat,-(M:Rat)*L=(M:Rat)*-L:=fun L=>by grind
 rw[e,hY]at h1 h2;clear e hY;unfold Wq;cases n
 .rw[if_neg (by simp)]at h1 |-;exact PQ (p.pow M) (k.le_z h1)
 .rw[if_pos rfl,e2]at h2;rw[if_pos rfl];exact PQ (q.neg.pow M) (k.le_z h2)
theorem Ce{X L1 L2 Y z v:Rat}{n:Bool}{M K:Nat}(p:P L1 X)(q:Q L2 X)(hY:Y*(K:Rat)=if n then -(M:Rat)else(M:Rat))(h1:L1*Y<=z)(h2:L2*Y<=z)(hv:P z v):Wq X n^M<=v^K:=by
 have k:=hv.pow K;have h1:=Rat.mul_le_mul_of_nonneg_left h1 (nn K);have h2:=Rat.mul_le_mul_of_nonneg_left h2 (nn K);have e:∀L:Rat,(K:Rat)*(L*Y)=Y*(K:Rat)*L:=fun L=>by grind
 have e2:∀L:Rat,-(M:Rat)*L=(M:Rat)*-L:=fun L=>by grind
 rw[e,hY]at h1 h2;clear e hY;unfold Wq;cases n
 .rw[if_neg (by simp)]at h2 |-;exact PQ (k.le_z h2) (q.pow M)
 .rw[if_pos rfl,e2]at h1;rw[if_pos rfl];exact PQ (k.le_z h1) (p.neg.pow M)
theorem La{x d:Dn}{M:Int}{K:Nat}(hM:M≠0)(h:Ye x M K d):d.m≠0/\val d.m d.e^K=Wq (val x.m x.e) (decide (M<0))^M.natAbs:=by
 obtain⟨g,r,hg,hr,hd⟩:=h;obtain⟨-,r1,r2,r3,-⟩:=hr;obtain⟨-,d1,d2,-,-,-,d3⟩:=hd;have g0:0<g:=by rw[hg];exact Nat.gcd_pos_of_pos_left _ (by omega)
 obtain⟨j,hj⟩:g∣M.natAbs:=by rw[hg];exact Nat.gcd_dvd_left _ _
 obtain⟨k,hk⟩:g∣K:=by rw[hg];exact Nat.gcd_dvd_right _ _
 rw[hk,Nat.mul_div_cancel_left _ g0]at r1 r2;have hX:val x.m x.e=val r.m r.e^k:=by rw[Sy,r1,r2]
 rw[hX,hk,hj];refine⟨by omega,?_⟩;have rp:=Kg r3 r.e;by_cases hn:M<0
 .rw[decide_eq_true hn];have e1:M=-((j*g:Nat):Int):=by rw[Nat.mul_comm j g,<-hj];omega
  have e2:M.tdiv (g:Int)=-(j:Int):=by rw[e1,Int.neg_tdiv,Int.natCast_mul,Int.mul_tdiv_cancel _ (by omega)]
  rw[e2]at d1 d2;have j0:j≠0:=by rintro rfl;rw[Nat.zero_mul]at e1;omega
  have hm:r.m=1/\d.m=1:=by
   rcases d2 with d2|d2
   .exact d2
   .omega
  have hv:val d.m d.e=(1/val r.m r.e)^j:=by rw[Lz (by grind),Sy,hm.1,hm.2,d1,Nat.one_pow];unfold val;rw[Int.mul_neg,Rat.zpow_neg];have:=Yg (r.e*(j:Int));push_cast;grind
  unfold Wq;rw[if_pos rfl,hv,<-Lz (by grind),<-Vq,<-Vq];congr 1;grind
 .rw[decide_eq_false hn];have e1:M=((j*g:Nat):Int):=by rw[Nat.mul_comm j g,<-hj];omega
  have e2:M.tdiv (g:Int)=(j:Int):=by rw[e1,Int.natCast_mul,Int.mul_tdiv_cancel _ (by omega)]
  rw[e2]at d1 d2;have hv:val d.m d.e=val r.m r.e^j:=by
   rw[Sy,d1];congr 1;rcases d2 with d2|d2
   .rw[d2.1,d2.2,Nat.one_pow]
   .rw[d2.2,Int.toNat_natCast]
  unfold Wq;rw[if_neg (by simp),hv,<-Vq,<-Vq];congr 1;grind
theorem Ot{y:Dn}:rv y*((Vs y:Nat):Rat)=if decide (Zr y<0)then -(((Zr y).natAbs:Nat):Rat)else(((Zr y).natAbs:Nat):Rat):=by
 have e1:(2:Rat)^y.e*((Vs y:Nat):Rat)=((2^(max y.e 0).toNat:Nat):Rat):=by unfold Vs;rw[Yy,Yy,<-Va];congr 1;omega
 have e2:val y.m y.e*((Vs y:Nat):Rat)=((y.m*2^(max y.e 0).toNat:Nat):Rat):=by unfold val;rw[Rat.mul_assoc,e1];push_cast;rfl
 unfold rv;unfold Zr;generalize y.m*2^(max y.e 0).toNat=q at *
 by_cases hn:y.neg=true
 .rw[if_pos hn,if_pos hn];by_cases h0:q=0
  .subst h0;have:val y.m y.e*((Vs y:Nat):Rat)=0:=by rw[e2];rfl
   simp only[Int.natCast_zero,Int.neg_zero,Int.natAbs_zero];rw[if_neg (by decide)];have:((0:Nat):Rat)=0:=rfl;grind
  .rw[decide_eq_true (by omega),if_pos rfl,show(-(q:Int)).natAbs=q by omega];grind
 .rw[if_neg hn,if_neg hn,decide_eq_false (by omega),if_neg (by simp),Int.natAbs_natCast];exact e2
theorem Lu(a:Rat):∃n:Nat,1100<=n/\a<=(2:Rat)^n:=by obtain⟨n,h⟩:=Iz a;refine⟨n+1100,by omega,Rat.le_trans h ?_⟩;rw[<-Xt];have h1:n+1100<2^(n+1100):=Nat.lt_two_pow_self;exact_mod_cast (by omega:n<=2^(n+1100))
theorem Aj{n:Nat}(h:1024<=n)(z:Int):Xk 1 (n:Int) false z=Xm z:=by
 have:bl 1=1:=by decide
 unfold Xk;rw[this,if_pos (by omega)]
theorem Ai{n:Nat}(h:1076<=n)(z:Int):Xk 1 (-(n:Int)) false z=Jc z:=by
 have:bl 1=1:=by decide
 unfold Xk;rw[this,if_neg (by omega),if_pos (by omega)]
theorem Vf(e:Int):val 1 e=(2:Rat)^e:=by unfold val;push_cast;grind
theorem Qag{b:Rat}{M K:Nat}{z:Int}(hK:0<K)(h:((2:Rat)^1024)^K<=b^M):Vm b M K z (Xm z):=by
 obtain⟨n,hn,hb⟩:=Lu (b^M);refine⟨1,(1024:Nat),1,(n:Nat),by decide,by decide,(Aj (by decide) z).symm,(Aj (by omega) z).symm,?_,?_⟩
 .rw[Vf,Wj];exact h
 .rw[Vf,Wj];refine Rat.le_trans hb (Rx ?_ hK);rw[<-Xt];exact_mod_cast Nat.two_pow_pos n
theorem Ia{b:Rat}{M K:Nat}{z:Int}(hb:0<b)(hK:0<K)(h:b^M<=(1/(2:Rat)^1076)^K):Vm b M K z (Jc z):=by
 have bp:0<b^M:=Rat.pow_pos hb;obtain⟨n,hn,hn2⟩:=Lu (1/b^M);refine⟨1,-((n:Nat):Int),1,-((1076:Nat):Int),by decide,by decide,(Ai (by omega) z).symm,(Ai (by decide) z).symm,?_,?_⟩
 .rw[Vf,Kv];have t:=Zl n;have t1:1<=(2:Rat)^n:=by rw[<-Xt];exact_mod_cast Nat.two_pow_pos n
  have i1:1/(2:Rat)^n<=1:=by rw[<-Rat.not_lt,Rat.lt_div_iff t,Rat.not_lt];grind
  have i0:0<=1/(2:Rat)^n:=Wt (by decide) (Rat.le_of_lt t);refine Rat.le_trans (Rz i0 i1 hK) ?_;rw[<-Rat.not_lt,Rat.lt_div_iff t,Rat.not_lt];have h2:=Rat.mul_le_mul_of_nonneg_right hn2 (Rat.le_of_lt bp);grind
 .rw[Vf,Kv];exact h
theorem Qii(K:Nat):∃C:Rat,0<=C/\∀d:Rat,0<=d->d<=1->(1+d)^K<=1+C*d:=by
 induction K with
 | zero=>exact⟨0,by decide,fun d _ _=>by rw[Rat.pow_zero];grind⟩
 | succ K ih =>
  obtain⟨C,hC,h⟩:=ih;refine⟨2*C+1,by grind,fun d h0 h1=>?_⟩;rw[Rat.pow_succ];have h2:=Rat.mul_le_mul_of_nonneg_right (h d h0 h1) (by grind:0<=1+d);have h3:=Rat.mul_le_mul_of_nonneg_left h1 (Rat.mul_nonneg hC h0);grind
theorem Qc0(K:Nat){d:Rat}(h0:0<=d)(h1:d<=1):1-(K:Rat)*d<=(1-d)^K:=by
 induction K with
 | zero=>rw[Rat.pow_zero];push_cast;grind
 | succ K ih =>
  rw[Rat.pow_succ];have h2:=Rat.mul_le_mul_of_nonneg_right ih (by grind:0<=1-d);have h3:=Rat.mul_nonneg (Rat.mul_nonneg (nn K) h0) h0;push_cast;grind
theorem Mi{C r:Rat}(hr:0<r):∃n:Nat,1100<=n/\C*(1/(2:Rat)^n)<=r:=by
 obtain⟨n,hn,h⟩:=Lu (C/r);refine⟨n,hn,?_⟩;have t:=Zl n;have e:C*(1/(2:Rat)^n)=C/(2:Rat)^n:=by rw[Rat.div_def,Rat.div_def];grind
 rw[e,<-Rat.not_lt,Rat.lt_div_iff t,Rat.not_lt];have h2:=Rat.mul_le_mul_of_nonneg_right h (Rat.le_of_lt hr);have e2:C/r*r=C:=by grind
 grind
theorem Fu(j:Nat){z:Int}(hz:0<=z/\z<=3):(Xk (2^(55+j)+1) (-((55+j:Nat):Int)) false z:Int)=Ki z:=by
 have hp:2^(55+j)=4503599627370496*2^(3+j):=by rw[show 55+j=52+(3+j)by omega,Nat.pow_add]
 have hp2:2^(3+j)=8*2^j:=Nat.pow_add 2 3 j;have hp3:2^(2+j)=4*2^j:=Nat.pow_add 2 2 j;have h0:=Nat.two_pow_pos j;have hb:bl (2^(55+j)+1)=56+j:=by
  apply Nat.le_antisymm
  .apply Zp;rw[show 56+j=(55+j)+1 by omega,Nat.pow_succ];omega
  .have h1:=Zc (show 2^(55+j)<=2^(55+j)+1 by omega);have h2:=Vd (m:=1) (by decide) (55+j);rw[Nat.one_mul,show bl 1=1 by decide]at h2;omega
 have hw:(Xf (2^(55+j)+1) ((3+j:Nat):Int) z false).1=if z=2 then 4503599627370497 else 4503599627370496:=by
  have hparts:Zh (2^(55+j)+1) ((3+j:Nat):Int)=(4503599627370496,false,true):=by
   unfold Zh;rw[if_neg (show ¬((3+j:Nat):Int)<=0 by omega),Int.toNat_natCast,show 3+j-1=2+j by omega];have a1:(2^(55+j)+1)/2^(3+j)=4503599627370496:=by rw[hp];refine Nat.div_eq_of_lt_le ?_ ?_<;>omega
   have a2:(2^(55+j)+1)/2^(2+j)=9007199254740992:=by rw[hp];refine Nat.div_eq_of_lt_le ?_ ?_<;>omega
   have a3:(2^(55+j)+1)%2^(2+j)≠0:=by rw[hp,show 4503599627370496*2^(3+j)=2^(2+j)*9007199254740992 by omega,Nat.mul_add_mod,Nat.mod_eq_of_lt (by omega)];decide
   rw[a1,a2,decide_eq_true a3];rfl
  unfold Xf;rw[hparts];rcases(by omega:z=0\/z=1\/z=2\/z=3)with rfl|rfl|rfl|rfl<;>decide
 unfold Xk;rw[hb,if_neg (by omega),if_neg (by omega),show Zq (((56+j:Nat):Int)-1+-((55+j:Nat):Int))=-52 by unfold Zq;omega,show(-52:Int) - -((55+j:Nat):Int)=((3+j:Nat):Int)by omega,hw];rcases(by omega:z=0\/z=1\/z=2\/z=3)with rfl|rfl|rfl|rfl<;>decide
theorem Fv(j:Nat){z:Int}(hz:0<=z/\z<=3):(Xk (2^(55+j)-1) (-((55+j:Nat):Int)) false z:Int)=Kj z:=by
 have hp:2^(55+j)=9007199254740992*2^(2+j):=by rw[show 55+j=53+(2+j)by omega,Nat.pow_add]
 have hp2:2^(2+j)=4*2^j:=Nat.pow_add 2 2 j;have hp3:2^(1+j)=2*2^j:=Nat.pow_add 2 1 j;have h0:=Nat.two_pow_pos j;have hb:bl (2^(55+j)-1)=55+j:=by
  apply Nat.le_antisymm
  .apply Zp;omega
  .have h1:=Zc (show 2^(54+j)<=2^(55+j)-1 by rw[show 55+j=(54+j)+1 by omega,Nat.pow_succ];have:=Nat.two_pow_pos (54+j);omega);have h2:=Vd (m:=1) (by decide) (54+j);rw[Nat.one_mul,show bl 1=1 by decide]at h2;omega
 have hw:(Xf (2^(55+j)-1) ((2+j:Nat):Int) z false).1=if z=1\/z=3 then 9007199254740991 else 9007199254740992:=by
  have hparts:Zh (2^(55+j)-1) ((2+j:Nat):Int)=(9007199254740991,true,true):=by
   unfold Zh;rw[if_neg (show ¬((2+j:Nat):Int)<=0 by omega),Int.toNat_natCast,show 2+j-1=1+j by omega];have a1:(2^(55+j)-1)/2^(2+j)=9007199254740991:=by rw[hp];refine Nat.div_eq_of_lt_le ?_ ?_<;>omega
   have a2:(2^(55+j)-1)/2^(1+j)=18014398509481983:=by rw[hp];refine Nat.div_eq_of_lt_le ?_ ?_<;>omega
   have a3:(2^(55+j)-1)%2^(1+j)≠0:=by rw[show 2^(55+j)-1=2^(1+j)*18014398509481983+(2^(1+j)-1)by omega,Nat.mul_add_mod,Nat.mod_eq_of_lt (by omega)];omega
   rw[a1,a2,decide_eq_true a3];rfl
  unfold Xf;rw[hparts];rcases(by omega:z=0\/z=1\/z=2\/z=3)with rfl|rfl|rfl|rfl<;>decide
 unfold Xk;rw[hb,if_neg (by omega),if_neg (by omega),show Zq (((55+j:Nat):Int)-1+-((55+j:Nat):Int))=-53 by unfold Zq;omega,show(-53:Int) - -((55+j:Nat):Int)=((2+j:Nat):Int)by omega,hw];rcases(by omega:z=0\/z=1\/z=2\/z=3)with rfl|rfl|rfl|rfl<;>decide
theorem Ox(n:Nat):val (2^n+1) (-(n:Int))=1+1/(2:Rat)^n:=by have:=Zl n;unfold val;rw[Kv];push_cast;grind
theorem Fo(n:Nat):val (2^n-1) (-(n:Int))=1-1/(2:Rat)^n:=by
 have:=Zl n;unfold val;rw[Kv];have h:((2^n-1:Nat):Rat)+1=(2:Rat)^n:=by rw[<-Xt];have:=Nat.two_pow_pos n;exact_mod_cast (by omega:2^n-1+1=2^n)
 grind
theorem Pg(n:Nat):0<=1/(2:Rat)^n/\1/(2:Rat)^n<=1:=by
 have t:=Zl n;have t1:1<=(2:Rat)^n:=by rw[<-Xt];exact_mod_cast Nat.two_pow_pos n
 exact⟨Wt (by decide) (Rat.le_of_lt t),by rw[<-Rat.not_lt,Rat.lt_div_iff t,Rat.not_lt];grind⟩
theorem Qah{b:Rat}{M K:Nat}{z:Int}{B:Nat}(hz:0<=z/\z<=3)(hB:(B:Int)=Ki z)(hb:1<b)(hM:0<M)(h:b^M<=(1+1/(2:Rat)^55)^K):Vm b M K z B:=by
 obtain⟨C,hC,hu⟩:=Qii K;have h1:=Rx (Rat.le_of_lt hb) hM;obtain⟨n,hn,hs⟩:=Mi (C:=C) (by grind:0<b^M-1);obtain⟨j,rfl⟩:∃j,n=55+j:=⟨n-55,by omega⟩
 refine⟨2^(55+j)+1,-((55+j:Nat):Int),2^55+1,-((55:Nat):Int),Nat.succ_ne_zero _,Nat.succ_ne_zero _,?_,?_,?_,?_⟩
 .have:=Fu j hz;omega
 .have:(Xk (2^55+1) (-((55:Nat):Int)) false z:Int)=Ki z:=Fu 0 hz;omega
 .rw[Ox];have:=hu _ (Pg (55+j)).1 (Pg (55+j)).2;grind
 .rw[Ox];exact h
theorem Qai{b:Rat}{M K:Nat}{z:Int}{B:Nat}(hz:0<=z/\z<=3)(hB:(B:Int)=Kj z)(hb0:0<b)(hb:b<1)(hM:0<M)(h:(1-1/(2:Rat)^55)^K<=b^M):Vm b M K z B:=by
 have h1:=Rz (Rat.le_of_lt hb0) (Rat.le_of_lt hb) hM;obtain⟨n,hn,hs⟩:=Mi (C:=(K:Rat)) (by grind:0<1-b^M);obtain⟨j,rfl⟩:∃j,n=55+j:=⟨n-55,by omega⟩
 refine⟨2^55-1,-((55:Nat):Int),2^(55+j)-1,-((55+j:Nat):Int),by omega,?_,?_,?_,?_,?_⟩
 .have:=Nat.pow_le_pow_right (by decide:0<2) (show 55<=55+j by omega);omega
 .have:(Xk (2^55-1) (-((55:Nat):Int)) false z:Int)=Kj z:=Fv 0 hz;omega
 .have:=Fv j hz;omega
 .rw[Fo];exact h
 .rw[Fo];have:=Qc0 K (Pg (55+j)).1 (Pg (55+j)).2;grind
theorem Qlf:Q (710:Rat) ((2:Rat)^1024):=by
 obtain⟨n,hn⟩:∃n:Nat,n=1024:=⟨_,rfl⟩
 have h:=(My 30 n).2;rw[<-hn];refine h.le_z ?_;rw[<-Rat.not_lt,Rat.lt_div_iff (Zl 30),Rat.not_lt,<-Xt];have:((Qd 1 3 30).hi+(Qd 1 3 30).hi)*n<=710*2^30:=by rw[hn];decide +kernel
 exact_mod_cast this
theorem Qle:P (-746:Rat) (1/(2:Rat)^1076):=by
 obtain⟨n,hn⟩:∃n:Nat,n=1076:=⟨_,rfl⟩
 have h:=(My 30 n).2;rw[<-hn];have h2:Q (746:Rat) ((2:Rat)^n):=by
  refine h.le_z ?_;rw[<-Rat.not_lt,Rat.lt_div_iff (Zl 30),Rat.not_lt,<-Xt];have:((Qd 1 3 30).hi+(Qd 1 3 30).hi)*n<=746*2^30:=by rw[hn];decide +kernel
  exact_mod_cast this
 exact h2.neg
theorem Qeq:P (1/(2:Rat)^60) (1+1/(2:Rat)^55):=by
 have t:=Pg 60;have h:U (1/(2:Rat)^60) (1+3*(1/(2:Rat)^60)):=fun n=>by
  have h1:=Qce t.1 t.2 (m:=2) (by decide) n;have e2:∀b:Rat,E b 2+2*ex b (2-1)=1+3*b:=fun b=>by have:E b 2=0+ex b 0+ex b 1:=rfl;have e0:ex b 0=1:=rfl;have e1:ex b 1=ex b 0*b/((0+1:Nat):Rat):=rfl;rw[this,e1,e0];push_cast;grind
  rw[e2]at h1;exact h1
 refine(P.ofU t.1 h).le_x ?_;have e:(2:Rat)^60=(2:Rat)^55*32:=by rw[show(60:Nat)=55+5 from rfl,To];congr 1
 have t5:=Zl 55;rw[e];generalize (2:Rat)^55=q at *
 have h32:1/q=32*(1/(q*32)):=by grind
 have:0<=1/(q*32):=Wt (by decide) (by grind);grind
theorem Qau:Qk 710=⟨false,355,1⟩:=by kernel_rfl
theorem Qat:Qk (-746)=⟨true,373,1⟩:=by kernel_rfl
theorem Na:Xa Qv=⟨true,1,-60⟩:=by kernel_rfl
theorem Qef:(2:Rat)^(1:Int)=2:=by rw[show(1:Int)=((1:Nat):Int)from rfl,Wj];grind
theorem Pa:Qk 1=⟨false,1,0⟩:=by kernel_rfl
theorem Gw:(2:Rat)^(0:Int)=1:=by rw[show(0:Int)=((0:Nat):Int)from rfl,Wj];grind
theorem Db{x y:Dn}{K:Nat}(hx:Zk K x)(hn:x.neg=false)(h0:x.m≠0):(Ze x y=1->1<Wq (val x.m x.e) (decide (Zr y<0))/\Zr y≠0)/\(Ze x y=-1->Wq (val x.m x.e) (decide (Zr y<0))<1/\Zr y≠0):=by
 have hv:=Kg h0 x.e;have e1:rv x=val x.m x.e:=by unfold rv;rw[hn];simp
 have e2:rv (Qk 1)=1:=by rw[Pa];unfold rv;simp only;rw[Vf,Gw];simp
 have z1:Zk K (Qk 1):=by rw[Pa];exact⟨by show -(K:Int)<=0;omega,by decide,by decide⟩
 have c:=Wb (K:=(K:Int)) (by omega) hx z1;have k1:=Gf hx z1;have k2:=Gf z1 hx;rw[e1,e2]at k1 k2;have lt1:zv K x<zv K (Qk 1)->val x.m x.e<1:=fun h=>Rat.not_le.1 fun h2=>by have:=k2.1 h2;omega
 have lt2:zv K (Qk 1)<zv K x->1<val x.m x.e:=fun h=>Rat.not_le.1 fun h2=>by have:=k1.1 h2;omega
 have inv1:val x.m x.e<1->1<1/val x.m x.e:=fun h=>by rw[Rat.lt_div_iff hv];grind
 have inv2:1<val x.m x.e->1/val x.m x.e<1:=fun h=>by rw[Rat.div_lt_iff hv];grind
 have sM:Qe y=0\/(Qe y=1/\decide (Zr y<0)=false/\Zr y≠0)\/(Qe y=-1/\decide (Zr y<0)=true/\Zr y≠0):=by
  unfold Qe Zr;by_cases hy:y.m=0
  .exact .inl (if_pos hy)
  .right;rw[if_neg hy];have:y.m*2^(max y.e 0).toNat≠0:=Nat.mul_ne_zero hy (by have:=Nat.two_pow_pos (max y.e 0).toNat;omega);generalize y.m*2^(max y.e 0).toNat=q at *
   cases y.neg
   .left;rw[if_neg (by simp),if_neg (by simp),decide_eq_false (by omega)];exact⟨rfl,rfl,by omega⟩
   .right;rw[if_pos rfl,if_pos rfl,decide_eq_true (by omega)];exact⟨rfl,rfl,by omega⟩
 unfold Ze;rw[c];generalize zv K x=p at *
 generalize zv K (Qk 1)=q at *
 unfold Wq;rcases sM with s|⟨s,s2,s3⟩|⟨s,s2,s3⟩
 .rw[s,Int.zero_mul];exact⟨nofun,nofun⟩
 .rw[s,s2,if_neg (by simp)];exact⟨fun h=>⟨lt2 (Xg.1 (by omega)),s3⟩,fun h=>⟨lt1 (We.1 (by omega)),s3⟩⟩
 .rw[s,s2,if_pos rfl];exact⟨fun h=>⟨inv1 (lt1 (We.1 (by omega))),s3⟩,fun h=>⟨inv2 (lt2 (Xg.1 (by omega))),s3⟩⟩
theorem Hd{X:Rat}(hv:0<X)(n:Bool):0<Wq X n:=by
 unfold Wq;split
 .rw[Rat.lt_div_iff hv];grind
 .exact hv
theorem Qal{b:Rat}{M K:Nat}{Z:In}{z sgn':Int}{B s:Nat}{f:Int}(hz:0<=z/\z<=3)(hs:8<=s/\s<=2400)(d1:Sd Z.lo)(d2:Sd Z.hi)(K0:0<K)(b0:0<b)(sg:(sgn'=1->1<b/\0<M)/\(sgn'=-1->b<1/\0<M))
  (low:∀v,Q (rv Z.lo) v->v^K<=b^M) (high:∀v,P (rv Z.hi) v->b^M<=v^K) (c:Ll Z s sgn' z B f):Vm b M K z B:=by
 have zk1:Zk (8000:Nat) Z.lo:=⟨by have:=d1.2.1;omega,by have:=d1.2.1;omega,by have:=d1.2.2;omega⟩
 have zk2:Zk (8000:Nat) Z.hi:=⟨by have:=d2.2.1;omega,by have:=d2.2.1;omega,by have:=d2.2.2;omega⟩
 rcases c with⟨h,rfl⟩|⟨h,rfl⟩|⟨h1,h,hB⟩|⟨h1,h,hB⟩|⟨I,⟨n1,n2,l,h,c,d,k,a,b,E⟩,qi,i1,i2,hB1,hB2,-⟩
 .refine Qag K0 (low _ (Qlf.le_z ?_));have h2:=(Ww zk1 (b:=Qk 710) (by rw[Qau];exact⟨by decide,by decide,by decide⟩)).2.1 h;have e:rv (Qk 710)=710:=by rw[Qau];unfold rv val;simp only;rw[Qef];simp;push_cast;grind
  rwa[e]at h2
 .refine Ia b0 K0 (high _ (Qle.le_z ?_));have h2:=(Ww zk2 (b:=Qk (-746)) (by rw[Qat];exact⟨by decide,by decide,by decide⟩)).1.1 h;have e:rv (Qk (-746))=-746:=by rw[Qat];unfold rv val;simp only;rw[Qef];simp;push_cast;grind
  rwa[e]at h2
 .refine Qah hz hB (sg.1 h1).1 (sg.1 h1).2 (high _ (Qeq.le_z ?_));have h2:=(Ww zk2 (b:=Qv) ⟨by decide,by decide,by decide⟩).1.1 (by omega);have e:rv Qv=1/(2:Rat)^60:=by unfold rv Qv;simp only;rw[Vf,show(-60:Int)=-((60:Nat):Int)from rfl,Kv];simp
  rwa[e]at h2
 .refine Qai hz hB b0 (sg.2 h1).1 (sg.2 h1).2 (low _ ?_);have h2:=(Ww zk1 (b:=Xa Qv) (by rw[Na];exact⟨by decide,by decide,by decide⟩)).2.1 (by omega);have e:rv (Xa Qv)=-(1/(2:Rat)^60):=by rw[Na];unfold rv;simp only;rw[Vf,show(-60:Int)=-((60:Nat):Int)from rfl,Kv];simp
  rw[e]at h2;refine(Qeq.neg.le_z h2).le_x ?_ ?_
  .have t:=Zl 55;have t1:2<=(2:Rat)^55:=by rw[<-Xt];exact_mod_cast (by decide:2<=2^55)
   have:1/(2:Rat)^55<1:=by rw[Rat.div_lt_iff t];grind
   grind
  .have:=(Pg 55).1;generalize 1/(2:Rat)^55=q at *
   rw[<-Rat.not_lt,Rat.div_lt_iff (by grind),Rat.not_lt];have:=Rat.mul_nonneg this this;grind
 .have e:=Qiw E d1 d2 (by omega:8<=s/\s<=3000);have r1:rv I.lo=val I.lo.m I.lo.e:=by unfold rv;rw[qi.1.ng];simp
  have r2:rv I.hi=val I.hi.m I.hi.e:=by unfold rv;rw[qi.2.1.ng];simp
  rw[r1,r2]at e;exact⟨_,_,_,_,i1,i2,hB1,hB2,low _ (e.1 (Kg i1 _)),high _ e.2⟩
theorem Lr{z:Int}(hz:0<=z/\z<=3):4607182418800017408=Xk 1 0 false z:=by rcases(by omega:z=0\/z=1\/z=2\/z=3)with rfl|rfl|rfl|rfl<;>decide
end Go.Proofs.YtobpioceopfkpaaGreatDoor
namespace Go.Proofs.YtobpioceopfkpaaGreatDoor
open Go.RowKit
open World (setCell alloc drew)
open List (set_cons_zero set_cons_succ setIfInBounds_toArray cons_append nil_append)
theorem Ak.ag{w:World}{v:Value}{x y:Dn}{z tt:Int}(h:Ak w v x y z tt):Ag w v x y 1 z tt:=h
theorem Fm{d:Dn}{K p:Nat}(h1:-(K:Int)<=d.e)(h0:d.m≠0)(h2:(bl d.m:Int)+d.e+K<=p):Vb K p d:=by refine⟨h1,fun h=>absurd h h0,?_⟩;unfold mz;have h3:d.m*2^(d.e+(K:Int)).toNat<=2^bl d.m*2^(d.e+(K:Int)).toNat:=Nat.mul_le_mul_right _ (Nat.le_of_lt (Zb _));rw[<-Nat.pow_add]at h3;exact Nat.le_trans h3 (Nat.pow_le_pow_right (by decide) (by omega))
structure XOk(x:Nat):Prop where
 hx:x<9223372036854775808
 fx:Qp x<2047
 nx:¬(Qp x=0/\Xs x=0)
 h1:x≠4607182418800017408
structure YOk(y:Nat):Prop where
 hy:y<18446744073709551616
 fy:Qp y<2047
 ny:¬(Qp y=0/\Xs y=0)
theorem Dp{x y:Nat}(hx:XOk x)(hy:YOk y):Yo (Qf x) (Qf y)/\(Qf y).m≠0/\(Qa (Qf x)).m%2=1/\(Ze (Qf x) (Qf y)=1\/Ze (Qf x) (Qf y)=-1) /\
  ∀z tt:Int,0<=z/\z<=3->(tt=64\/tt=512\/tt=1024)->Kq (Qf x) (Qf y) 1 z tt:=by
 obtain⟨hx,fx,nx,h1⟩:=hx;obtain⟨hy,fy,ny⟩:=hy;have hs:=Qap hx fx nx h1 fy ny;obtain⟨x1,x2,x3,x4,x5,x6,x7,x8⟩:=Xo fx nx;obtain⟨y1,y2,y3,y4,y5,y6,y7,y8⟩:=Xo fy ny;obtain⟨xs,xt1,xt2⟩:=Pw fx nx;obtain⟨ys,yt1,yt2⟩:=Pw fy ny;have hsx:J7 x=false:=decide_eq_false (by omega);have hs2:Ze (Qf x) (Qf y)=1\/Ze (Qf x) (Qf y)=-1:=by rw[hs];split;exact .inl rfl;exact .inr rfl
 have hodd:(Qa (Qf x)).m%2=1:=by obtain⟨k,j,-,hd,-⟩:=Ji (n:=J7 x) (Lv nx) ⟨(by have:=Us fx;omega:-100000<=Jt x),by have:=Us fx;omega⟩;rw[x6,show Qf x=_ from hd];show(2*j+1)%2=1;omega
 refine⟨⟨by rw[x6,x1,hsx],by rw[x6];exact x2,Nat.le_trans (by rw[x6];exact Dw ⟨xt1,xt2⟩) (by decide),Fm (by omega) y2 (by omega),by omega⟩,y2,hodd,hs2,fun z tt hz htt=>?_⟩;exact⟨xs,ys,by rw[x1,hsx],x2,by rw[x6];omega,⟨by rw[x6];omega,by rw[x6];omega⟩,by rw[y6];omega,⟨by rw[y6];omega,by rw[y6];omega⟩,hz,htt,by decide,x6,y6⟩
open Rl
def Ae(b:Nat):Nat:=Xi b*2^(max (Qp b) 1-1)
def Sh:Rat:=(2:Rat)^(-1074:Int)
theorem Qfg:0<Sh:=Yg (-1074)
theorem Qfs{b:Nat}(hf:Qp b<2047):rv (Qf b)=if J7 b then -((Ae b:Rat)*Sh)else(Ae b:Rat)*Sh:=by
 have he:=Us hf;have e1:rv (Qf b)=rv ⟨J7 b,Xi b,Jt b⟩:=Yx ⟨by show _<=Jt b;omega,by show Jt b<=_;omega⟩;have e2:val (Xi b) (Jt b)=(Ae b:Rat)*Sh:=by unfold val Ae;push_cast;rw[show Jt b=((max (Qp b) 1-1:Nat):Int)+(-1074)by unfold Jt;omega,Va,Wj];exact(Rat.mul_assoc _ _ _).symm
 rw[e1];unfold rv;simp only;rw[e2]
theorem Qcn{b:Rat}{M K:Nat}{z:Int}(hz:0<=z/\z<=3)(h:b^M=1):Vm b M K z 4607182418800017408:=by
 have e:val 1 0^K=1:=by rw[Vf,Gw,one_pow]
 exact⟨1,0,1,0,by decide,by decide,Lr hz,Lr hz,by rw[e,h];exact Rat.le_refl,by rw[e,h];exact Rat.le_refl⟩
end Go.Proofs.YtobpioceopfkpaaGreatDoor
set_option exponentiation.threshold 9000
namespace Go.Proofs.YtobpioceopfkpaaGreatDoor
open Go.RowKit
open World (setCell alloc drew)
open List (set_cons_zero set_cons_succ setIfInBounds_toArray cons_append nil_append)
open Rl
theorem Qcj{b:Nat}(h:b<9223372036854775808):Ae b=Rf.Zd b:=by
 unfold Ae Xi Qp Xs Rf.Zd;rw[show b/4503599627370496%2048=b/4503599627370496 by omega];by_cases h1:b<2^52
 .rw[if_pos h1,if_pos (by omega),show b/4503599627370496=0 by omega,show b%4503599627370496=b by omega];simp
 .rw[if_neg h1,if_neg (by omega),show max (b/4503599627370496) 1=b/4503599627370496 by omega,show b%4503599627370496+4503599627370496=2^52+b%2^52 by omega]
theorem Ud{B:Nat}(h:B<9218868437227405312):B<9223372036854775808/\Qp B<2047/\J7 B=false:=by refine⟨by omega,by unfold Qp;omega,decide_eq_false (by omega)⟩
theorem Ra{B:Nat}(h:B<9218868437227405312):rv (Qf B)=(Rf.Zd B:Rat)*Sh:=by obtain⟨h1,h2,h3⟩:=Ud h;rw[Qfs h2,h3,if_neg (by simp),Qcj h1]
theorem Qcx(A p:Nat):Nk A p 3*2^p<=A:=by
 have e:∀a b c,Ul 3 a b c=false:=by intro a b c;cases a<;>cases b<;>cases c<;>decide
 unfold Nk;rw[e,if_neg (by simp)];exact Nat.div_mul_le_self _ _
theorem Qib{A p:Nat}(hp:0<p):A<=Nk A p 2*2^p:=by
 obtain⟨k,rfl⟩:∃k,p=k+1:=⟨p-1,by omega⟩
 have d:=Nat.div_add_mod A (2^(k+1));have l:=Nat.mod_lt A (Nat.two_pow_pos (k+1));have e:∀a b c,Ul 2 a b c=(b||c):=by intro a b c;cases a<;>cases b<;>cases c<;>decide
 unfold Nk;rw[e,Nat.add_sub_cancel];split
 .rw[Nat.add_mul,Nat.mul_comm (A/2^(k+1))];omega
 .rename_i h;simp only[Bool.or_eq_true,beq_iff_eq,decide_eq_true_eq,not_or,Classical.not_not]at h;have h1:=Nat.div_add_mod A (2^k);rw[h.2,Nat.add_zero]at h1;have h3:A/2^(k+1)=A/2^k/2:=by rw[Nat.pow_succ,Nat.div_div_eq_div_mul]
  have h2:=h.1;rw[h3,Nat.pow_succ];clear d l e h h3;generalize A/2^k=q at *
  have e2:q/2*(2^k*2)=2^k*(2*(q/2)):=by rw[Nat.mul_comm,Nat.mul_assoc]
  rw[e2,show 2*(q/2)=q by omega];omega
theorem Hl{m:Nat}{e z:Int}{K:Nat}(hK:1075<=K)(h0:m≠0)(he:-(K:Int)<=e)(h1:¬1023<(bl m:Int)-1+e)(h2:¬(bl m:Int)-1+e < -1075) :
  ∃L k p:Nat,Rf.Zd (Xk m e false z)=k*2^L/\k=Nk (m*2^(e+K).toNat) p z/\(p:Int)=L-1074+K/\0<p:=by
 have hl:=Nn (m:=m) (n:=Zq ((bl m:Int)-1+e)-e) (by unfold Zq;omega);have hc:=Gp m (Zq ((bl m:Int)-1+e)-e) z false;have hg:=Dl (m:=m) (n:=Zq ((bl m:Int)-1+e)-e) h0;have hu:-1074<=Zq ((bl m:Int)-1+e):=by unfold Zq;omega
 unfold Xk;rw[if_neg h1,if_neg h2];refine⟨(Zq ((bl m:Int)-1+e)+1074).toNat,(Xf m (Zq ((bl m:Int)-1+e)-e) z false).1,(Zq ((bl m:Int)-1+e)+K).toNat,?_,Qic he (by omega) z,by omega,by omega⟩;refine Rf.Pb _ _ ?_;by_cases hs:(Zq ((bl m:Int)-1+e)+1074).toNat=0
 .left;exact⟨hs,by omega⟩
 .right;have:=hg (by unfold Zq at hs |-;omega);omega
theorem Qaa{K:Nat}(hK:1075<=K):Sh*(2:Rat)^(K:Int)=((2^(K-1074):Nat):Rat):=by unfold Sh;rw[<-Va,show(-1074:Int)+(K:Int)=((K-1074:Nat):Int)by omega,Wj,Xt]
theorem Dc{a b:Rat}{K:Nat}(h:a*(2:Rat)^(K:Int)<=b*(2:Rat)^(K:Int)):a<=b:=by have t:=Yg (K:Int);rw[<-Rat.not_lt];intro hlt;have:=Rat.mul_lt_mul_of_pos_right hlt t;grind
theorem Qeg{m n K:Nat}{e:Int}(hK:1075<=K)(he:-(K:Int)<=e):(n*2^(K-1074)<=m*2^(e+K).toNat->(n:Rat)*Sh<=val m e)/\(m*2^(e+K).toNat<=n*2^(K-1074)->val m e<=(n:Rat)*Sh):=by
 have h1:=Sk (K:=K) (d:=⟨false,m,e⟩) he;have h2:=Qaa hK;have e1:(n:Rat)*Sh*(2:Rat)^(K:Int)=((n*2^(K-1074):Nat):Rat):=by rw[Rat.mul_assoc,h2];push_cast;rfl
 have e2:val m e*(2:Rat)^(K:Int)=((m*2^(e+K).toNat:Nat):Rat):=by rw[Wj];exact h1.symm
 constructor
 .intro h;refine Dc (K:=K) ?_;rw[e1,e2];exact_mod_cast h
 .intro h;refine Dc (K:=K) ?_;rw[e1,e2];exact_mod_cast h
theorem H5{m K:Nat}{e:Int}(h0:m≠0)(he:-(K:Int)<=e){t:Nat}(ht:(bl m:Int)-1+e+K=t):2^t<=m*2^(e+K).toNat/\m*2^(e+K).toNat<2^(t+1):=by
 have hp:=Zi h0;have h1:2^(bl m-1)<=m:=by rw[hp];exact Nat.log2_self_le h0
 have h2:=Zb m;have h3:=Nat.two_pow_pos (e+K).toNat
 constructor
 .rw[show t=(bl m-1)+(e+K).toNat by omega,Nat.pow_add];exact Nat.mul_le_mul_right _ h1
 .rw[show t+1=bl m+(e+K).toNat by omega,Nat.pow_add];exact Nat.mul_lt_mul_of_pos_right h2 h3
theorem Qey(e t:Int):∃K:Nat,1075<=K/\-(K:Int)<=e/\0<=t+K:=⟨1075+e.natAbs+t.natAbs,by omega,by omega,by omega⟩
theorem Qgp{m B:Nat}{e:Int}(h0:m≠0)(hB:B=Xk m e false 3)(hf:B<9218868437227405312)(hp:B≠0):rv (Qf B)<=val m e:=by
 rw[Ra hf];obtain⟨K,hK,he,ht⟩:=Qey e ((bl m:Int)-1+e);refine(Qeg hK he).1 ?_;by_cases o:1023<(bl m:Int)-1+e
 .have h1:=Rf.Ly (Nat.le_of_lt (show B<Rf.Km by unfold Rf.Km;omega));rw[Rf.Nr]at h1;obtain⟨t,et⟩:∃t:Nat,(bl m:Int)-1+e+K=t:=⟨((bl m:Int)-1+e+K).toNat,by omega⟩
  refine Nat.le_trans (Nat.mul_le_mul_right _ h1) (Nat.le_trans ?_ (H5 h0 he et).1);rw[<-Nat.pow_add];exact Nat.pow_le_pow_right (by decide) (by omega)
 by_cases d:(bl m:Int)-1+e < -1075
 .refine absurd ?_ hp;rw[hB];unfold Xk;rw[if_neg o,if_pos d];rfl
 obtain⟨L,k,p,h1,h2,h3,h4⟩:=Hl (z:=3) hK h0 he o d;rw[hB,h1,Nat.mul_assoc,<-Nat.pow_add,show L+(K-1074)=p by omega,h2];exact Qcx _ _
theorem Qjz{m B:Nat}{e:Int}(h0:m≠0)(hB:B=Xk m e false 2)(hf:B<9218868437227405312):val m e<=rv (Qf B):=by
 rw[Ra hf];obtain⟨K,hK,he,ht⟩:=Qey e ((bl m:Int)-1+e);refine(Qeg hK he).2 ?_;by_cases o:1023<(bl m:Int)-1+e
 .refine absurd hf ?_;rw[hB];unfold Xk;rw[if_pos o];decide
 by_cases d:(bl m:Int)-1+e < -1075
 .have hb:B=1:=by rw[hB];unfold Xk;rw[if_neg o,if_pos d];rfl
  obtain⟨t,et⟩:∃t:Nat,(bl m:Int)-1+e+K=t:=⟨((bl m:Int)-1+e+K).toNat,by omega⟩
  rw[hb,show Rf.Zd 1=1 by decide,Nat.one_mul];refine Nat.le_trans (Nat.le_of_lt (H5 h0 he et).2) ?_;exact Nat.pow_le_pow_right (by decide) (by omega)
 obtain⟨L,k,p,h1,h2,h3,h4⟩:=Hl (z:=2) hK h0 he o d;rw[hB,h1,Nat.mul_assoc,<-Nat.pow_add,show L+(K-1074)=p by omega,h2];exact Qib h4
theorem Qj2{B:Nat}(hf:B<9218868437227405312):0<=rv (Qf B):=by rw[Ra hf];exact Rat.mul_nonneg (nn _) (Rat.le_of_lt Qfg)
theorem Qaj{b:Rat}{M K B:Nat}(h:Vm b M K 3 B)(hf:B<9218868437227405312)(hp:B≠0):rv (Qf B)^K<=b^M:=by obtain⟨m,e,m',e',h0,-,hB,-,h1,-⟩:=h;exact Rat.le_trans (Mp (Qj2 hf) (Qgp h0 hB hf hp) K) h1
theorem Qfn{b:Rat}{M K B:Nat}(h:Vm b M K 2 B)(hf:B<9218868437227405312):b^M<=rv (Qf B)^K:=by obtain⟨m,e,m',e',-,h0,-,hB,-,h1⟩:=h;exact Rat.le_trans h1 (Mp (Qhz m' e') (Qjz h0 hB hf) K)
end Go.Proofs.YtobpioceopfkpaaGreatDoor
set_option exponentiation.threshold 256
namespace Go.Proofs.YtobpioceopfkpaaGreatDoor
open Go.RowKit
open World (setCell alloc drew)
open List (set_cons_zero set_cons_succ setIfInBounds_toArray cons_append nil_append)
def hx:Nat:=4611686018427387904
def hy:Nat:=4602678819172646912
def PPh(B:Nat)(f:Int)(ok:Bool):Prop:=ok=true/\B=4609047870845172685/\f=1
theorem Il:XOk hx:=⟨by decide,by decide,by decide,by decide⟩
theorem Ik:YOk hy:=⟨by decide,by decide,by decide⟩
theorem Qge{d:Dn}(h:Th (Qf hx) (Qf hy) d):False:=by
 obtain⟨g,r,hg,⟨-,-,h2,-⟩,-⟩:=h;have e1:Zr (Qf hy)=1:=by kernel_rfl
 have e2:Vs (Qf hy)=2:=by kernel_rfl
 have e3:(Qa (Qf hx)).e=1:=by kernel_rfl
 rw[e1,e2]at hg;obtain rfl:g=1:=hg;rw[e2,e3]at h2;have h2:r.e*2=1:=h2;omega
theorem Qdb{w:World}{u:Value}(h:Ag w u (Qf hx) (Qf hy) 1 0 1024):Calls Tryz.prog 45 #[u,.int .i64 (Ze (Qf hx) (Qf hy)),.int .i64 64] w (Jo PPh QE w):=by
 obtain⟨nu,-,-,hs,ok⟩:=Dp Il Ik;refine(Qfk h (ok 0 1024 (by decide) (by decide)) nu hs 64 (by decide) (by decide) (s:=128) (by kernel_rfl)).mono ?_;have k0:Rh (Xz (Qf hx) (Qf hy) 128) 128=true:=by kernel_rfl
 have k1:Gg (Sp (Xz (Qf hx) (Qf hy) 128) 128) 0=true:=by kernel_rfl
 have k2:Qh (Xz (Qf hx) (Qf hy) 128).lo (Qk 710)=-1:=by kernel_rfl
 have k3:Qh (Xz (Qf hx) (Qf hy) 128).hi (Qk (-746))=1:=by kernel_rfl
 have k4:Qh (Xz (Qf hx) (Qf hy) 128).hi Qv=1:=by kernel_rfl
 have k5:Ze (Qf hx) (Qf hy)=1:=by kernel_rfl
 have k6:Xk (Sp (Xz (Qf hx) (Qf hy) 128) 128).lo.m (Sp (Xz (Qf hx) (Qf hy) 128) 128).lo.e false 0=4609047870845172685:=by kernel_rfl
 have k7:Wh (Sp (Xz (Qf hx) (Qf hy) 128) 128).lo.m (Sp (Xz (Qf hx) (Qf hy) 128) 128).lo.e false 0=1:=by kernel_rfl
 rintro e w' ⟨B,f,o,n1,s1,l1,d1,e1,n2,s2,l2,d2,e2,he,hp,hi,hb⟩;refine⟨B,f,o,n1,s1,l1,d1,e1,n2,s2,l2,d2,e2,he,?_,hi,hb⟩;cases o
 .exfalso;rcases hp.2 rfl with h|h
  .rw[k0]at h;cases h
  .rw[k1]at h;cases h
 .rcases(hp.1 rfl).2 with⟨h,-⟩|⟨h,-⟩|⟨-,h,-⟩|⟨h,-⟩|⟨I,⟨_,_,_,_,_,_,_,_,_,E⟩,-,-,-,hB,-,hf⟩
  .omega
  .omega
  .omega
  .omega
  .rw[E.is,k6]at hB;rw[E.is,k7]at hf;exact⟨rfl,hB,hf⟩
theorem Qgf{w:World}{u:Value}(h:Ag w u (Qf hx) (Qf hy) 1 0 1024):Calls Tryz.prog 20 #[u,.pointer none] w (Vo PPh w):=by obtain⟨nu,y0,hodd,hs,ok⟩:=Dp Il Ik;have ok:=ok 0 1024 (by decide) (by decide);refine Qee (FF:=False) (G:=True) (R:=fun _=>False) (QI:=QE) (.inr ⟨rfl,rfl⟩) h ok (fun w u h=>?_) (fun d h=>h.elim) (fun _ w u h=>Qdb h) (fun B f h=>by cases h.1) (fun _ f=>f.elim) (fun w u I hq hI=>Sn hq.1 hq.2.1 hq.2.2 0 ok.hz hI);refine(Qbi h ok nu (by omega) y0 hodd).mono ?_;rintro e w' ⟨v,d,o,he,hc,hr,hb⟩;exact⟨v,d,o,he,hc,fun ho=>Qge (hr ho),fun _=>trivial,hb⟩
theorem Qd9{w:World}(t:Qq w):Calls Tryz.prog 11 #[.int .u64 4611686018427387904,.int .u64 4602678819172646912,Kz 0 1024] w fun e w'=>∃n:Int,e=.returned (.tuple #[.agg #[.int .u64 4609047870845172685,.int .u8 1,.int .i64 0],.int .i64 n,.int .i64 0])/\Below w.heap.size w w':=by
 have X:=Il;have Y:=Ik;obtain⟨wh,od,cw⟩:=Ov Y.hy Y.fy (by have:=(Xo Y.fy Y.ny).2.2.1;omega);refine(Qkn (x:=hx) (y:=hy) (z:=0) (tt:=1024) X.hx Y.hy X.fx Y.fy X.nx Y.ny X.h1 cw t (by decide) (by decide) (fun w' r h=>Qgf h.ag)).mono ?_;rintro e w' ⟨B,f,st,n,he,h,hb⟩;rcases h with⟨rfl,B',rfl,-,rfl,rfl⟩|⟨-,-,h⟩
 .exact⟨n,he,hb⟩
 .cases h.1
theorem Qg7{w:World}(t:Qq w):Calls Tryz.prog 8 #[] w fun e w'=>e=.returned (.bool true)/\Below w.heap.size w w':=by
 have CP:=h_ (fun w=>Qhj w);have CW:=h_ (fun w (t:Qq w)=>Qd9 (w:=w) t);unfold Kz at *
 have HT:=h_ t;clear t;go_enter Tryz.func8,Tryz.ntmps8;have F0:=h_ (Fz.nil w);go_wp2_with fail;refine(CP.o _).mono ?_;rintro q w1 ⟨rfl,hb⟩;have F1:=h_ (F0.o.call hb);have T1:=h_ (HT.o.below hb);go_wp2_with fail;refine(CW.o _ T1.o).mono ?_;rintro q w2 ⟨n,rfl,hb⟩;have F2:=h_ (F1.o.call hb);go_upto_region 2 with(fail)
 have F3:=h_ (F2.o.new 32 #[.int .u64 4609047870845172685,.int .u8 1,.int .i64 0]);generalize alloc w2 _=W3 at F3 |-;have c0:=F3.o.c3 0 rfl;go_wp2;go_ret;exact⟨rfl,F3.o.b⟩
end Go.Proofs.YtobpioceopfkpaaGreatDoor
