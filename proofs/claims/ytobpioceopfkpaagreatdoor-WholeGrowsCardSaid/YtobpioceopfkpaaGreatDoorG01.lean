/-
  Lemmas for WholeGrows, part 1 of 3: what the program's functions do, and plain facts; without conditions.
-/
import Derived.Test.YtobpioceopfkpaaGreatDoorM23
set_option maxRecDepth 100000
set_option maxHeartbeats 4000000
namespace Go.Proofs.YtobpioceopfkpaaGreatDoor.Rl
def shf (f:Nat→Rat):Nat→Rat:=fun k=>f (k+1)
def cv:(Nat→Rat)→(Nat→Rat)→Nat→Rat
 | f,g,0=>f 0 * g 0
 | f,g,n+1=>f 0 * g (n+1)+cv (shf f) g n
def psum (f:Nat→Rat):Nat→Rat
 | 0=>0
 | n+1=>psum f n+f n
theorem psum_shf (f:Nat→Rat) (n:Nat):psum f (n+1)=f 0+psum (shf f) n:=by
 induction n with
 | zero=>simp only [psum]; grind
 | succ n ih=>rw [psum,ih,psum]; simp only [shf]; grind
theorem cv_lin (c:Rat) (f g h:Nat→Rat) (n:Nat):cv (fun k=>c * f k+g k) h n=c * cv f h n+cv g h n:=by
 induction n generalizing f g with
 | zero=>simp only [cv]; grind
 | succ n ih =>
  simp only [cv]
  have:=ih (shf f) (shf g)
  have e:shf (fun k=>c * f k+g k)=fun k=>c * shf f k+shf g k:=rfl
  rw [e,this]; grind
theorem cv_assoc (f g h:Nat→Rat) (n:Nat):cv (cv f g) h n=cv f (cv g h) n:=by
 induction n generalizing f g h with
 | zero=>simp only [cv]; grind
 | succ n ih =>
  have e:shf (cv f g)=fun k=>f 0 * shf g k+cv (shf f) g k:=rfl
  rw [cv,e,cv_lin,ih]
  simp only [cv]; grind
theorem cv_right (f g:Nat→Rat) (n:Nat):cv f g (n+1)=cv f (shf g) n+f (n+1) * g 0:=by
 induction n generalizing f with
 | zero=>simp only [cv,shf]
 | succ n ih =>
  rw [cv,ih]
  simp only [cv,shf]; grind
theorem cv_comm (f g:Nat→Rat) (n:Nat):cv f g n=cv g f n:=by
 induction n generalizing f g with
 | zero=>simp only [cv]; grind
 | succ n ih=>rw [cv,cv_right,ih]; grind
theorem cv_left (f g h:Nat→Rat) (n:Nat):cv f (cv g h) n=cv g (cv f h) n:=by
 rw [← cv_assoc,← cv_assoc]
 have:cv f g=cv g f:=funext (cv_comm f g)
 rw [this]
def der (f:Nat→Rat):Nat→Rat:=fun k=>((k+1:Nat):Rat) * f (k+1)
theorem cv_der (f g:Nat→Rat) (n:Nat):der (cv f g) n=cv (der f) g n+cv f (der g) n:=by
 induction n generalizing f with
 | zero=>simp only [der,cv,shf]; grind
 | succ n ih =>
  have h:=ih (shf f)
  have e:der (shf f)=fun k=>(-1:Rat) * shf (shf f) k+shf (der f) k:=by
   funext k; simp only [der,shf]; push_cast; grind
  rw [e,cv_lin] at h
  simp only [der,cv] at h ⊢
  simp only [cv,shf,der] at *
  push_cast at *
  grind
theorem cv_nonneg {f g:Nat→Rat} (hf:∀ k,0≤f k) (hg:∀ k,0≤g k) (n:Nat):0≤cv f g n:=by
 induction n generalizing f with
 | zero=>exact Rat.mul_nonneg (hf 0) (hg 0)
 | succ n ih =>
  have h1:=ih (f:=shf f) (fun k=>hf (k+1))
  have h2:=Rat.mul_nonneg (hf 0) (hg (n+1))
  rw [cv]; grind
theorem psum_nonneg {f:Nat→Rat} (hf:∀ k,0≤f k) (n:Nat):0≤psum f n:=by
 induction n with
 | zero=>exact Rat.le_refl
 | succ n ih=>rw [psum]; have:=hf n; grind
theorem psum_mono {f:Nat→Rat} (hf:∀ k,0≤f k) (n m:Nat):psum f n≤psum f (n+m):=by
 induction m with
 | zero=>exact Rat.le_refl
 | succ m ih=>rw [← Nat.add_assoc,psum]; have:=hf (n+m); grind
theorem psum_cv (f g:Nat→Rat) (n:Nat):psum (cv f g) (n+1)=f 0 * psum g (n+1)+psum (cv (shf f) g) n:=by
 induction n with
 | zero=>simp only [psum,cv]; grind
 | succ n ih=>rw [psum,ih,psum]; simp only [psum,cv]; grind
theorem psum_cv_le {f g:Nat→Rat} (hf:∀ k,0≤f k) (hg:∀ k,0≤g k) (n:Nat):psum (cv f g) n≤psum f n * psum g n:=by
 induction n generalizing f with
 | zero=>simp only [psum]; grind
 | succ n ih =>
  have h1:=ih (f:=shf f) (fun k=>hf (k+1))
  have h2:=psum_mono hg n 1
  have h3:=psum_nonneg (f:=shf f) (fun k=>hf (k+1)) n
  have h4:=Rat.mul_le_mul_of_nonneg_left h2 h3
  rw [psum_cv,psum_shf f]; grind
theorem psum_cv_ge {f g:Nat→Rat} (hf:∀ k,0≤f k) (hg:∀ k,0≤g k) (n m:Nat):psum f n * psum g m≤psum (cv f g) (n+m):=by
 induction n generalizing f with
 | zero=>have:=psum_nonneg (cv_nonneg hf hg) (0+m); simp only [psum]; grind
 | succ n ih =>
  have h1:=ih (f:=shf f) (fun k=>hf (k+1))
  have h2:=psum_mono hg m (n+1)
  have h4:=Rat.mul_le_mul_of_nonneg_left h2 (hf 0)
  have e:n+1+m=n+m+1:=by omega
  have e2:m+(n+1)=n+m+1:=by omega
  rw [e2] at h4
  rw [e,psum_cv,psum_shf f]; grind
theorem inv_nn {a:Rat} (h:0≤a):0≤a⁻¹:=by
 by_cases h0:a=0
 ·rw [h0]; simp
 ·exact Rat.le_of_lt (Rat.inv_pos.2 (Rat.lt_of_le_of_ne h (Ne.symm h0)))
def ex (a:Rat):Nat→Rat
 | 0=>1
 | k+1=>ex a k * a / ((k+1:Nat):Rat)
theorem ex_nonneg {a:Rat} (ha:0≤a) (k:Nat):0≤ex a k:=by
 induction k with
 | zero=>exact (by decide:(0:Rat)≤1)
 | succ k ih =>
  rw [ex,Rat.div_def]
  exact Rat.mul_nonneg (Rat.mul_nonneg ih ha) (inv_nn (by exact_mod_cast Nat.zero_le _))
theorem succ_ne (n:Nat):((n+1:Nat):Rat) ≠ 0:=by
 intro h; have:n+1=0:=by exact_mod_cast h
 omega
theorem der_ex (a:Rat) (k:Nat):der (ex a) k=a * ex a k:=by
 simp only [der,ex]
 have:=succ_ne k
 generalize ((k+1:Nat):Rat)=q at *
 grind
theorem ex_uniq (a:Rat) (h:Nat→Rat) (h0:h 0=1) (hs:∀ n,der h n=a * h n) (n:Nat):h n=ex a n:=by
 induction n with
 | zero=>exact h0
 | succ n ih =>
  have h1:=hs n
  simp only [der] at h1
  rw [ex,← ih]
  have:=succ_ne n
  generalize ((n+1:Nat):Rat)=q at *
  grind
theorem cv_scale (c:Rat) (f g:Nat→Rat) (n:Nat):cv (fun k=>c * f k) g n=c * cv f g n:=by
 have:=cv_lin c f (fun _=>0) g n
 have e:cv (fun _=>0) g n=0:=by
  clear this
  induction n with
  | zero=>simp only [cv]; grind
  | succ n ih=>simp only [cv]; have:shf (fun _=>(0:Rat))=fun _=>0:=(rfl); rw [this,ih]; grind
 have e2:(fun k=>c * f k+(fun _=>(0:Rat)) k)=fun k=>c * f k:=by funext k; grind
 rw [e2] at this
 rw [this,e]; grind
theorem ex_add (a b:Rat) (n:Nat):cv (ex a) (ex b) n=ex (a+b) n:=by
 refine ex_uniq (a+b) _ (by simp [cv,ex]) (fun n=>?_) n
 have ea:der (ex a)=fun k=>a * ex a k:=funext (der_ex a)
 have eb:der (ex b)=fun k=>b * ex b k:=funext (der_ex b)
 rw [cv_der,ea,eb,cv_scale,cv_comm (ex a) (fun k=>b * ex b k),cv_scale,cv_comm (ex b)]
 grind
def E (a:Rat) (n:Nat):Rat:=psum (ex a) n
theorem E_le {a b:Rat} (ha:0≤a) (hb:0≤b) (n:Nat):E (a+b) n≤E a n * E b n:=by
 have:=psum_cv_le (ex_nonneg ha) (ex_nonneg hb) n
 have e:cv (ex a) (ex b)=ex (a+b):=funext (ex_add a b)
 rw [e] at this; exact this
theorem E_ge {a b:Rat} (ha:0≤a) (hb:0≤b) (n m:Nat):E a n * E b m≤E (a+b) (n+m):=by
 have:=psum_cv_ge (ex_nonneg ha) (ex_nonneg hb) n m
 have e:cv (ex a) (ex b)=ex (a+b):=funext (ex_add a b)
 rw [e] at this; exact this
theorem E_mono {a:Rat} (ha:0≤a) (n m:Nat):E a n≤E a (n+m):=psum_mono (ex_nonneg ha) n m
theorem E_one {a:Rat} (ha:0≤a) (n:Nat):1≤E a (n+1):=by
 have h:=psum_mono (ex_nonneg ha) 1 n
 have e:psum (ex a) 1=1:=by simp only [psum,ex]; grind
 rw [e,Nat.add_comm] at h; exact h
def U (a u:Rat):Prop:=∀ n,E a n≤u
def R (a b u:Rat):Prop:=∀ n w,U b w→E a n≤u * w
theorem E_nonneg {a:Rat} (ha:0≤a) (n:Nat):0≤E a n:=psum_nonneg (ex_nonneg ha) n
theorem U.pos {a u:Rat} (ha:0≤a) (h:U a u):1≤u:=Rat.le_trans (E_one ha 0) (h 1)
theorem mul_le {a b c d:Rat} (h1:a≤b) (h2:c≤d) (h3:0≤b) (h4:0≤c):a * c≤b * d :=
 Rat.le_trans (Rat.mul_le_mul_of_nonneg_right h1 h4) (Rat.mul_le_mul_of_nonneg_left h2 h3)
theorem U.add {a b u v:Rat} (ha:0≤a) (hb:0≤b) (h:U a u) (k:U b v):U (a+b) (u * v):=fun n =>
 Rat.le_trans (E_le ha hb n) (mul_le (h n) (k n) (by have:=h.pos ha; grind) (E_nonneg hb n))
theorem U.half {a:Rat} (ha:0≤a) (h:a+a≤1):U a 2:=by
 have key:∀ n,E a n+2 * ex a n≤2∧ex a (n+1)+ex a (n+1)≤ex a n:=by
  intro n
  have st:∀ n,ex a (n+1)+ex a (n+1)≤ex a n:=by
   intro n
   have h0:=ex_nonneg ha n
   have h1:ex a (n+1) * ((n+1:Nat):Rat)=ex a n * a:=by
    simp only [ex]; have:=succ_ne n; generalize ((n+1:Nat):Rat)=q at *; grind
   have h2:(1:Rat)≤((n+1:Nat):Rat):=by exact_mod_cast Nat.le_add_left 1 n
   have h3:=ex_nonneg ha (n+1)
   have h4:=Rat.mul_le_mul_of_nonneg_left h2 h3
   have h5:=Rat.mul_le_mul_of_nonneg_left h h0
   generalize ((n+1:Nat):Rat)=q at *
   grind
  refine ⟨?_,st n⟩
  induction n with
  | zero=>simp only [E,psum,ex]; grind
  | succ n ih =>
   have:=st n
   have e:E a (n+1)=E a n+ex a n:=rfl
   rw [e]; grind
 intro n
 have:=(key n).1
 have h0:=ex_nonneg ha n
 grind
theorem arch (a:Rat):∃ n:Nat,a≤(n:Rat):=by
 refine ⟨(a.floor+1).toNat,?_⟩
 have h:=Rat.lt_floor_add_one a
 have h2:(a.floor+1:Int)≤((a.floor+1).toNat:Int):=Int.self_le_toNat _
 have h3:((a.floor+1:Int):Rat)≤(((a.floor+1).toNat:Int):Rat):=by exact_mod_cast h2
 exact Rat.le_trans (Rat.le_of_lt h) h3
theorem U.halves (n:Nat):∃ u,U ((n:Rat) / 2) u:=by
 induction n with
 | zero =>
  have e:((0:Nat):Rat) / 2=0:=by grind
  exact ⟨2,by rw [e]; exact U.half (by grind) (by grind)⟩
 | succ n ih =>
  obtain ⟨u,h⟩:=ih
  have e:((n+1:Nat):Rat) / 2=(n:Rat) / 2+1 / 2:=by push_cast; grind
  have h0:(0:Rat)≤(n:Rat) / 2:=by
   have:(0:Rat)≤(n:Rat):=by exact_mod_cast Nat.zero_le n
   grind
  exact ⟨u * 2,by rw [e]; exact h.add h0 (by grind) (U.half (by grind) (by grind))⟩
theorem E_mono_left {a d:Rat} (ha:0≤a) (hd:0≤d) (n:Nat):E a n≤E (a+d) (n+1):=by
 have h1:=E_ge ha hd n 1
 have h2:=E_one hd 0
 have h3:=E_nonneg ha n
 have h4:=Rat.mul_le_mul_of_nonneg_left h2 h3
 have e:(0:Nat)+1=1:=rfl
 rw [e] at h4
 grind
theorem U.anti {a d u:Rat} (ha:0≤a) (hd:0≤d) (h:U (a+d) u):U a u:=fun n=>Rat.le_trans (E_mono_left ha hd n) (h (n+1))
theorem U.some {a:Rat} (ha:0≤a):∃ u,U a u:=by
 obtain ⟨n,hn⟩:=arch (a+a)
 obtain ⟨u,h⟩:=U.halves n
 refine ⟨u,U.anti (d:=(n:Rat) / 2 - a) ha (by grind) ?_⟩
 have e:a+((n:Rat) / 2 - a)=(n:Rat) / 2:=by grind
 rw [e]; exact h
theorem U.least {c r:Rat} (hc:0≤c) (hr:r < 1) (h:∀ w,U c w→U c (r * w)):False:=by
 have key:∀ k:Nat,∀ w,U c w→1+(k:Rat) * (1 - r)≤w:=by
  intro k
  induction k with
  | zero=>intro w hw; have:=hw.pos hc; grind
  | succ k ih =>
   intro w hw
   have h1:=ih _ (h w hw)
   have h2:=hw.pos hc
   have h3:r * w=w - (1 - r) * w:=by grind
   have h4:(1 - r) * 1≤(1 - r) * w:=Rat.mul_le_mul_of_nonneg_left h2 (by grind)
   push_cast
   grind
 obtain ⟨u,hu⟩:=U.some hc
 obtain ⟨k,hk⟩:=arch (u / (1 - r))
 have h1:=key k u hu
 have hp:0 < 1 - r:=by grind
 have h2:=Rat.mul_le_mul_of_nonneg_right hk (Rat.le_of_lt hp)
 have h3:u / (1 - r) * (1 - r)=u:=by have:1 - r ≠ 0:=(by grind); grind
 rw [h3] at h2
 grind
theorem le_div {a b c:Rat} (hc:0 < c):a≤b / c ↔ a * c≤b:=by
 rw [← Rat.not_lt,Rat.div_lt_iff hc,Rat.not_lt]
theorem div_nn {a b:Rat} (ha:0≤a) (hb:0≤b):0≤a / b:=by
 rw [Rat.div_def]; exact Rat.mul_nonneg ha (inv_nn hb)
theorem E_zero (a:Rat):E a 0=0:=rfl
theorem R.add {a b c d u v:Rat} (ha:0≤a) (hb:0≤b) (hc:0≤c) (hd:0≤d) (hu:0 < u) (hv:0 < v) (h:R a b u) (k:R c d v):R (a+c) (b+d) (u * v):=by
 intro n w hw
 have hw1:=hw.pos (by grind)
 by_cases hn:n=0
 ·subst hn
  rw [E_zero]
  exact Rat.mul_nonneg (Rat.mul_nonneg (Rat.le_of_lt hu) (Rat.le_of_lt hv)) (by grind)
 obtain ⟨m,rfl⟩:∃ m,n=m+1:=⟨n - 1,by omega⟩
 have h1:=E_le ha hc (m+1)
 have pa:1≤E a (m+1):=E_one ha m
 have pa0:0 < E a (m+1):=by grind
 have h2:U d (u * w / E a (m+1)):=by
  intro j
  by_cases hj:j=0
  ·subst hj
   rw [E_zero]
   exact div_nn (Rat.mul_nonneg (Rat.le_of_lt hu) (by grind)) (by grind)
  obtain ⟨i,rfl⟩:∃ i,j=i+1:=⟨j - 1,by omega⟩
  have pd:1≤E d (i+1):=E_one hd i
  have h3:U b (w / E d (i+1)):=by
   intro k
   rw [le_div (by grind)]
   exact Rat.le_trans (E_ge hb hd k (i+1)) (hw _)
  have h4:=h (m+1) _ h3
  rw [le_div pa0]
  generalize E a (m+1)=A at *
  generalize E d (i+1)=D at *
  have h5:u * (w / D)=(u * w) / D:=by grind
  rw [h5,le_div (by grind)] at h4
  grind
 have h6:=k (m+1) _ h2
 generalize E a (m+1)=A at *
 generalize E c (m+1)=C at *
 have h5:v * (u * w / A)=(u * v * w) / A:=by grind
 rw [h5,le_div pa0] at h6
 grind
theorem R.refl (a:Rat):R a a 1:=fun n w hw=>by have:=hw n; grind
theorem R.cancel {a b c u:Rat} (ha:0≤a) (hb:0≤b) (hc:0≤c) (hu:0 < u) (h:R (a+c) (b+c) u):R a b u:=by
 intro n w hw
 have hw1:=hw.pos hb
 rw [← Rat.not_lt]
 intro hlt
 have hn:n ≠ 0:=by
  intro hn; subst hn
  rw [E_zero] at hlt
  have:=Rat.mul_nonneg (Rat.le_of_lt hu) (by grind:0≤w)
  grind
 obtain ⟨m,rfl⟩:∃ m,n=m+1:=⟨n - 1,by omega⟩
 have pa:1≤E a (m+1):=E_one ha m
 have pa0:0 < E a (m+1):=by grind
 refine U.least (c:=c) (r:=u * w / E a (m+1)) hc ?_ ?_
 ·rw [Rat.div_lt_iff pa0]; grind
 ·intro v hv j
  have h1:U (b+c) (w * v):=hw.add hb hc hv
  have h2:=Rat.le_trans (E_ge ha hc (m+1) j) (h _ _ h1)
  generalize E a (m+1)=A at *
  have e:u * w / A * v=(u * w * v) / A:=by grind
  rw [e,le_div pa0]
  grind
def P (z x:Rat):Prop:=∃ a b:Rat,0≤a∧0≤b∧z=a - b∧0 < x∧R a b x
def Q (z x:Rat):Prop:=0 < x∧P (-z) (1 / x)
theorem P.xpos {z x:Rat} (h:P z x):0 < x:=h.elim fun _ h=>h.elim fun _ h=>h.2.2.2.1
theorem P.out {z x:Rat} (h:P z x) {a b:Rat} (ha:0≤a) (hb:0≤b) (hz:z=a - b):R a b x:=by
 obtain ⟨c,d,hc,hd,hz2,hx,hr⟩:=h
 have h1:=hr.add hc hd ha ha hx (by grind) (R.refl a)
 have e:x * 1=x:=by grind
 have e2:d+a=b+c:=by grind
 have e3:c+a=a+c:=by grind
 rw [e,e2,e3] at h1
 exact h1.cancel ha hb hc hx
theorem P.add {z x y v:Rat} (h:P z x) (k:P y v):P (z+y) (x * v):=by
 obtain ⟨a,b,ha,hb,hz,hx,hr⟩:=h
 obtain ⟨c,d,hc,hd,hy,hv,hs⟩:=k
 exact ⟨a+c,b+d,by grind,by grind,by grind,Rat.mul_pos hx hv,hr.add ha hb hc hd hx hv hs⟩
theorem P.zero {x:Rat} (h:1≤x):P 0 x:=by
 refine ⟨0,0,by grind,by grind,by grind,by grind,fun n w hw=>?_⟩
 have h1:=hw n
 have h2:=hw.pos (by grind)
 have:w≤x * w:=by have:=Rat.mul_le_mul_of_nonneg_right h (by grind:0≤w); grind
 grind
theorem P.le_x {z x v:Rat} (h:P z x) (k:x≤v):P z v:=by
 obtain ⟨a,b,ha,hb,hz,hx,hr⟩:=h
 refine ⟨a,b,ha,hb,hz,by grind,fun n w hw=>?_⟩
 have h1:=hr n w hw
 have h2:=hw.pos hb
 have:=Rat.mul_le_mul_of_nonneg_right k (by grind:0≤w)
 grind
theorem P.le_z {z x y:Rat} (h:P z x) (k:y≤z):P y x:=by
 obtain ⟨a,b,ha,hb,hz,hx,hr⟩:=h
 refine ⟨a,b+(z - y),ha,by grind,by grind,hx,fun n w hw=>hr n w (U.anti hb (by grind) hw)⟩
theorem P.one {x:Rat} (h:P 0 x):1≤x:=by
 have h1:=h.out (a:=0) (b:=0) (by grind) (by grind) (by grind)
 have h2:U 0 1:=by
  intro n
  have:∀ n,E 0 (n+1)=1∧ex 0 (n+1)=0:=by
   intro n
   induction n with
   | zero=>simp only [E,psum,ex]; grind
   | succ n ih =>
    have e:E 0 (n+1+1)=E 0 (n+1)+ex 0 (n+1):=rfl
    refine ⟨by grind,?_⟩
    rw [ex]; grind
  match n with
  | 0=>rw [E_zero]; grind
  | n+1=>rw [(this n).1]; grind
 have h3:=h1 1 1 h2
 have h4:=E_one (a:=0) (by grind) 0
 grind
theorem P.ofU {a u:Rat} (ha:0≤a) (h:U a u):P a u:=by
 have hu:=h.pos ha
 refine ⟨a,0,ha,by grind,by grind,by grind,fun n w hw=>?_⟩
 have h1:=hw.pos (by grind)
 have:=Rat.mul_le_mul_of_nonneg_left h1 (by grind:0≤u)
 have:=h n
 grind
theorem Q.ofE {a v:Rat} (ha:0≤a) (hv:0 < v) (h:∀ u,U a u→v≤u):Q a v:=by
 refine ⟨hv,0,a,by grind,ha,by grind,?_,fun n w hw=>?_⟩
 ·rw [Rat.div_def]; have:=Rat.inv_pos.2 hv; grind
 ·have h1:=h w hw
  have h2:E 0 n≤1:=by
   match n with
   | 0=>rw [E_zero]; grind
   | n+1 =>
    have:∀ n,E 0 (n+1)=1∧ex 0 (n+1)=0:=by
     intro n
     induction n with
     | zero=>simp only [E,psum,ex]; grind
     | succ n ih =>
      have e:E 0 (n+1+1)=E 0 (n+1)+ex 0 (n+1):=rfl
      refine ⟨by grind,?_⟩
      rw [ex]; grind
    rw [(this n).1]; grind
  have h3:1≤w / v:=by rw [le_div hv]; grind
  have h4:1 / v * w=w / v:=by grind
  grind
theorem Q.add {z x y v:Rat} (h:Q z x) (k:Q y v):Q (z+y) (x * v):=by
 refine ⟨Rat.mul_pos h.1 k.1,?_⟩
 have:=h.2.add k.2
 have e1:-z+-y=-(z+y):=by grind
 have hx:=h.1
 have hv:=k.1
 have e2:1 / x * (1 / v)=1 / (x * v):=by grind
 rw [e1,e2] at this
 exact this
theorem P.neg {z x:Rat} (h:P z x):Q (-z) (1 / x):=by
 have hx:=h.xpos
 have e:1 / (1 / x)=x:=by grind
 refine ⟨?_,?_⟩
 ·rw [Rat.div_def]; have:=Rat.inv_pos.2 hx; grind
 ·rw [e,Rat.neg_neg]; exact h
theorem Q.neg {z x:Rat} (h:Q z x):P (-z) (1 / x):=h.2
theorem PQ {z x y:Rat} (h:P z x) (k:Q z y):y≤x:=by
 have h1:=(h.add k.2)
 have e:z+-z=0:=by grind
 rw [e] at h1
 have h2:=h1.one
 have hy:=k.1
 have e2:x * (1 / y)=x / y:=by grind
 rw [e2,le_div hy] at h2
 grind
theorem Q.le_x {z x v:Rat} (h:Q z x) (hv:0 < v) (k:v≤x):Q z v:=by
 refine ⟨hv,h.2.le_x ?_⟩
 have hx:=h.1
 rw [le_div hv]
 have e:1 / x * v=v / x:=by grind
 rw [e,← Rat.not_lt,Rat.lt_div_iff hx]
 grind
theorem Q.le_z {z x y:Rat} (h:Q z x) (k:z≤y):Q y x:=⟨h.1,h.2.le_z (by grind)⟩
theorem P.pow {z x:Rat} (h:P z x) (n:Nat):P ((n:Rat) * z) (x^n):=by
 induction n with
 | zero =>
  have e:((0:Nat):Rat) * z=0:=by grind
  rw [e,Rat.pow_zero]; exact P.zero (by grind)
 | succ n ih =>
  have h1:=ih.add h
  have e:(n:Rat) * z+z=((n+1:Nat):Rat) * z:=by push_cast; grind
  rw [e] at h1
  rw [Rat.pow_succ]; exact h1
theorem Q.pow {z x:Rat} (h:Q z x) (n:Nat):Q ((n:Rat) * z) (x^n):=by
 induction n with
 | zero =>
  have e:((0:Nat):Rat) * z=0:=by grind
  rw [e,Rat.pow_zero]
  have h1:=(P.zero (x:=1) (by grind)).neg
  have e2:-(0:Rat)=0:=by grind
  have e3:(1:Rat) / 1=1:=by grind
  rw [e2,e3] at h1
  exact h1
 | succ n ih =>
  have h1:=ih.add h
  have e:(n:Rat) * z+z=((n+1:Nat):Rat) * z:=by push_cast; grind
  rw [e] at h1
  rw [Rat.pow_succ]; exact h1
theorem psum_le {f g:Nat→Rat} (h:∀ k,f k≤g k) (n:Nat):psum f n≤psum g n:=by
 induction n with
 | zero=>exact Rat.le_refl
 | succ n ih=>simp only [psum]; have:=h n; grind
theorem cv_mono {d f g:Nat→Rat} (hd:∀ k,0≤d k) (n:Nat) (h:∀ k,k≤n→f k≤g k):cv d f n≤cv d g n:=by
 induction n generalizing d with
 | zero=>simp only [cv]; exact Rat.mul_le_mul_of_nonneg_left (h 0 (Nat.le_refl _)) (hd 0)
 | succ n ih =>
  simp only [cv]
  have h1:=ih (d:=shf d) (fun k=>hd (k+1)) (fun k hk=>h k (by omega))
  have h2:=Rat.mul_le_mul_of_nonneg_left (h (n+1) (Nat.le_refl _)) (hd 0)
  grind
theorem cv_congr {d f g:Nat→Rat} (n:Nat) (h:∀ k,k≤n→f k=g k):cv d f n=cv d g n:=by
 induction n generalizing d with
 | zero=>simp only [cv]; rw [h 0 (Nat.le_refl _)]
 | succ n ih =>
  simp only [cv]
  rw [ih (d:=shf d) (fun k hk=>h k (by omega)),h (n+1) (Nat.le_refl _)]
def lt' (t:Rat) (k:Nat):Rat:=if k % 2=1 then 2 * t^k / (k:Rat) else 0
def ft (t:Rat) (k:Nat):Rat:=if k=0 then 1 else 2 * t^k
theorem pow_nn {t:Rat} (ht:0≤t) (k:Nat):0≤t^k:=Rat.pow_nonneg ht
theorem lt_nn {t:Rat} (ht:0≤t) (k:Nat):0≤lt' t k:=by
 unfold lt'; split
 ·have h1:=pow_nn ht k
  have h2:(0:Rat)≤(k:Rat):=by exact_mod_cast Nat.zero_le k
  exact div_nn (by grind) h2
 ·exact Rat.le_refl
theorem ft_nn {t:Rat} (ht:0≤t) (k:Nat):0≤ft t k:=by
 unfold ft; split
 ·grind
 ·have h1:=pow_nn ht k; grind
theorem der_lt (t:Rat) (k:Nat):der (lt' t) k=if k % 2=0 then 2 * t^(k+1) else 0:=by
 unfold der lt'
 have:=succ_ne k
 by_cases h:k % 2=0
 ·rw [if_pos (by omega),if_pos h]
  generalize ((k+1:Nat):Rat)=q at *
  grind
 ·rw [if_neg (by omega),if_neg h]; grind
theorem ft_der (t:Rat) (n:Nat):der (ft t) n=cv (der (lt' t)) (ft t) n∧der (ft t) (n+1)=cv (der (lt' t)) (ft t) (n+1):=by
 have ed:der (lt' t)=fun k=>if k % 2=0 then 2 * t^(k+1) else 0:=funext (der_lt t)
 have es:shf (shf (der (lt' t)))=fun k=>t^2 * der (lt' t) k:=by
  rw [ed]; funext k
  simp only [shf]
  by_cases h:k % 2=0
  ·rw [if_pos (by omega),if_pos h]; grind
  ·rw [if_neg (by omega),if_neg h]; grind
 induction n with
 | zero =>
  constructor
  ·rw [ed]; simp only [der,cv,ft]; grind
  ·rw [ed]; simp only [der,cv,ft,shf]; grind
 | succ n ih =>
  refine ⟨ih.2,?_⟩
  have h1:=ih.1
  rw [cv,cv,es,cv_scale,← h1,ed]
  simp only [der,ft,shf]
  push_cast
  grind
def pl (t:Rat):Nat→Nat→Rat
 | 0=>fun k=>if k=0 then 1 else 0
 | m+1=>fun k=>cv (lt' t) (pl t m) k / ((m+1:Nat):Rat)
theorem pl_nn {t:Rat} (ht:0≤t) (m k:Nat):0≤pl t m k:=by
 induction m generalizing k with
 | zero=>simp only [pl]; split <;> grind
 | succ m ih=>simp only [pl]; exact div_nn (cv_nonneg (lt_nn ht) ih k) (by exact_mod_cast Nat.zero_le _)
theorem div_fn (f:Nat→Rat) (q:Rat):(fun k=>f k / q)=fun k=>q⁻¹ * f k:=by funext k; rw [Rat.div_def]; grind
theorem der_scale (c:Rat) (f:Nat→Rat) (k:Nat):der (fun k=>c * f k) k=c * der f k:=by simp only [der]; grind
theorem cv_scale' (c:Rat) (f g:Nat→Rat) (n:Nat):cv g (fun k=>c * f k) n=c * cv g f n:=by
 rw [cv_comm,cv_scale,cv_comm]
theorem der_pl (t:Rat) (m k:Nat):der (pl t (m+1)) k=cv (der (lt' t)) (pl t m) k:=by
 induction m generalizing k with
 | zero =>
  have e:pl t 1=fun k=>((0+1:Nat):Rat)⁻¹ * cv (lt' t) (pl t 0) k:=div_fn _ _
  have e1:(((0+1:Nat):Rat))⁻¹=1:=by grind
  rw [e,der_scale,cv_der,e1]
  have e2:der (pl t 0)=fun _=>0:=by funext k; simp only [der,pl]; grind
  rw [e2]
  have e3:cv (lt' t) (fun _=>0) k=0:=by
   have:=cv_scale' 0 (fun _=>0) (lt' t) k
   have e4:(fun k=>(0:Rat) * (fun (_:Nat)=>(0:Rat)) k)=fun _=>0:=by funext k; grind
   rw [e4] at this; grind
  rw [e3]; grind
 | succ m ih =>
  have e:pl t (m+1+1)=fun k=>((m+1+1:Nat):Rat)⁻¹ * cv (lt' t) (pl t (m+1)) k:=div_fn _ _
  have ih':der (pl t (m+1))=cv (der (lt' t)) (pl t m):=funext ih
  rw [e,der_scale,cv_der,ih',cv_left]
  have e5:pl t (m+1)=fun k=>((m+1:Nat):Rat)⁻¹ * cv (lt' t) (pl t m) k:=div_fn _ _
  have h5:cv (der (lt' t)) (pl t (m+1)) k=((m+1:Nat):Rat)⁻¹ * cv (der (lt' t)) (cv (lt' t) (pl t m)) k:=by
   rw [e5,cv_scale']
  have n1:=succ_ne m
  have n2:=succ_ne (m+1)
  have e6:((m+1+1:Nat):Rat)=((m+1:Nat):Rat)+1:=by push_cast; grind
  rw [e6] at n2 ⊢
  generalize ((m+1:Nat):Rat)=q at *
  generalize cv (der (lt' t)) (cv (lt' t) (pl t m)) k=X at *
  rw [h5]
  have:q * q⁻¹=1:=Rat.mul_inv_cancel q n1
  have h2:(q+1) * (q+1)⁻¹=1:=Rat.mul_inv_cancel _ n2
  grind
def gs (t:Rat):Nat→Nat→Rat
 | 0=>fun _=>0
 | n+1=>fun k=>gs t n k+pl t n k
theorem cv_add (d f g:Nat→Rat) (n:Nat):cv d (fun k=>f k+g k) n=cv d f n+cv d g n:=by
 have h:=cv_lin 1 f g d n
 have e:(fun k=>1 * f k+g k)=fun k=>f k+g k:=by funext k; grind
 rw [e] at h
 rw [cv_comm,h,cv_comm d f,cv_comm d g]; grind
theorem der_gs (t:Rat) (n k:Nat):der (gs t (n+1)) k=cv (der (lt' t)) (gs t n) k:=by
 induction n with
 | zero =>
  have e:cv (der (lt' t)) (gs t 0) k=0:=by
   have:=cv_scale' 0 (fun _=>0) (der (lt' t)) k
   have e4:(fun k=>(0:Rat) * (fun (_:Nat)=>(0:Rat)) k)=fun _=>0:=by funext k; grind
   rw [e4] at this
   have e5:gs t 0=fun _=>0:=rfl
   rw [e5,this]; grind
  rw [e]; simp only [der,gs,pl]; grind
 | succ n ih =>
  have e:gs t (n+1)=fun k=>gs t n k+pl t n k:=rfl
  have h:cv (der (lt' t)) (gs t (n+1)) k=cv (der (lt' t)) (gs t n) k+cv (der (lt' t)) (pl t n) k:=by rw [e,cv_add]
  rw [h,← ih,← der_pl]
  simp only [der,gs]; grind
theorem pl_zero (t:Rat) (m:Nat):pl t (m+1) 0=0:=by
 simp only [pl,cv,lt']; grind
theorem gs_zero (t:Rat) (n:Nat):gs t (n+1) 0=1:=by
 induction n with
 | zero=>simp only [gs,pl]; grind
 | succ n ih =>
  have e:gs t (n+1+1) 0=gs t (n+1) 0+pl t (n+1) 0:=rfl
  rw [e,ih,pl_zero]; grind
theorem der_lt_nn {t:Rat} (ht:0≤t) (k:Nat):0≤der (lt' t) k:=by
 rw [der_lt]; split
 ·have:=pow_nn ht (k+1); grind
 ·exact Rat.le_refl
theorem gs_le {t:Rat} (ht:0≤t) (n k:Nat):gs t n k≤ft t k:=by
 induction n generalizing k with
 | zero=>exact ft_nn ht k
 | succ n ih =>
  match k with
  | 0=>rw [gs_zero]; simp only [ft]; grind
  | k+1 =>
   have h1:=der_gs t n k
   have h2:=(ft_der t k).1
   have h3:=cv_mono (der_lt_nn ht) k (fun j _=>ih j)
   rw [← h1,← h2] at h3
   simp only [der] at h3
   have h4:(0:Rat) < ((k+1:Nat):Rat):=by exact_mod_cast Nat.succ_pos k
   exact Rat.le_of_mul_le_mul_left h3 h4
theorem gs_eq (t:Rat) (n k:Nat) (h:k < n):gs t n k=ft t k:=by
 induction n generalizing k with
 | zero=>omega
 | succ n ih =>
  match k with
  | 0=>rw [gs_zero]; simp only [ft]; grind
  | k+1 =>
   have h1:=der_gs t n k
   have h2:=(ft_der t k).1
   have h3:=cv_congr (d:=der (lt' t)) k (fun j hj=>ih j (by omega))
   rw [← h1,← h2] at h3
   simp only [der] at h3
   have h4:=succ_ne k
   generalize ((k+1:Nat):Rat)=q at *
   grind
theorem psum_scale (c:Rat) (f:Nat→Rat) (n:Nat):psum (fun k=>c * f k) n=c * psum f n:=by
 induction n with
 | zero=>simp only [psum]; grind
 | succ n ih=>simp only [psum]; rw [ih]; grind
theorem psum_add (f g:Nat→Rat) (n:Nat):psum (fun k=>f k+g k) n=psum f n+psum g n:=by
 induction n with
 | zero=>simp only [psum]; grind
 | succ n ih=>simp only [psum]; rw [ih]; grind
def Ls (t:Rat) (n:Nat):Rat:=psum (lt' t) n
theorem Ls_nn {t:Rat} (ht:0≤t) (n:Nat):0≤Ls t n:=psum_nonneg (lt_nn ht) n
theorem pl_le {t:Rat} (ht:0≤t) (m n:Nat) (hn:0 < n):psum (pl t m) n≤ex (Ls t n) m:=by
 induction m with
 | zero =>
  have:∀ j,psum (pl t 0) (j+1)=1:=by
   intro j
   induction j with
   | zero=>simp only [psum,pl]; grind
   | succ j ih=>rw [psum,ih]; simp only [pl]; grind
  obtain ⟨j,rfl⟩:∃ j,n=j+1:=⟨n - 1,by omega⟩
  rw [this]; simp only [ex]; grind
 | succ m ih =>
  have e:pl t (m+1)=fun k=>((m+1:Nat):Rat)⁻¹ * cv (lt' t) (pl t m) k:=div_fn _ _
  rw [e,psum_scale]
  have h1:=psum_cv_le (lt_nn ht) (pl_nn ht m) n
  have h2:=Rat.mul_le_mul_of_nonneg_left ih (Ls_nn ht n)
  have h3:=Rat.le_trans h1 h2
  have h4:(0:Rat)≤((m+1:Nat):Rat)⁻¹:=inv_nn (by exact_mod_cast Nat.zero_le _)
  have h5:=Rat.mul_le_mul_of_nonneg_left h3 h4
  have e2:ex (Ls t n) (m+1)=((m+1:Nat):Rat)⁻¹ * (Ls t n * ex (Ls t n) m):=by
   rw [ex,Rat.div_def]; grind
  rw [e2]; exact h5
theorem pl_ge {t:Rat} (ht:0≤t) (m n:Nat):ex (Ls t n) m≤psum (pl t m) (n * m+1):=by
 induction m with
 | zero=>simp only [psum,pl,ex,Nat.mul_zero]; grind
 | succ m ih =>
  have e:pl t (m+1)=fun k=>((m+1:Nat):Rat)⁻¹ * cv (lt' t) (pl t m) k:=div_fn _ _
  rw [e,psum_scale]
  have h1:=psum_cv_ge (lt_nn ht) (pl_nn ht m) n (n * m+1)
  have h2:=Rat.mul_le_mul_of_nonneg_left ih (Ls_nn ht n)
  have h3:=Rat.le_trans h2 h1
  have h4:(0:Rat)≤((m+1:Nat):Rat)⁻¹:=inv_nn (by exact_mod_cast Nat.zero_le _)
  have h5:=Rat.mul_le_mul_of_nonneg_left h3 h4
  have e2:ex (Ls t n) (m+1)=((m+1:Nat):Rat)⁻¹ * (Ls t n * ex (Ls t n) m):=by
   rw [ex,Rat.div_def]; grind
  have e3:n * (m+1)+1=n+(n * m+1):=by rw [Nat.mul_add]; omega
  rw [e2,e3]; exact h5
theorem gs_psum_le {t:Rat} (ht:0≤t) (m n:Nat) (hn:0 < n):psum (gs t m) n≤E (Ls t n) m:=by
 induction m with
 | zero =>
  have:psum (gs t 0) n=0:=by
   clear hn
   induction n with
   | zero=>rfl
   | succ n ih=>rw [psum,ih]; simp only [gs]; grind
  rw [this]; exact Rat.le_refl
 | succ m ih =>
  have e:gs t (m+1)=fun k=>gs t m k+pl t m k:=rfl
  have e2:E (Ls t n) (m+1)=E (Ls t n) m+ex (Ls t n) m:=rfl
  rw [e,psum_add,e2]
  have:=pl_le ht m n hn
  grind
theorem gs_psum_ge {t:Rat} (ht:0≤t) (m n M:Nat) (h:m≤M):E (Ls t n) m≤psum (gs t m) (n * M+1):=by
 induction m with
 | zero =>
  have:∀ n,psum (gs t 0) n=0:=by
   intro n
   induction n with
   | zero=>rfl
   | succ n ih=>rw [psum,ih]; simp only [gs]; grind
  rw [this]; exact Rat.le_refl
 | succ m ih =>
  have e:gs t (m+1)=fun k=>gs t m k+pl t m k:=rfl
  have e2:E (Ls t n) (m+1)=E (Ls t n) m+ex (Ls t n) m:=rfl
  rw [e,psum_add,e2]
  have h1:=pl_ge ht m n
  have h2:=psum_mono (pl_nn ht m) (n * m+1) (n * M - n * m)
  have h3:n * m≤n * M:=Nat.mul_le_mul_left n (by omega)
  have e3:n * m+1+(n * M - n * m)=n * M+1:=by omega
  rw [e3] at h2
  have:=ih (by omega)
  grind
theorem ft_sum {t:Rat} (h1:t < 1) (n:Nat):psum (ft t) (n+1)=(1+t) / (1 - t) - 2 * t^(n+1) / (1 - t):=by
 have h:1 - t ≠ 0:=by grind
 induction n with
 | zero=>simp only [psum,ft]; grind
 | succ n ih=>rw [psum,ih]; simp only [ft]; grind
theorem log_P {t:Rat} (ht:0≤t) (h1:t < 1) (n:Nat):P (Ls t n) ((1+t) / (1 - t)):=by
 refine P.ofU (Ls_nn ht n) fun m=>?_
 have a1:=gs_psum_ge ht m n m (Nat.le_refl _)
 have a2:=psum_le (gs_le ht m) (n * m+1)
 have a3:=ft_sum h1 (n * m)
 have a4:0≤2 * t^(n * m+1) / (1 - t):=div_nn (by have:=pow_nn ht (n * m+1); grind) (by grind)
 rw [a3] at a2
 grind
theorem E_mono_arg {a b:Rat} (ha:0≤a) (h:a≤b) (n:Nat):E a n≤E b (n+1):=by
 have h1:=E_mono_left (d:=b - a) ha (by grind) n
 have e:a+(b - a)=b:=by grind
 rw [e] at h1; exact h1
theorem pow_small {t:Rat} (ht:0≤t) (h:t+t≤1) (n:Nat):t^n * ((n+1:Nat):Rat)≤1:=by
 induction n with
 | zero=>rw [Rat.pow_zero]; grind
 | succ n ih =>
  have h0:=pow_nn ht n
  have hn:(0:Rat)≤(n:Rat):=by exact_mod_cast Nat.zero_le n
  rw [Rat.pow_succ]
  push_cast at *
  have h2:=Rat.mul_le_mul_of_nonneg_left h h0
  have h3:=Rat.mul_nonneg h0 ht
  have h4:=Rat.mul_nonneg h3 hn
  have h5:=Rat.mul_le_mul_of_nonneg_right h2 hn
  grind
theorem log_Q {t u:Rat} (ht:0≤t) (h1:t+t≤1) (hu:∀ n,Ls t n≤u):Q u ((1+t) / (1 - t)):=by
 have hu0:0≤u:=by have:=hu 0; have e:Ls t 0=0:=rfl; grind
 have hp:0 < 1 - t:=by grind
 refine Q.ofE hu0 ?_ fun v hv=>?_
 ·rw [Rat.lt_div_iff hp]; grind
 have key:∀ n:Nat,(1+t) / (1 - t) - 2 * t^(n+1) / (1 - t)≤v:=by
  intro n
  rw [← ft_sum (by grind) n]
  have a1:psum (ft t) (n+1)=psum (gs t (n+1)) (n+1):=by
   have:∀ j,j≤n+1→psum (ft t) j=psum (gs t (n+1)) j:=by
    intro j
    induction j with
    | zero=>intro _; rfl
    | succ j ih=>intro hj; rw [psum,psum,ih (by omega),gs_eq t (n+1) j (by omega)]
   exact this (n+1) (Nat.le_refl _)
  rw [a1]
  have a2:=gs_psum_le ht (n+1) (n+1) (by omega)
  have a3:=E_mono_arg (Ls_nn ht (n+1)) (hu (n+1)) (n+1)
  have a4:=hv (n+1+1)
  grind
 rw [← Rat.not_lt]
 intro hlt
 obtain ⟨k,hk⟩:=arch (4 / ((1+t) / (1 - t) - v))
 have hd:0 < (1+t) / (1 - t) - v:=by grind
 have b1:=key k
 have b2:=pow_small ht h1 (k+1)
 have b3:2 * t^(k+1) / (1 - t)≤4 * t^(k+1):=by
  rw [← Rat.not_lt,Rat.lt_div_iff hp,Rat.not_lt]
  have:=pow_nn ht (k+1)
  have:=Rat.mul_le_mul_of_nonneg_left h1 this
  grind
 have b4:(1+t) / (1 - t) - v≤4 * t^(k+1):=by grind
 generalize (1+t) / (1 - t) - v=d at *
 have b5:4≤(k:Rat) * d:=by
  have:4 / d≤(k:Rat):=hk
  rw [← Rat.not_lt,Rat.lt_div_iff hd,Rat.not_lt] at this
  exact this
 push_cast at b2
 have hk0:(0:Rat)≤(k:Rat):=by exact_mod_cast Nat.zero_le k
 have b6:=Rat.mul_le_mul_of_nonneg_left b4 hk0
 have hp2:=pow_nn ht (k+1)
 generalize t^(k+1)=T at *
 generalize (k:Rat)=K at *
 by_cases hT:T=0
 ·rw [hT] at b4; grind
 ·grind
end Go.Proofs.YtobpioceopfkpaaGreatDoor.Rl
namespace Go.Proofs.YtobpioceopfkpaaGreatDoor
namespace Rl
theorem le_eq {a b:Rat} (h:a=b):a≤b:=h ▸ Rat.le_refl
theorem div_le_rat {a b:Nat} (hb:0 < b):((a / b:Nat):Rat)≤(a:Rat) / (b:Rat):=by
 have hb':(0:Rat) < (b:Rat):=by exact_mod_cast hb
 rw [le_div hb']
 have:a / b * b≤a:=Nat.div_mul_le_self a b
 exact_mod_cast this
theorem up_ge_rat {a b:Nat} (hb:0 < b):(a:Rat) / (b:Rat)≤((if a % b=0 then a / b else a / b+1:Nat):Rat):=by
 have hb':(0:Rat) < (b:Rat):=by exact_mod_cast hb
 rw [← Rat.not_lt,Rat.lt_div_iff hb',Rat.not_lt]
 have h1:=Nat.div_add_mod a b
 have h2:=Nat.mod_lt a hb
 have h3:a≤(if a % b=0 then a / b else a / b+1) * b:=by
  split
  ·rw [Nat.mul_comm (a / b)]; omega
  ·rw [Nat.add_mul,Nat.mul_comm (a / b)]; omega
 exact_mod_cast h3
def Enc (s:Nat) (p:Pr) (r:Rat):Prop:=(p.lo:Rat)≤(2:Rat)^s * r∧(2:Rat)^s * r≤(p.hi:Rat)
theorem two_pos (s:Nat):(0:Rat) < (2:Rat)^s:=Rat.pow_pos (by decide)
theorem nn (n:Nat):(0:Rat)≤(n:Rat):=by exact_mod_cast Nat.zero_le n
theorem two_cast (s:Nat):((2^s:Nat):Rat)=(2:Rat)^s:=by push_cast; rfl
theorem fracP_enc {num den s:Nat} (h:0 < den):Enc s (fracP num den s) ((num:Rat) / (den:Rat)):=by
 have h1:=div_le_rat (a:=num * 2^s) h
 have h2:=up_ge_rat (a:=num * 2^s) h
 have e:((num * 2^s:Nat):Rat) / (den:Rat)=(2:Rat)^s * ((num:Rat) / (den:Rat)):=by
  push_cast; rw [Rat.div_def,Rat.div_def]; grind
 rw [e] at h1 h2
 exact ⟨h1,h2⟩
theorem times_lo {a b s:Nat} {x y:Rat} (hx:(a:Rat)≤(2:Rat)^s * x) (hy:(b:Rat)≤(2:Rat)^s * y) (h0:0≤x):((a * b / 2^s:Nat):Rat)≤(2:Rat)^s * (x * y):=by
 have h1:=div_le_rat (a:=a * b) (Nat.two_pow_pos s)
 have h2:=mul_le hx hy (Rat.mul_nonneg (Rat.le_of_lt (two_pos s)) h0) (nn b)
 refine Rat.le_trans h1 ?_
 rw [two_cast,← Rat.not_lt,Rat.lt_div_iff (two_pos s),Rat.not_lt]
 push_cast
 generalize (2:Rat)^s=q at *
 grind
theorem times_hi {a b s:Nat} {x y:Rat} (hx:(2:Rat)^s * x≤(a:Rat)) (hy:(2:Rat)^s * y≤(b:Rat)) (h0:0≤y):(2:Rat)^s * (x * y)≤((upN (a * b) s:Nat):Rat):=by
 have h1:=up_ge_rat (a:=a * b) (Nat.two_pow_pos s)
 have h2:=mul_le hx hy (nn a) (Rat.mul_nonneg (Rat.le_of_lt (two_pos s)) h0)
 refine Rat.le_trans ?_ h1
 rw [two_cast,le_div (two_pos s)]
 push_cast
 generalize (2:Rat)^s=q at *
 grind
theorem by_lo {a n:Nat} {q x:Rat} (hn:0 < n) (hx:(a:Rat)≤q * x):((a / n:Nat):Rat)≤q * (x / (n:Rat)):=by
 have h1:=div_le_rat (a:=a) hn
 have hn':(0:Rat) < (n:Rat):=by exact_mod_cast hn
 refine Rat.le_trans h1 ?_
 rw [← Rat.not_lt,Rat.lt_div_iff hn',Rat.not_lt]
 have:q * (x / (n:Rat)) * (n:Rat)=q * x:=by grind
 rw [this]; exact hx
theorem by_hi {a n:Nat} {q x:Rat} (hn:0 < n) (hx:q * x≤(a:Rat)):q * (x / (n:Rat))≤((if a % n=0 then a / n else a / n+1:Nat):Rat):=by
 have h1:=up_ge_rat (a:=a) hn
 have hn':(0:Rat) < (n:Rat):=by exact_mod_cast hn
 refine Rat.le_trans ?_ h1
 rw [le_div hn']
 have:q * (x / (n:Rat)) * (n:Rat)=q * x:=by grind
 rw [this]; exact hx
theorem timesP_enc {p q:Pr} {s:Nat} {x y:Rat} (hp:Enc s p x) (hq:Enc s q y) (hx:0≤x) (hy:0≤y):Enc s (timesP p q s) (x * y) :=
 ⟨times_lo hp.1 hq.1 hx,times_hi hp.2 hq.2 hy⟩
theorem byP_enc {p:Pr} {s n:Nat} {x:Rat} (hp:Enc s p x) (hn:0 < n):Enc s (byP p n) (x / (n:Rat)):=⟨by_lo hn hp.1,by_hi hn hp.2⟩
theorem plusP_enc {p q:Pr} {s:Nat} {x y:Rat} (hp:Enc s p x) (hq:Enc s q y):Enc s (plusP p q) (x+y):=by
 obtain ⟨h1,h2⟩:=hp
 obtain ⟨h3,h4⟩:=hq
 unfold Enc plusP
 simp only
 push_cast
 constructor <;> grind
theorem Ls_two {t:Rat} {n:Nat} (hn:n % 2=1):Ls t (n+2)=Ls t n+2 * t^n / (n:Rat):=by
 have e:Ls t (n+2)=Ls t n+lt' t n+lt' t (n+1):=rfl
 rw [e]; unfold lt'
 rw [if_pos hn,if_neg (by omega)]; grind
theorem atL_enc {s:Nat} {t:Rat} (h0:0≤t) (f n:Nat) (S T X:Pr) (hn:n % 2=1) (hS:Enc s S (Ls t n / 2)) (hT:Enc s T (t^n)) (hX:Enc s X (t * t)) :
  ∃ m,m % 2=1∧Enc s (atL f n S T X s).1 (Ls t m / 2)∧Enc s (atL f n S T X s).2 (t^m):=by
 induction f generalizing n S T with
 | zero=>exact ⟨n,hn,hS,hT⟩
 | succ f ih =>
  unfold atL
  split
  ·exact ⟨n,hn,hS,hT⟩
  ·refine ih (n+2) _ _ (by omega) ?_ ?_
   ·have h1:=plusP_enc hS (byP_enc hT (by omega:0 < n))
    rw [Ls_two hn]
    have e:(Ls t n+2 * t^n / (n:Rat)) / 2=Ls t n / 2+t^n / (n:Rat):=by
     rw [Rat.div_def,Rat.div_def,Rat.div_def,Rat.div_def]; grind
    rw [e]; exact h1
   ·have h1:=timesP_enc hT hX (pow_nn h0 n) (Rat.mul_nonneg h0 h0)
    have e:t^(n+2)=t^n * (t * t):=by rw [Rat.pow_succ,Rat.pow_succ]; grind
    rw [e]; exact h1
theorem Ls_tail {t:Rat} (h0:0≤t) (h1:t * t+t * t≤1) {n:Nat} (hn:n % 2=1) (j:Nat):Ls t j≤Ls t n+4 * t^n:=by
 have key:∀ i,Ls t (n+2 * i)+4 * t^(n+2 * i)≤Ls t n+4 * t^n:=by
  intro i
  induction i with
  | zero=>exact Rat.le_refl
  | succ i ih =>
   have e:n+2 * (i+1)=n+2 * i+2:=by omega
   rw [e,Ls_two (by omega)]
   have hp:=pow_nn h0 (n+2 * i)
   have h2:2 * t^(n+2 * i) / ((n+2 * i:Nat):Rat)≤2 * t^(n+2 * i):=by
    have hq:(1:Rat)≤((n+2 * i:Nat):Rat):=by exact_mod_cast (by omega:1≤n+2 * i)
    generalize ((n+2 * i:Nat):Rat)=q at *
    rw [← Rat.not_lt,Rat.lt_div_iff (by grind),Rat.not_lt]
    have:=Rat.mul_le_mul_of_nonneg_left hq hp
    grind
   have h3:t^(n+2 * i+2)=t^(n+2 * i) * (t * t):=by rw [Rat.pow_succ,Rat.pow_succ]; grind
   have h4:=Rat.mul_le_mul_of_nonneg_left h1 hp
   rw [h3]
   grind
 have h2:Ls t j≤Ls t (n+2 * j):=by
  have:=psum_mono (lt_nn h0) j (n+j)
  have e:j+(n+j)=n+2 * j:=by omega
  rw [e] at this; exact this
 have h3:=key j
 have h4:=pow_nn h0 (n+2 * j)
 grind
theorem atanhP_enc {num den s:Nat} (h:0 < den) (h3:num * 3≤den) :
  (∃ m,((atanhP num den s).lo:Rat)≤(2:Rat)^s * (Ls ((num:Rat) / (den:Rat)) m / 2)) ∧
  (∀ m,(2:Rat)^s * (Ls ((num:Rat) / (den:Rat)) m / 2)≤((atanhP num den s).hi:Rat)):=by
 have hd:(0:Rat) < (den:Rat):=by exact_mod_cast h
 have h0:0≤(num:Rat) / (den:Rat):=div_nn (nn num) (nn den)
 have h13:(num:Rat) / (den:Rat) * 3≤1:=by
  have:(num:Rat) * 3≤(den:Rat):=by exact_mod_cast h3
  have e:(num:Rat) / (den:Rat) * 3=((num:Rat) * 3) / (den:Rat):=by rw [Rat.div_def,Rat.div_def]; grind
  rw [e,← Rat.not_lt,Rat.lt_div_iff hd,Rat.not_lt]; grind
 have hf:=fracP_enc (num:=num) (s:=s) h
 by_cases hn:num=0
 ·have e:atanhP num den s=⟨0,0⟩:=by unfold atanhP; rw [if_pos hn]
  have hz:(num:Rat) / (den:Rat)=0:=by subst hn; rw [Rat.div_def]; grind
  have hL:∀ m,Ls 0 m=0:=by
   intro m
   induction m with
   | zero=>rfl
   | succ m ih =>
    have e2:Ls 0 (m+1)=Ls 0 m+lt' 0 m:=rfl
    rw [e2,ih]; unfold lt'
    split
    ·obtain ⟨k,rfl⟩:∃ k,m=k+1:=⟨m - 1,by omega⟩
     rw [Rat.pow_succ,Rat.div_def]; grind
    ·grind
  rw [e,hz]
  simp only [hL]
  refine ⟨⟨0,?_⟩,fun _=>?_⟩ <;> push_cast <;> grind
 ·have e:atanhP num den s=restP (atL (s+1) 1 ⟨0,0⟩ (fracP num den s) (timesP (fracP num den s) (fracP num den s) s) s).1 (atL (s+1) 1 ⟨0,0⟩ (fracP num den s) (timesP (fracP num den s) (fracP num den s) s) s).2:=by unfold atanhP; rw [if_neg hn]
  generalize (num:Rat) / (den:Rat)=t at *
  have hq:=timesP_enc hf hf h0 h0
  have hL1:Ls t 1 / 2=0:=by
   have e2:Ls t 1=0+lt' t 0:=rfl
   rw [e2]; unfold lt'; rw [Rat.div_def]; grind
  have hS:Enc s ⟨0,0⟩ (Ls t 1 / 2):=by rw [hL1]; unfold Enc; simp only; push_cast; constructor <;> grind
  have hT:Enc s (fracP num den s) (t^1):=by have:t^1=t:=(by grind); rw [this]; exact hf
  obtain ⟨m,hm,h1,h2⟩:=atL_enc h0 (s+1) 1 ⟨0,0⟩ (fracP num den s) _ (by decide) hS hT hq
  rw [e]
  generalize atL (s+1) 1 ⟨0,0⟩ (fracP num den s) (timesP (fracP num den s) (fracP num den s) s) s=R at *
  refine ⟨⟨m,h1.1⟩,fun j=>?_⟩
  have htt:t * t+t * t≤1:=by
   have:=Rat.mul_le_mul_of_nonneg_left h13 h0
   grind
  have h3:=Ls_tail h0 htt hm j
  have h4:=h1.2
  have h5:=h2.2
  have h6:=Rat.mul_le_mul_of_nonneg_left h3 (Rat.le_of_lt (two_pos s))
  unfold restP
  simp only
  push_cast
  generalize (2:Rat)^s=q at *
  have e1:q * (Ls t j / 2)=(q * Ls t j) / 2:=by rw [Rat.div_def,Rat.div_def]; grind
  have e2:q * (Ls t m / 2)=(q * Ls t m) / 2:=by rw [Rat.div_def,Rat.div_def]; grind
  rw [e1]
  rw [e2] at h4
  grind
theorem exL_enc {s:Nat} {a b:Rat} (ha:0≤a) (hb:0≤b) (f n:Nat) (S T X:Pr) (hn:0 < n)
  (hS1:(S.lo:Rat)≤(2:Rat)^s * E a n) (hS2:(2:Rat)^s * E b n≤(S.hi:Rat)) (hT1:(T.lo:Rat)≤(2:Rat)^s * ex a (n - 1)) (hT2:(2:Rat)^s * ex b (n - 1)≤(T.hi:Rat))
  (hX1:(X.lo:Rat)≤(2:Rat)^s * a) (hX2:(2:Rat)^s * b≤(X.hi:Rat)) :
  ∃ m,0 < m∧((exL f n S T X s).1.lo:Rat)≤(2:Rat)^s * E a m∧(2:Rat)^s * E b m≤((exL f n S T X s).1.hi:Rat)∧(2:Rat)^s * ex b (m - 1)≤((exL f n S T X s).2.hi:Rat):=by
 induction f generalizing n S T with
 | zero=>exact ⟨n,hn,hS1,hS2,hT2⟩
 | succ f ih =>
  obtain ⟨k,rfl⟩:∃ k,n=k+1:=⟨n - 1,by omega⟩
  have hk:k+1 - 1=k:=by omega
  rw [hk] at hT1 hT2
  have t1:=by_lo hn (times_lo hT1 hX1 (ex_nonneg ha k))
  have t2:=by_hi hn (times_hi hT2 hX2 hb)
  have e1:∀ c,ex c k * c / ((k+1:Nat):Rat)=ex c (k+1):=fun _=>rfl
  rw [e1] at t1 t2
  have s1:((plusP S (byP (timesP T X s) (k+1))).lo:Rat)≤(2:Rat)^s * E a (k+1+1):=by
   have e:E a (k+1+1)=E a (k+1)+ex a (k+1):=rfl
   rw [e]; unfold plusP byP timesP; simp only; push_cast
   grind
  have s2:(2:Rat)^s * E b (k+1+1)≤((plusP S (byP (timesP T X s) (k+1))).hi:Rat):=by
   have e:E b (k+1+1)=E b (k+1)+ex b (k+1):=rfl
   rw [e]
   have e2:(plusP S (byP (timesP T X s) (k+1))).hi=S.hi+(byP (timesP T X s) (k+1)).hi:=rfl
   rw [e2]
   have t2':(2:Rat)^s * ex b (k+1)≤((byP (timesP T X s) (k+1)).hi:Rat):=t2
   push_cast
   grind
  unfold exL
  split
  ·exact ⟨k+1,hn,hS1,hS2,hT2⟩
  ·split
   ·exact ⟨k+1+1,by omega,s1,s2,t2⟩
   ·exact ih (k+1+1) _ _ (by omega) s1 s2 t1 t2
theorem E_tail {b:Rat} (hb:0≤b) (h1:b≤1) {m:Nat} (hm:0 < m) (j:Nat):E b j≤E b m+2 * ex b (m - 1):=by
 have key:∀ i,E b (m+i)+2 * ex b (m+i)≤E b m+2 * ex b m:=by
  intro i
  induction i with
  | zero=>exact Rat.le_refl
  | succ i ih =>
   have e:E b (m+(i+1))=E b (m+i)+ex b (m+i):=rfl
   have e2:ex b (m+(i+1))=ex b (m+i) * b / ((m+i+1:Nat):Rat):=rfl
   have hp:=ex_nonneg hb (m+i)
   have h2:ex b (m+i) * b / ((m+i+1:Nat):Rat) * 2≤ex b (m+i):=by
    have hq:(2:Rat)≤((m+i+1:Nat):Rat):=by exact_mod_cast (by omega:2≤m+i+1)
    generalize ((m+i+1:Nat):Rat)=q at *
    have e3:ex b (m+i) * b / q * 2=(ex b (m+i) * b * 2) / q:=by rw [Rat.div_def,Rat.div_def]; grind
    rw [e3,← Rat.not_lt,Rat.lt_div_iff (by grind),Rat.not_lt]
    have a1:=Rat.mul_le_mul_of_nonneg_left hq hp
    have a2:=Rat.mul_le_mul_of_nonneg_left h1 hp
    grind
   rw [e,e2]
   grind
 have h2:E b j≤E b (m+j):=by
  have:=E_mono hb j m
  have e:j+m=m+j:=by omega
  rw [e] at this; exact this
 have h3:=key j
 have h4:=ex_nonneg hb (m+j)
 obtain ⟨k,rfl⟩:∃ k,m=k+1:=⟨m - 1,by omega⟩
 have h5:ex b (k+1)≤ex b k:=by
  have hp:=ex_nonneg hb k
  have e2:ex b (k+1)=ex b k * b / ((k+1:Nat):Rat):=rfl
  rw [e2]
  have hq:(1:Rat)≤((k+1:Nat):Rat):=by exact_mod_cast (by omega:1≤k+1)
  generalize ((k+1:Nat):Rat)=q at *
  rw [← Rat.not_lt,Rat.lt_div_iff (by grind),Rat.not_lt]
  have a1:=Rat.mul_le_mul_of_nonneg_left hq hp
  have a2:=Rat.mul_le_mul_of_nonneg_left h1 hp
  grind
 have e:k+1 - 1=k:=by omega
 rw [e]
 grind
theorem expP_enc {a b s:Nat} (hbs:b≤2^s) :
  (∃ m,((expP a b s).lo:Rat)≤(2:Rat)^s * E ((a:Rat) / (2:Rat)^s) m) ∧
  (∀ m,(2:Rat)^s * E ((b:Rat) / (2:Rat)^s) m≤((expP a b s).hi:Rat)):=by
 have hp:=two_pos s
 have h1:(b:Rat)≤(2:Rat)^s:=by rw [← two_cast]; exact_mod_cast hbs
 have ha0:0≤(a:Rat) / (2:Rat)^s:=div_nn (nn a) (Rat.le_of_lt hp)
 have hb0:0≤(b:Rat) / (2:Rat)^s:=div_nn (nn b) (Rat.le_of_lt hp)
 have hb1:(b:Rat) / (2:Rat)^s≤1:=by rw [← Rat.not_lt,Rat.lt_div_iff hp,Rat.not_lt]; grind
 have ea:(a:Rat)=(2:Rat)^s * ((a:Rat) / (2:Rat)^s):=by generalize (2:Rat)^s=q at *; grind
 have eb:(b:Rat)=(2:Rat)^s * ((b:Rat) / (2:Rat)^s):=by generalize (2:Rat)^s=q at *; grind
 have e1:∀ c,E c 1=1:=fun c=>by simp only [E,psum,ex]; grind
 have e2:∀ c,ex c (1 - 1)=1:=fun c=>rfl
 have e3:((2^s:Nat):Rat)=(2:Rat)^s * 1:=by rw [two_cast]; grind
 obtain ⟨m,hm,k1,k2,k3⟩:=exL_enc (s:=s) ha0 hb0 (s+2) 1 ⟨2^s,2^s⟩ ⟨2^s,2^s⟩ ⟨a,b⟩ (by decide)
  (by rw [e1]; exact le_eq e3) (by rw [e1]; exact le_eq e3.symm) (by rw [e2]; exact le_eq e3) (by rw [e2]; exact le_eq e3.symm) (le_eq ea) (le_eq eb.symm)
 have er:exL (s+2) 1 ⟨2^s,2^s⟩ ⟨2^s,2^s⟩ ⟨a,b⟩ s=expR a b s:=rfl
 rw [er] at k1 k2 k3
 unfold expP restP
 refine ⟨⟨m,k1⟩,fun j=>?_⟩
 have h3:=E_tail hb0 hb1 hm j
 have h6:=Rat.mul_le_mul_of_nonneg_left h3 (Rat.le_of_lt hp)
 simp only
 push_cast
 generalize (2:Rat)^s=q at *
 grind
end Rl
end Go.Proofs.YtobpioceopfkpaaGreatDoor
