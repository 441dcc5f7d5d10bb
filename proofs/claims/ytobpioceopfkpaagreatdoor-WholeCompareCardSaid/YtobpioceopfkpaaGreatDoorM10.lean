/-
  Lemmas for WholeCompare (part 10); without conditions.
-/
import Derived.Test.YtobpioceopfkpaaGreatDoorM03
import Derived.Test.YtobpioceopfkpaaGreatDoorM08
set_option maxRecDepth 100000
set_option maxHeartbeats 4000000
namespace Go.Proofs.YtobpioceopfkpaaGreatDoor
open Go.RowKit
open World (setCell alloc drew)
open List (set_cons_zero set_cons_succ setIfInBounds_toArray cons_append nil_append)
theorem Qdh(xs:List Nat)(k y:Nat):(xs.set k y).drop (k+1)=xs.drop (k+1):=by apply List.ext_getElem?;intro j;rw[List.getElem?_drop,List.getElem?_drop,List.getElem?_set_ne (by omega)]
theorem Qan{D n Q r x:Nat}(hn:0<n)(hQ:D/n=Q)(hr:D%n=r):(x+18446744073709551616*D)/n=(r*18446744073709551616+x)/n+18446744073709551616*Q/\(x+18446744073709551616*D)%n=(r*18446744073709551616+x)%n:=by
 have hd:=Nat.div_add_mod D n;rw[hQ,hr]at hd;have h1:x+18446744073709551616*D=(r*18446744073709551616+x)+n*(18446744073709551616*Q):=by rw[<-hd,Nat.mul_add,Nat.mul_left_comm,Nat.mul_comm 18446744073709551616 r];omega
 rw[h1,Nat.add_mul_div_left _ _ hn,Nat.add_mul_mod_self_left];exact⟨rfl,rfl⟩
structure C8(w wr:World)(out:Value)(N n:Nat)(L O:List Nat)(k r:Nat):Prop where
 own:wr.ownsRow w.heap.size 22 1 out N (Qz O)
 digs:Ql O
 b:Below w.heap.size w wr
 quo:Qc (O.drop k)=Qc (L.drop k)/n
 rest:Qc (L.drop k)%n=r
theorem C8.len{w wr:World}{out:Value}{N n:Nat}{L O:List Nat}{k r:Nat}(h:C8 w wr out N n L O k r):O.length=N:=Zn h.own
theorem C8.step{w wr w':World}{g cap N n:Nat}{L O:List Nat}{k r:Nat}(h:C8 w wr (.slice (some ⟨g,0,none⟩) N cap) N n L O (k+1) r)(hg:w.heap.size<=g)(hb:Below wr.heap.size wr w')(hk:k<N)(hn:0<n)
  (hL:Ql L) (q r':Nat) (hq:q=(r*18446744073709551616+dg L k)/n) (hr:r'=(r*18446744073709551616+dg L k)%n) (u:Value) (hu:u=.int .u64 (q:Int)) :
  C8 w (w'.setCell ⟨g,k,none⟩ u) (.slice (some ⟨g,0,none⟩) N cap) N n L (O.set k q) k r':=by
 subst hu;have hx:=Qy hL k;have hrn:r<n:=by rw[<-h.rest];exact Nat.mod_lt _ hn
 have hq64:q<18446744073709551616:=by rw[hq];refine Nat.div_lt_of_lt_mul ?_;have:(r+1)*18446744073709551616<=n*18446744073709551616:=Nat.mul_le_mul_right _ hrn;omega
 obtain⟨c1,c2⟩:=Qan (x:=dg L k) hn h.quo.symm h.rest;refine⟨?_,h.digs.set hq64,(h.b.trans (hb.mono h.b.size)).setCell hg _,?_,?_⟩
 .rw[<-Wi];exact((Up h.own hb).stored k _).1
 .rw[Zw,Qdh,Zw L k,c1,h.quo,<-hq];have:dg (O.set k q) k=q:=by unfold dg;rw[List.getD_eq_getElem?_getD,List.getElem?_set_self (by rw[h.len];exact hk)];rfl
  rw[this]
 .rw[Zw L k,c2,hr]
theorem Tf{w:World}{v:Value}{m n:Nat}(h:Rd w v m)(hn:0<n)(hn64:n<18446744073709551616) :
  Calls Tryz.prog 160 #[v,.int .u64 (n:Int)] w fun e w'=>∃u,e=.returned (.tuple #[u,.int .u64 ((m%n:Nat):Int),.int .i64 0])/\Dg w' u (m/n)/\Below w.heap.size w w':=by
 obtain⟨L,hr,rfl,hl⟩:=h;have HR:=h_ hr;obtain⟨a,c,rfl,hcell⟩:=hr.sl.form;have HC:=h_ hcell;have HN:=h_ hn;have hn0:((n:Int)==0)=false:=by rw[beq_eq_false_iff_ne];omega
 obtain⟨N,hN⟩:∃N,L.length=N:=⟨_,rfl⟩
 have HNL:=h_ hN;rw[hN]at hl |-;clear hr hcell hN hn;go_enter Tryz.func160,Tryz.ntmps160;go_wp2_with (refine Jb (w0:=w) rfl (.tmp 13) 40 rfl w.heap.size 22 (.int .u64 0) 8 Tryz.underlying40 Tryz.info22 rfl (by decide) _ _ N rfl rfl (by omega) (Below.refl _ _) (Nat.le_refl _) ?_)
 intro w1 ho1 hb1 hB1;have hS:Qb (C8 w w1 (.slice (some ⟨w.heap.size,0,none⟩) N N) N n L (List.replicate N 0) N 0):=by
  refine⟨by have:=ho1.o;rwa[Vy]at this,Kl N,hb1,?_,?_⟩
  .rw[Vz (by simp),Vz (by rw[HNL.o];exact Nat.le_refl _),Nat.zero_div]
  .rw[Vz (by rw[HNL.o];exact Nat.le_refl _),Nat.zero_mod]
 clear ho1 hb1 hB1;have q0:IntKind.i64.wrap ((N:Int)-1)=(N:Int)-1:=IntWalk.i64_in _ (by omega);go_wp2
 go_loopw [8,9] (fun r i wr=>∃(z:Int) (k rr:Nat) (O:List Nat),i=.int .i64 z/\r=.int .u64 (rr:Int)/\Qb (z=(k:Int)-1)/\k<=N/\Qb (C8 w wr (.slice (some ⟨w.heap.size,0,none⟩) N N) N n L O k rr)) (fun _ i _=>((intOf i)+1).toNat)
 case atStart=>exact⟨_,N,0,_,rfl,rfl,rfl,Nat.le_refl _,hS⟩
 case round =>
  obtain⟨z,k,rr,O,rfl,rfl,hz,hk,hh⟩:=hrel;have hzz:=hz.o;rcases k with _|k
  .obtain rfl:z=-1:=by simpa using hzz
   have HB:=h_ (Xp (Qr.of_own hh.o.own (HR.o.tab.below hh.o.b) hh.o.digs) (by rw[hh.o.len];omega));have hv:Qc O=Qc L/n:=by have:=hh.o.quo;rwa[List.drop_zero,List.drop_zero]at this
   have hr2:rr=Qc L%n:=by have:=hh.o.rest;rw[List.drop_zero]at this;exact this.symm
   rw[hv]at HB;have HRR:=h_ hr2;clear hv hr2 hzz hz;go_wp2_with fail;refine(HB.o).mono ?_;rintro e w2 ⟨u,rfl,hu,hb⟩;have HU:=h_ hu;have HB2:=h_ (hh.o.b.trans (hb.mono hh.o.b.size));clear hu hb;go_wp2;exact bodyPost_ret (v:=.tuple #[u,.int .u64 (rr:Int),.int .i64 0]) (by simp[results,Tryz.results160,go_sem]) rfl ⟨u,by rw[<-HRR.o],HU.o,HB2.o⟩
  .obtain rfl:z=(k:Int):=by omega
   have hfz:=hh.o.own.frozenAt k;obtain⟨b,off,rfl,hc2⟩:=HC.o (by rw[HNL.o];omega);have hx:wr.cell? ⟨b,off+k,none⟩=some (.int .u64 (dg L k:Nat)):=Qj hh.o.b (Nat.le_refl _) (hc2 k _ (Qu (by rw[HNL.o];omega)));have hd:=Qy HR.o.digs k;have hrn:rr<n:=by rw[<-hh.o.rest];exact Nat.mod_lt _ HN.o
   have HST:=h_ (fun w' hb q r' hq hr u hu=>hh.o.step (w':=w') (Nat.le_refl _) hb (by omega) HN.o HR.o.digs q r' hq hr u hu);have HD:=h_ (Fh rr (dg L k) n hrn hn64 hd);obtain⟨q,hq⟩:∃q,q=(rr*18446744073709551616+dg L k)/n:=⟨_,rfl⟩
   obtain⟨r',hr'⟩:∃r',r'=(rr*18446744073709551616+dg L k)%n:=⟨_,rfl⟩
   rw[<-hq,<-hr']at HD;have HQ:=h_ (And.intro hq hr');clear hc2 hzz hz hq hr';generalize dg L k=y at *
   go_wp2_with fail;refine(HD.o _).mono ?_;rintro e w2 ⟨rfl,hb⟩;have HF:=h_ (hh.o.own);have hfz:=(Up hh.o.own hb).frozenAt k;have hxc:w2.cell? ⟨w.heap.size,k,none⟩=some (.int .u64 (dg O k:Nat)):=by rw[(Up hh.o.own hb).cellAt k (by omega)];exact Jj (Qu (by rw[hh.o.len];omega))
   have HO:=h_ (HST.o w2 hb q r' HQ.o.1 HQ.o.2 _ rfl);have q1:IntKind.i64.wrap ((k:Int)-1)=(k:Int)-1:=IntWalk.i64_in _ (by omega);clear hb hx HST HD;go_wp2;go_roundw
   case rel=>exact⟨_,k,r',_,rfl,rfl,rfl,by omega,HO⟩
   case measure=>simp[intOf]
theorem Dg.one{w:World}{a:Option Addr}{k c n:Nat}(h:Dg w (.slice a k c) n)(h0:n≠0)(hn:n<18446744073709551616) :
  k=1/\∃b off,a=some ⟨b,off,none⟩/\w.cell? ⟨b,off,none⟩=some (.int .u64 (n:Int)):=by
 obtain⟨L,hr,hc⟩:=h;obtain⟨a',c',he,hcell⟩:=hr.sl;injection he with e1 e2 e3;subst e1 e3;rw[Zo]at e2;have hl:L.length=1:=by
  have hv:=hc.val;have h1:=Jl hc h0;have h2:=Zs hn;have h3:=Zi (n:=dg L (L.length-1)) (by omega);cases L with
  | nil=>exact absurd hv.symm h0
  | cons x t=>simp only[List.length_cons]at *;omega
 refine⟨by omega,?_⟩;obtain⟨b,off,rfl,hc2⟩:=hcell (by rw[Zo];omega);refine⟨b,off,rfl,?_⟩
 match L,hl with
 | [x],_ =>
  have hx:x=n:=by have:=hc.val;simpa[Qc]using this
  have:=hc2 0 (.int .u64 (x:Int)) (by simp[Qz]);rw[hx]at this;exact this
theorem Qdo{m n:Nat}:(Qm m n<0)↔m<n:=by unfold Qm;split;omega;split<;>omega
theorem Qe6{w:World}{u v:Value}{m n:Nat}(hu:Rd w u m)(hv:Rd w v n)(h0:0<n)(h:n<18446744073709551616\/m<n)(bm:bl m<=6000000)(bn:bl n<=6000000) :
  Calls Tryz.prog 167 #[u,v] w fun e w'=>∃x y,e=.returned (.tuple #[x,y,.int .i64 0])/\Dg w' x (m/n)/\Dg w' y (m%n)/\Below w.heap.size w w':=by
 have HU:=h_ hu;have HV:=h_ hv;obtain⟨a1,k1,c1,rfl⟩:=hu.form;obtain⟨a2,k2,c2,rfl⟩:=hv.form;have CC:=h_ (fun w (u v:Value) (h:Rd w u m) (k:Rd w v n)=>Kw h k);have HC:=h_ (Qdo (m:=m) (n:=n));have B0:=h_ bm;have B1:=h_ bn;generalize Qm m n=c at *
 have H0:=h_ h0;have H:=h_ h;clear hu hv h0 h bm bn;go_enter Tryz.func167,Tryz.ntmps167;have F0:=h_ (Fx.nil w);have X0:=h_ (HU.o);have Y0:=h_ (HV.o);go_wp2_with fail;refine(Kt X0.o).mono ?_;rintro q w1 ⟨u,rfl,hu,hb⟩;have F1:=h_ (F0.o.call hb);have X1:=h_ (X0.o.below hb);have Y1:=h_ (Y0.o.below hb);have U1:=h_ (hu);obtain⟨a3,k3,c3,rfl⟩:=U1.o.form;go_wp2_with fail;refine(Kt Y1.o).mono ?_;rintro q w2 ⟨u,rfl,hu,hb⟩;have F2:=h_ (F1.o.call hb);have X2:=h_ (X1.o.below hb);have Y2:=h_ (Y1.o.below hb);have U2:=h_ (U1.o.below hb);have V2:=h_ (hu);obtain⟨a4,k4,c4,rfl⟩:=V2.o.form;have t0:((k4:Int)==0)=false:=by rw[beq_eq_false_iff_ne];intro h;have:=V2.o.len0.2 (by omega);have:=H0.o;omega
 go_wp2_with fail;refine(CC.o _ _ _ (U2.o.rd B0.o) (V2.o.rd B1.o)).mono ?_;rintro q w3 ⟨rfl,hb⟩;have F3:=h_ (F2.o.call hb);have U3:=h_ (U2.o.below hb);have V3:=h_ (V2.o.below hb);by_cases hc:c<0
 .have HM:=h_ (HC.o.1 hc);have t1:decide (c<0)=true:=decide_eq_true hc;clear hc;go_wp2;refine bodyPost_ret (v:=.tuple #[.slice none 0 0,.slice a3 k3 c3,.int .i64 0]) (by simp[results,Tryz.results167,go_sem]) rfl ?_;refine⟨_,_,rfl,?_,?_,F3.o.b⟩
  .rw[Nat.div_eq_of_lt HM.o];exact Dg.nil U3.o.tab
  .rw[Nat.mod_eq_of_lt HM.o];exact U3.o
 .have HM:=h_ (show n<18446744073709551616 from H.o.elim id (fun h=>absurd (HC.o.2 h) hc));have t1:decide (c<0)=false:=decide_eq_false hc;clear hc;obtain⟨rfl,b,off,rfl,x0⟩:=V3.o.one (by have:=H0.o;omega) HM.o;go_wp2_with fail;refine(Tf (U3.o.rd B0.o) H0.o HM.o).mono ?_;rintro q w4 ⟨u,rfl,hu,hb⟩;have F4:=h_ (F3.o.call hb);have U4:=h_ (U3.o.below hb);have V4:=h_ (V3.o.below hb);have Q4:=h_ (hu);obtain⟨a5,k5,c5,rfl⟩:=Q4.o.form;clear x0;obtain⟨r,hr⟩:∃r,r=m%n:=⟨_,rfl⟩
  have HR:=h_ hr;have hr64:r<18446744073709551616:=by have:=Nat.mod_lt m H0.o;have:=HM.o;omega
  rw[<-hr];clear hr;go_wp2_with fail;refine(Zu hr64 U4.o.tab).mono ?_;rintro q w5 ⟨u,rfl,hu,hb⟩;have F5:=h_ (F4.o.call hb);have U5:=h_ (U4.o.below hb);have V5:=h_ (V4.o.below hb);have Q5:=h_ (Q4.o.below hb);have R5:=h_ (hu);obtain⟨a6,k6,c6,rfl⟩:=R5.o.form;go_wp2;refine bodyPost_ret (v:=.tuple #[.slice a5 k5 c5,.slice a6 k6 c6,.int .i64 0]) (by simp[results,Tryz.results167,go_sem]) rfl ?_;exact⟨_,_,rfl,Q5.o,HR.o▸R5.o,F5.o.b⟩
structure Pr where
 lo:Nat
 hi:Nat
def Pv(w:World)(v:Value)(p:Pr):Prop:=∃a k c a' k' c',v=.agg #[.slice a k c,.slice a' k' c']/\Dg w (.slice a k c) p.lo/\Dg w (.slice a' k' c') p.hi
theorem Pv.below{w w':World}{v:Value}{p:Pr}(h:Pv w v p)(hb:Below w.heap.size w w'):Pv w' v p:=by obtain⟨a,k,c,a',k',c',h1,h2,h3⟩:=h;exact⟨a,k,c,a',k',c',h1,h2.below hb,h3.below hb⟩
theorem Pv.alloc{w:World}{v:Value}{p:Pr}(h:Pv w v p)(o:Obj):Pv (w.alloc o) v p:=by obtain⟨a,k,c,a',k',c',h1,h2,h3⟩:=h;exact⟨a,k,c,a',k',c',h1,h2.alloc o,h3.alloc o⟩
theorem Pv.drew{w:World}{v:Value}{p:Pr}(h:Pv w v p):Pv w.drew v p:=by obtain⟨a,k,c,a',k',c',h1,h2,h3⟩:=h;exact⟨a,k,c,a',k',c',h1,h2.drew,h3.drew⟩
theorem Pv.kp{w w':World}{v:Value}{p:Pr}(h:Pv w v p)(K:Kp w w'):Pv w' v p:=by obtain⟨a,k,c,a',k',c',h1,h2,h3⟩:=h;exact⟨a,k,c,a',k',c',h1,h2.kp K,h3.kp K⟩
theorem Pv.tab{w:World}{v:Value}{p:Pr}(h:Pv w v p):Qq w:=by obtain⟨a,k,c,a',k',c',h1,h2,h3⟩:=h;exact h2.tab
theorem Pv.fst{w:World}{a:Option Addr}{k c:Nat}{a':Option Addr}{k' c':Nat}{p:Pr}(h:Pv w (.agg #[.slice a k c,.slice a' k' c']) p):Dg w (.slice a k c) p.lo/\Dg w (.slice a' k' c') p.hi:=by obtain⟨_,_,_,_,_,_,he,h1,h2⟩:=h;simp at he;obtain⟨⟨rfl,rfl,rfl⟩,rfl,rfl,rfl⟩:=he;exact⟨h1,h2⟩
def Ba(p:Pr)(w:World)(e:Ending)(w':World):Prop:=∃u,e=.returned u/\Pv w' u p/\Below w.heap.size w w'
def Md(n k:Nat):Nat:=if n%2^k=0 then n/2^k else n/2^k+1
theorem Oy{w:World}{v:Value}{n:Nat}(h:Rd w v n)(k:Nat)(hk:k<=1000000000)(hb:bl n<=6000000):Calls Tryz.prog 183 #[v,.int .i64 (k:Int)] w (J2 (Md n k) w):=by
 have HV:=h_ h;obtain⟨a1,k1,c1,rfl⟩:=h.form;have CS:=h_ (fun w (h:Rd w (.slice a1 k1 c1) n)=>Tn h k hk);have HU:Qb (Md n k=if n%2^k=0 then n/2^k else n/2^k+1):=rfl;have hq:bl (n/2^k)<=6000000:=Nat.le_trans (Zc (Nat.div_le_self _ _)) hb;generalize n/2^k=m at *
 generalize Md n k=U at *
 generalize hg:decide (n%2^k≠0)=g at *
 have HG:Qb (g=decide (n%2^k≠0)):=hg.symm;clear h hg hb hk;go_enter Tryz.func183,Tryz.ntmps183;have F0:=h_ (Fx.nil w);have X0:=h_ (HV.o);go_wp2_with fail;refine(CS.o _ X0.o).mono ?_;rintro q w1 ⟨u,rfl,hu,hb⟩;have F1:=h_ (F0.o.call hb);have X1:=h_ (X0.o.below hb);have U1:=h_ (hu);obtain⟨a3,k3,c3,rfl⟩:=U1.o.form;cases g
 .have HE:Qb (U=m):=by have:=HG.o;simp at this;exact HU.o.trans (if_pos this)
  go_wp2;refine bodyPost_ret (v:=.slice a3 k3 c3) (by simp[results,Tryz.results183,go_sem]) rfl ?_;exact⟨_,rfl,HE.o▸U1.o,F1.o.b⟩
 .have HE:Qb (U=m+1):=by have:=HG.o;simp at this;exact HU.o.trans (if_neg this)
  go_wp2_with fail;refine(Zu (n:=1) (by decide) U1.o.tab).mono ?_;rintro q w2 ⟨u,rfl,hu,hb⟩;have F2:=h_ (F1.o.call hb);have X2:=h_ (X1.o.below hb);have U2:=h_ (U1.o.below hb);have O2:=h_ (hu);obtain⟨a4,k4,c4,rfl⟩:=O2.o.form;go_wp2_with fail;refine(Xd (U2.o.rd hq) (O2.o.rd (by decide))).mono ?_;rintro q w3 ⟨u,rfl,hu,hb⟩;have F3:=h_ (F2.o.call hb);have X3:=h_ (X2.o.below hb);have U3:=h_ (U2.o.below hb);have O3:=h_ (O2.o.below hb);have R3:=h_ (hu);obtain⟨a5,k5,c5,rfl⟩:=R3.o.form;go_wp2;refine bodyPost_ret (v:=.slice a5 k5 c5) (by simp[results,Tryz.results183,go_sem]) rfl ?_;exact⟨_,rfl,HE.o▸R3.o,F3.o.b⟩
def Qt(num den s:Nat):Pr:=⟨num*2^s/den,if num*2^s%den=0 then num*2^s/den else num*2^s/den+1⟩
theorem Yh{w:World}{v:Value}{n:Nat}(h:Rd w v n)(k:Nat)(hk:k+bl n<=65536):Calls Tryz.prog 125 #[v,.int .i64 (k:Int)] w (Jp (n*2^k) 0 w):=by
 have h1:=Qj1 h k (by omega);have e1:Nh n k=n*2^k:=by
  unfold Nh;split
  .simp[*]
  .rw[if_neg (by omega)]
 have e2:Ni n k=0:=by unfold Ni;split;rfl;rw[if_neg (by omega)]
 rw[e1,e2]at h1;exact h1
theorem Cq(n k:Nat):bl (n*2^k)<=bl n+k:=by apply Zp;rw[Nat.pow_add];exact Nat.mul_lt_mul_of_pos_right (Zb n) (Nat.two_pow_pos _)
theorem Qiv{w:World}{u v:Value}{num den:Nat}(hu:Rd w u num)(hv:Rd w v den)(s:Nat)(h0:0<den)(h64:den<18446744073709551616)(hs:s+bl num<=60000) :
  Calls Tryz.prog 178 #[u,v,.int .i64 (s:Int)] w (Ba (Qt num den s) w):=by
 have HU:=h_ hu;have HV:=h_ hv;obtain⟨a1,k1,c1,rfl⟩:=hu.form;obtain⟨a2,k2,c2,rfl⟩:=hv.form;have CS:=h_ (fun w (h:Rd w (.slice a1 k1 c1) num)=>Yh h s (by omega));have HF:Qb (Qt num den s=⟨num*2^s/den,if num*2^s%den=0 then num*2^s/den else num*2^s/den+1⟩):=rfl;have hb:bl (num*2^s)<=60000:=Nat.le_trans (Cq _ _) (by omega);have hb2:bl (num*2^s/den)<=6000000:=Nat.le_trans (Zc (Nat.div_le_self _ _)) (by omega);have CD:=h_ (fun w u (h:Rd w u (num*2^s)) (k:Rd w (.slice a2 k2 c2) den)=>Qe6 h k h0 (.inl h64) (by omega) (Nat.le_trans (Zs h64) (by decide)));generalize Qt num den s=P at *
 generalize num*2^s=m at *
 generalize m/den=x at *
 generalize m%den=r at *
 clear hu hv h0 hs h64;go_enter Tryz.func178,Tryz.ntmps178;have F0:=h_ (Fx.one w 226 #[.slice none 0 0,.slice none 0 0] rfl);have X0:=h_ (HU.o.alloc (.cells #[.slice none 0 0,.slice none 0 0] 226));have Y0:=h_ (HV.o.alloc (.cells #[.slice none 0 0,.slice none 0 0] 226));go_wp2_with fail;generalize alloc _ _=w0 at F0 X0 Y0 |-;have c0_0:=F0.o.c2 0 rfl;refine(CS.o _ X0.o).mono ?_;rintro q w1 ⟨u,rfl,hu,hb⟩;have F1:=h_ (F0.o.call hb);have X1:=h_ (X0.o.below hb);have Y1:=h_ (Y0.o.below hb);have U1:=h_ (hu);have c0_1:=F1.o.c2 0 rfl;obtain⟨a3,k3,c3,rfl⟩:=U1.o.form;go_wp2_with fail;refine(CD.o _ _ (U1.o.rd (by omega)) Y1.o).mono ?_;rintro q w2 ⟨u,v,rfl,hx,hy,hb⟩;have F2:=h_ (F1.o.call hb);have Y2:=h_ (Y1.o.below hb);have U2:=h_ (U1.o.below hb);have Q2:=h_ (hx);have R2:=h_ (hy);have c0_2:=F2.o.c2 0 rfl;obtain⟨a4,k4,c4,rfl⟩:=Q2.o.form;obtain⟨a5,k5,c5,rfl⟩:=R2.o.form;have hr:=R2.o.len0;by_cases hr0:r=0
 .have HE:Qb (P=⟨x,x⟩):=by rw[HF.o,if_pos hr0];rfl
  obtain rfl:k5=0:=hr.1 hr0;clear hr hr0 HF;go_wp2;obtain⟨f0,p0⟩:=F2.o.s2 0 rfl (.slice a4 k4 c4) (.slice a4 k4 c4) rfl rfl;have p:=p0;have f:=f0;generalize setCell _ _ _=W at f p |-;have g0:=f.c2 0 rfl;refine bodyPost_ret (v:=.agg #[.slice a4 k4 c4,.slice a4 k4 c4]) (by simp[results,Tryz.results178,go_sem,g0]) rfl ?_;exact⟨_,rfl,HE.o▸⟨_,_,_,_,_,_,rfl,Q2.o.kp p,Q2.o.kp p⟩,f.b⟩
 .have HE:Qb (P=⟨x,x+1⟩):=by rw[HF.o,if_neg hr0];rfl
  have t0:decide (0<(k5:Int))=true:=decide_eq_true (by have:k5≠0:=fun h=>hr0 (hr.2 h);omega);have t1:decide (0<k5)=true:=decide_eq_true (by have:k5≠0:=fun h=>hr0 (hr.2 h);omega);clear hr hr0 HF;go_wp2_with fail;refine(Zu (n:=1) (by decide) Q2.o.tab).mono ?_;rintro q w3 ⟨u,rfl,hu,hb⟩;have F3:=h_ (F2.o.call hb);have Q3:=h_ (Q2.o.below hb);have R3:=h_ (R2.o.below hb);have O3:=h_ (hu);have c0_3:=F3.o.c2 0 rfl;obtain⟨a6,k6,c6,rfl⟩:=O3.o.form;go_wp2_with fail;refine(Xd (Q3.o.rd hb2) (O3.o.rd (by decide))).mono ?_;rintro q w4 ⟨u,rfl,hu,hb⟩;have F4:=h_ (F3.o.call hb);have Q4:=h_ (Q3.o.below hb);have R4:=h_ (R3.o.below hb);have O4:=h_ (O3.o.below hb);have S4:=h_ (hu);have c0_4:=F4.o.c2 0 rfl;obtain⟨a7,k7,c7,rfl⟩:=S4.o.form;go_wp2;obtain⟨f0,p0⟩:=F4.o.s2 0 rfl (.slice a4 k4 c4) (.slice a7 k7 c7) rfl rfl;have p:=p0;have f:=f0;generalize setCell _ _ _=W at f p |-;have g0:=f.c2 0 rfl;refine bodyPost_ret (v:=.agg #[.slice a4 k4 c4,.slice a7 k7 c7]) (by simp[results,Tryz.results178,go_sem,g0]) rfl ?_;exact⟨_,rfl,HE.o▸⟨_,_,_,_,_,_,rfl,Q4.o.kp p,S4.o.kp p⟩,f.b⟩
def Qn(p q:Pr)(s:Nat):Pr:=⟨p.lo*q.lo/2^s,Md (p.hi*q.hi) s⟩
theorem Dh{w:World}{u v:Value}{p q:Pr}(hu:Pv w u p)(hv:Pv w v q)(s:Nat)(hs:s<=100000)(h1:bl p.lo+bl q.lo<=65536)(h2:bl p.hi+bl q.hi<=65536) :
  Calls Tryz.prog 170 #[u,v,.int .i64 (s:Int)] w (Ba (Qn p q s) w):=by
 obtain⟨a1,k1,c1,a2,k2,c2,rfl,hx1,hx2⟩:=hu;obtain⟨a3,k3,c3,a4,k4,c4,rfl,hy1,hy2⟩:=hv;obtain⟨pl,ph⟩:=p;obtain⟨ql,qh⟩:=q;simp only at h1 h2 hx1 hx2 hy1 hy2;have HE:Qn ⟨pl,ph⟩ ⟨ql,qh⟩ s=⟨pl*ql/2^s,Md (ph*qh) s⟩:=rfl;rw[HE];have HX1:=h_ (hx1.rd (by omega));have HX2:=h_ (hx2.rd (by omega));have HY1:=h_ (hy1.rd (by omega));have HY2:=h_ (hy2.rd (by omega));have bm:=Wv pl ql;have bm2:=Wv ph qh;have C1:=h_ (fun w (h:Rd w (.slice a1 k1 c1) pl) (k:Rd w (.slice a3 k3 c3) ql)=>Mu h k h1);have C2:=h_ (fun w (h:Rd w (.slice a2 k2 c2) ph) (k:Rd w (.slice a4 k4 c4) qh)=>Mu h k h2);have C3:=h_ (fun w v (h:Rd w v (pl*ql))=>Tn h s (by omega));have C4:=h_ (fun w v (h:Rd w v (ph*qh))=>Oy h s (by omega) (by omega));generalize ph*qh=m2 at *
 generalize pl*ql=m1 at *
 generalize m1/2^s=r1 at *
 generalize Md m2 s=r2 at *
 generalize decide (m1%2^s≠0)=g at *
 clear hx1 hx2 hy1 hy2 HE;go_enter Tryz.func170,Tryz.ntmps170;have F0:=h_ (Fx.three w 226 #[.slice a1 k1 c1,.slice a2 k2 c2] 226 #[.slice a3 k3 c3,.slice a4 k4 c4] 226 #[.slice none 0 0,.slice none 0 0] rfl rfl rfl);have P0:=h_ (((HX1.o.alloc (.cells #[.slice a1 k1 c1,.slice a2 k2 c2] 226)).alloc (.cells #[.slice a3 k3 c3,.slice a4 k4 c4] 226)).alloc (.cells #[.slice none 0 0,.slice none 0 0] 226));have Q0:=h_ (((HX2.o.alloc (.cells #[.slice a1 k1 c1,.slice a2 k2 c2] 226)).alloc (.cells #[.slice a3 k3 c3,.slice a4 k4 c4] 226)).alloc (.cells #[.slice none 0 0,.slice none 0 0] 226));have R0:=h_ (((HY1.o.alloc (.cells #[.slice a1 k1 c1,.slice a2 k2 c2] 226)).alloc (.cells #[.slice a3 k3 c3,.slice a4 k4 c4] 226)).alloc (.cells #[.slice none 0 0,.slice none 0 0] 226));have S0:=h_ (((HY2.o.alloc (.cells #[.slice a1 k1 c1,.slice a2 k2 c2] 226)).alloc (.cells #[.slice a3 k3 c3,.slice a4 k4 c4] 226)).alloc (.cells #[.slice none 0 0,.slice none 0 0] 226));go_upto_region 1 with(fail)
 generalize alloc (alloc (alloc _ _) _) _=w0 at F0 P0 Q0 R0 S0 |-;have c0_0:=F0.o.c2 0 rfl;have c1_0:=F0.o.c2 1 rfl;have c2_0:=F0.o.c2 2 rfl;go_wp2_with fail;refine(C1.o _ P0.o R0.o).mono ?_;rintro q w1 ⟨u,rfl,hu,hb⟩;have F1:=h_ (F0.o.call hb);have P1:=h_ (P0.o.below hb);have Q1:=h_ (Q0.o.below hb);have R1:=h_ (R0.o.below hb);have S1:=h_ (S0.o.below hb);have U1:=h_ (hu);have c0_1:=F1.o.c2 0 rfl;have c1_1:=F1.o.c2 1 rfl;have c2_1:=F1.o.c2 2 rfl;obtain⟨a5,k5,c5,rfl⟩:=U1.o.form;go_wp2_with fail;refine(C2.o _ Q1.o S1.o).mono ?_;rintro q w2 ⟨u,rfl,hu,hb⟩;have F2:=h_ (F1.o.call hb);have Q2:=h_ (Q1.o.below hb);have S2:=h_ (S1.o.below hb);have U2:=h_ (U1.o.below hb);have V2:=h_ (hu);have c0_2:=F2.o.c2 0 rfl;have c1_2:=F2.o.c2 1 rfl;have c2_2:=F2.o.c2 2 rfl;obtain⟨a6,k6,c6,rfl⟩:=V2.o.form;go_wp2_with fail;refine(C3.o _ _ (U2.o.rd (by omega))).mono ?_;rintro q w3 ⟨u,rfl,hu,hb⟩;have F3:=h_ (F2.o.call hb);have U3:=h_ (U2.o.below hb);have V3:=h_ (V2.o.below hb);have W3:=h_ (hu);have c0_3:=F3.o.c2 0 rfl;have c1_3:=F3.o.c2 1 rfl;have c2_3:=F3.o.c2 2 rfl;obtain⟨a7,k7,c7,rfl⟩:=W3.o.form;go_wp2_with fail;refine(C4.o _ _ (V3.o.rd (by omega))).mono ?_;rintro q w4 ⟨u,rfl,hu,hb⟩;have F4:=h_ (F3.o.call hb);have U4:=h_ (U3.o.below hb);have V4:=h_ (V3.o.below hb);have W4:=h_ (W3.o.below hb);have Z4:=h_ (hu);have c0_4:=F4.o.c2 0 rfl;have c1_4:=F4.o.c2 1 rfl;have c2_4:=F4.o.c2 2 rfl;obtain⟨a8,k8,c8,rfl⟩:=Z4.o.form;go_wp2;obtain⟨f0,p0⟩:=F4.o.s2 2 rfl (.slice a7 k7 c7) (.slice a8 k8 c8) rfl rfl;have p:=p0;have f:=f0;generalize setCell _ _ _=W at f p |-;have g2:=f.c2 2 rfl;refine bodyPost_ret (v:=.agg #[.slice a7 k7 c7,.slice a8 k8 c8]) (by simp[results,Tryz.results170,go_sem,g2]) rfl ?_;exact⟨_,rfl,⟨_,_,_,_,_,_,rfl,W4.o.kp p,Z4.o.kp p⟩,f.b⟩
def Jk(p:Pr)(n:Nat):Pr:=⟨p.lo/n,if p.hi%n=0 then p.hi/n else p.hi/n+1⟩
def Jv(p q:Pr):Pr:=⟨p.lo+q.lo,p.hi+q.hi⟩
def Yi(p q:Pr):Pr:=⟨p.lo,p.hi+(q.hi+q.hi)⟩
theorem Qek{w:World}{u:Value}{p:Pr}(hu:Pv w u p){n:Nat}(hn:0<n)(hn64:n<18446744073709551616)(h1:bl p.lo<=6000000)(h2:bl p.hi<=6000000) :
  Calls Tryz.prog 171 #[u,.int .u64 (n:Int)] w (Ba (Jk p n) w):=by
 obtain⟨a1,k1,c1,a2,k2,c2,rfl,hx1,hx2⟩:=hu;obtain⟨pl,ph⟩:=p;simp only at h1 h2 hx1 hx2;have HF:Qb (Jk ⟨pl,ph⟩ n=⟨pl/n,if ph%n=0 then ph/n else ph/n+1⟩):=rfl;have HX1:=h_ (hx1.rd h1);have HX2:=h_ (hx2.rd h2);have C1:=h_ (fun w (h:Rd w (.slice a1 k1 c1) pl)=>Tf h hn hn64);have C2:=h_ (fun w (h:Rd w (.slice a2 k2 c2) ph)=>Tf h hn hn64);have hb2:bl (ph/n)<=6000000:=Nat.le_trans (Zc (Nat.div_le_self _ _)) h2;generalize Jk ⟨pl,ph⟩ n=P at *
 generalize pl/n=x at *
 generalize ph/n=y at *
 generalize pl%n=rx at *
 generalize ph%n=r at *
 clear hx1 hx2;go_enter Tryz.func171,Tryz.ntmps171;have F0:=h_ (Fx.two w 226 #[.slice a1 k1 c1,.slice a2 k2 c2] 226 #[.slice none 0 0,.slice none 0 0] rfl rfl);have P0:=h_ ((HX1.o.alloc (.cells #[.slice a1 k1 c1,.slice a2 k2 c2] 226)).alloc (.cells #[.slice none 0 0,.slice none 0 0] 226));have Q0:=h_ ((HX2.o.alloc (.cells #[.slice a1 k1 c1,.slice a2 k2 c2] 226)).alloc (.cells #[.slice none 0 0,.slice none 0 0] 226));go_upto_region 1 with(fail)
 generalize alloc (alloc _ _) _=w0 at F0 P0 Q0 |-;have c0_0:=F0.o.c2 0 rfl;have c1_0:=F0.o.c2 1 rfl;go_wp2_with fail;refine(C1.o _ P0.o).mono ?_;rintro q w1 ⟨u,rfl,hu,hb⟩;have F1:=h_ (F0.o.call hb);have P1:=h_ (P0.o.below hb);have Q1:=h_ (Q0.o.below hb);have U1:=h_ (hu);have c0_1:=F1.o.c2 0 rfl;have c1_1:=F1.o.c2 1 rfl;obtain⟨a5,k5,c5,rfl⟩:=U1.o.form;go_wp2_with fail;refine(C2.o _ Q1.o).mono ?_;rintro q w2 ⟨u,rfl,hu,hb⟩;have F2:=h_ (F1.o.call hb);have Q2:=h_ (Q1.o.below hb);have U2:=h_ (U1.o.below hb);have V2:=h_ (hu);have c0_2:=F2.o.c2 0 rfl;have c1_2:=F2.o.c2 1 rfl;obtain⟨a6,k6,c6,rfl⟩:=V2.o.form;by_cases hr0:r=0
 .have HE:Qb (P=⟨x,y⟩):=by rw[HF.o,if_pos hr0];rfl
  have t0:decide (0<(r:Int))=false:=decide_eq_false (by omega);have t1:decide (0<r)=false:=decide_eq_false (by omega);clear hr0 HF;go_wp2;obtain⟨f0,p0⟩:=F2.o.s2 1 rfl (.slice a5 k5 c5) (.slice a6 k6 c6) rfl rfl;have p:=p0;have f:=f0;generalize setCell _ _ _=W at f p |-;have g1:=f.c2 1 rfl;refine bodyPost_ret (v:=.agg #[.slice a5 k5 c5,.slice a6 k6 c6]) (by simp[results,Tryz.results171,go_sem,g1]) rfl ?_;exact⟨_,rfl,HE.o▸⟨_,_,_,_,_,_,rfl,U2.o.kp p,V2.o.kp p⟩,f.b⟩
 .have HE:Qb (P=⟨x,y+1⟩):=by rw[HF.o,if_neg hr0];rfl
  have t0:decide (0<(r:Int))=true:=decide_eq_true (by omega);have t1:decide (0<r)=true:=decide_eq_true (by omega);clear hr0 HF;go_wp2_with fail;refine(Zu (n:=1) (by decide) V2.o.tab).mono ?_;rintro q w3 ⟨u,rfl,hu,hb⟩;have F3:=h_ (F2.o.call hb);have U3:=h_ (U2.o.below hb);have V3:=h_ (V2.o.below hb);have O3:=h_ (hu);have c0_3:=F3.o.c2 0 rfl;have c1_3:=F3.o.c2 1 rfl;obtain⟨a7,k7,c7,rfl⟩:=O3.o.form;go_wp2_with fail;refine(Xd (V3.o.rd hb2) (O3.o.rd (by decide))).mono ?_;rintro q w4 ⟨u,rfl,hu,hb⟩;have F4:=h_ (F3.o.call hb);have U4:=h_ (U3.o.below hb);have V4:=h_ (V3.o.below hb);have O4:=h_ (O3.o.below hb);have S4:=h_ (hu);have c0_4:=F4.o.c2 0 rfl;have c1_4:=F4.o.c2 1 rfl;obtain⟨a8,k8,c8,rfl⟩:=S4.o.form;go_wp2;obtain⟨f0,p0⟩:=F4.o.s2 1 rfl (.slice a5 k5 c5) (.slice a8 k8 c8) rfl rfl;have p:=p0;have f:=f0;generalize setCell _ _ _=W at f p |-;have g1:=f.c2 1 rfl;refine bodyPost_ret (v:=.agg #[.slice a5 k5 c5,.slice a8 k8 c8]) (by simp[results,Tryz.results171,go_sem,g1]) rfl ?_;exact⟨_,rfl,HE.o▸⟨_,_,_,_,_,_,rfl,U4.o.kp p,S4.o.kp p⟩,f.b⟩
theorem Av{w:World}{u v:Value}{p q:Pr}(hu:Pv w u p)(hv:Pv w v q)(h1:bl p.lo<=1000000/\bl p.hi<=1000000/\bl q.lo<=1000000/\bl q.hi<=1000000) :
  Calls Tryz.prog 172 #[u,v] w (Ba (Jv p q) w):=by
 obtain⟨a1,k1,c1,a2,k2,c2,rfl,hx1,hx2⟩:=hu;obtain⟨a3,k3,c3,a4,k4,c4,rfl,hy1,hy2⟩:=hv;obtain⟨pl,ph⟩:=p;obtain⟨ql,qh⟩:=q;simp only at h1 hx1 hx2 hy1 hy2;have HE:Jv ⟨pl,ph⟩ ⟨ql,qh⟩=⟨pl+ql,ph+qh⟩:=rfl;rw[HE];have HX1:=h_ (hx1.rd (by omega));have HX2:=h_ (hx2.rd (by omega));have HY1:=h_ (hy1.rd (by omega));have HY2:=h_ (hy2.rd (by omega));have C1:=h_ (fun w (h:Rd w (.slice a1 k1 c1) pl) (k:Rd w (.slice a3 k3 c3) ql)=>Xd h k);have C2:=h_ (fun w (h:Rd w (.slice a2 k2 c2) ph) (k:Rd w (.slice a4 k4 c4) qh)=>Xd h k);generalize ph+qh=m2 at *
 generalize pl+ql=m1 at *
 clear hx1 hx2 hy1 hy2 HE;go_enter Tryz.func172,Tryz.ntmps172;have F0:=h_ (Fx.three w 226 #[.slice a1 k1 c1,.slice a2 k2 c2] 226 #[.slice a3 k3 c3,.slice a4 k4 c4] 226 #[.slice none 0 0,.slice none 0 0] rfl rfl rfl);have P0:=h_ (((HX1.o.alloc (.cells #[.slice a1 k1 c1,.slice a2 k2 c2] 226)).alloc (.cells #[.slice a3 k3 c3,.slice a4 k4 c4] 226)).alloc (.cells #[.slice none 0 0,.slice none 0 0] 226));have Q0:=h_ (((HX2.o.alloc (.cells #[.slice a1 k1 c1,.slice a2 k2 c2] 226)).alloc (.cells #[.slice a3 k3 c3,.slice a4 k4 c4] 226)).alloc (.cells #[.slice none 0 0,.slice none 0 0] 226));have R0:=h_ (((HY1.o.alloc (.cells #[.slice a1 k1 c1,.slice a2 k2 c2] 226)).alloc (.cells #[.slice a3 k3 c3,.slice a4 k4 c4] 226)).alloc (.cells #[.slice none 0 0,.slice none 0 0] 226));have S0:=h_ (((HY2.o.alloc (.cells #[.slice a1 k1 c1,.slice a2 k2 c2] 226)).alloc (.cells #[.slice a3 k3 c3,.slice a4 k4 c4] 226)).alloc (.cells #[.slice none 0 0,.slice none 0 0] 226));go_upto_region 1 with(fail)
 generalize alloc (alloc (alloc _ _) _) _=w0 at F0 P0 Q0 R0 S0 |-;have c0_0:=F0.o.c2 0 rfl;have c1_0:=F0.o.c2 1 rfl;have c2_0:=F0.o.c2 2 rfl;have FC:=h_ (And.intro (F0.o.c2 0 rfl).1 ((F0.o.c2 1 rfl).1))
 go_region_held3 (fun w'=>(w'.cell? ⟨w.heap.size,0,none⟩=some (.slice a1 k1 c1)/\w'.cell? ⟨w.heap.size,1,none⟩=some (.slice a2 k2 c2))/\(w'.cell? ⟨w.heap.size+1,0,none⟩=some (.slice a3 k3 c3)/\w'.cell? ⟨w.heap.size+1,1,none⟩=some (.slice a4 k4 c4))) (first|exact FC.o|exact And.intro ((F2.o.s2 2 rfl (.slice a5 k5 c5) (.slice a6 k6 c6) rfl rfl).1.c2 0 rfl).1 (((F2.o.s2 2 rfl (.slice a5 k5 c5) (.slice a6 k6 c6) rfl rfl).1.c2 1 rfl).1)) (first|(go_at_call 123;(with_reducible refine(C2.o _ Q1.o S1.o).mono ?_);rintro q ww2 ⟨u2,rfl,hu,hb⟩;have F2:=h_ (F1.o.call hb);have P2:=h_ (P1.o.below hb);have Q2:=h_ (Q1.o.below hb);have R2:=h_ (R1.o.below hb);have S2:=h_ (S1.o.below hb);have U2:=h_ (U1.o.below hb);have V2:=h_ (hu);obtain⟨a6,k6,c6,rfl⟩:=V2.o.form;have FC:=h_ (And.intro (F2.o.c2 0 rfl).1 ((F2.o.c2 1 rfl).1));have c0_2:=F2.o.c2 0 rfl;have c1_2:=F2.o.c2 1 rfl;have c2_2:=F2.o.c2 2 rfl)|(go_at_call 123;(with_reducible refine(C1.o _ (P0.o.drew) (R0.o.drew)).mono ?_);rintro q ww1 ⟨u1,rfl,hu,hb⟩;have F1:=h_ ((F0.o.drew).call hb);have P1:=h_ ((P0.o.drew).below hb);have Q1:=h_ ((Q0.o.drew).below hb);have R1:=h_ ((R0.o.drew).below hb);have S1:=h_ ((S0.o.drew).below hb);have U1:=h_ (hu);obtain⟨a5,k5,c5,rfl⟩:=U1.o.form;have FC:=h_ (And.intro (F1.o.c2 0 rfl).1 ((F1.o.c2 1 rfl).1));have c0_1:=F1.o.c2 0 rfl;have c1_1:=F1.o.c2 1 rfl;have c2_1:=F1.o.c2 2 rfl))
 go_wp2;obtain⟨f0,p0⟩:=F2.o.s2 2 rfl (.slice a5 k5 c5) (.slice a6 k6 c6) rfl rfl;have p:=p0;have f:=f0;generalize setCell _ _ _=W at f p |-;have g2:=f.c2 2 rfl;refine bodyPost_ret (v:=.agg #[.slice a5 k5 c5,.slice a6 k6 c6]) (by simp[results,Tryz.results172,go_sem,g2]) rfl ?_;exact⟨_,rfl,⟨_,_,_,_,_,_,rfl,U2.o.kp p,V2.o.kp p⟩,f.b⟩
theorem Lq{w:World}{u v:Value}{p q:Pr}(hu:Pv w u p)(hv:Pv w v q)(h1:bl p.lo<=1000000/\bl p.hi<=1000000/\bl q.lo<=1000000/\bl q.hi<=1000000) :
  Calls Tryz.prog 173 #[u,v] w (Ba (Yi p q) w):=by
 obtain⟨a1,k1,c1,a2,k2,c2,rfl,hx1,hx2⟩:=hu;obtain⟨a3,k3,c3,a4,k4,c4,rfl,hy1,hy2⟩:=hv;obtain⟨pl,ph⟩:=p;obtain⟨ql,qh⟩:=q;simp only at h1 hx1 hx2 hy1 hy2;have HE:Yi ⟨pl,ph⟩ ⟨ql,qh⟩=⟨pl,ph+(qh+qh)⟩:=rfl;rw[HE];have HX1:=h_ (hx1.rd (by omega));have HX2:=h_ (hx2.rd (by omega));have HY1:=h_ (hy1.rd (by omega));have HY2:=h_ (hy2.rd (by omega));have DX:=h_ hx1;have hb:bl (qh+qh)<=6000000:=by have:=Cq qh 1;rw[show qh+qh=qh*2^1 by omega];omega
 have C1:=h_ (fun w (h:Rd w (.slice a4 k4 c4) qh) (k:Rd w (.slice a4 k4 c4) qh)=>Xd h k);have C2:=h_ (fun w v (h:Rd w (.slice a2 k2 c2) ph) (k:Rd w v (qh+qh))=>Xd h k);generalize qh+qh=m1 at *
 generalize ph+m1=m2 at *
 clear hx1 hx2 hy1 hy2 HE;go_enter Tryz.func173,Tryz.ntmps173;have F0:=h_ (Fx.three w 226 #[.slice a1 k1 c1,.slice a2 k2 c2] 226 #[.slice a3 k3 c3,.slice a4 k4 c4] 226 #[.slice none 0 0,.slice none 0 0] rfl rfl rfl);have Q0:=h_ (((HX2.o.alloc (.cells #[.slice a1 k1 c1,.slice a2 k2 c2] 226)).alloc (.cells #[.slice a3 k3 c3,.slice a4 k4 c4] 226)).alloc (.cells #[.slice none 0 0,.slice none 0 0] 226));have S0:=h_ (((HY2.o.alloc (.cells #[.slice a1 k1 c1,.slice a2 k2 c2] 226)).alloc (.cells #[.slice a3 k3 c3,.slice a4 k4 c4] 226)).alloc (.cells #[.slice none 0 0,.slice none 0 0] 226));have DX0:=h_ (((DX.o.alloc (.cells #[.slice a1 k1 c1,.slice a2 k2 c2] 226)).alloc (.cells #[.slice a3 k3 c3,.slice a4 k4 c4] 226)).alloc (.cells #[.slice none 0 0,.slice none 0 0] 226));go_upto_region 1 with(fail)
 generalize alloc (alloc (alloc _ _) _) _=w0 at F0 Q0 S0 DX0 |-;have c0_0:=F0.o.c2 0 rfl;have c1_0:=F0.o.c2 1 rfl;have c2_0:=F0.o.c2 2 rfl;have FC:=h_ (And.intro (F0.o.c2 0 rfl).1 ((F0.o.c2 1 rfl).1))
 go_region_held3 (fun w'=>(w'.cell? ⟨w.heap.size,0,none⟩=some (.slice a1 k1 c1)/\w'.cell? ⟨w.heap.size,1,none⟩=some (.slice a2 k2 c2))/\(w'.cell? ⟨w.heap.size+1,0,none⟩=some (.slice a3 k3 c3)/\w'.cell? ⟨w.heap.size+1,1,none⟩=some (.slice a4 k4 c4))) (first|exact FC.o|exact And.intro ((F2.o.s2 2 rfl (.slice a1 k1 c1) (.slice a6 k6 c6) rfl rfl).1.c2 0 rfl).1 (((F2.o.s2 2 rfl (.slice a1 k1 c1) (.slice a6 k6 c6) rfl rfl).1.c2 1 rfl).1)) (first|(go_at_call 123;(with_reducible refine(C2.o _ _ Q1.o (U1.o.rd hb)).mono ?_);rintro q ww2 ⟨u2,rfl,hu,hb⟩;have F2:=h_ (F1.o.call hb);have Q2:=h_ (Q1.o.below hb);have S2:=h_ (S1.o.below hb);have DX2:=h_ (DX1.o.below hb);have U2:=h_ (U1.o.below hb);have V2:=h_ (hu);obtain⟨a6,k6,c6,rfl⟩:=V2.o.form;have FC:=h_ (And.intro (F2.o.c2 0 rfl).1 ((F2.o.c2 1 rfl).1));have c0_2:=F2.o.c2 0 rfl;have c1_2:=F2.o.c2 1 rfl;have c2_2:=F2.o.c2 2 rfl;clear hb)|(go_at_call 123;(with_reducible refine(C1.o _ (S0.o.drew) (S0.o.drew)).mono ?_);rintro q ww1 ⟨u1,rfl,hu,hb⟩;have F1:=h_ ((F0.o.drew).call hb);have Q1:=h_ ((Q0.o.drew).below hb);have S1:=h_ ((S0.o.drew).below hb);have DX1:=h_ ((DX0.o.drew).below hb);have U1:=h_ (hu);obtain⟨a5,k5,c5,rfl⟩:=U1.o.form;have FC:=h_ (And.intro (F1.o.c2 0 rfl).1 ((F1.o.c2 1 rfl).1));have c0_1:=F1.o.c2 0 rfl;have c1_1:=F1.o.c2 1 rfl;have c2_1:=F1.o.c2 2 rfl;clear hb))
 go_wp2;obtain⟨f0,p0⟩:=F2.o.s2 2 rfl (.slice a1 k1 c1) (.slice a6 k6 c6) rfl rfl;have p:=p0;have f:=f0;generalize setCell _ _ _=W at f p |-;have g2:=f.c2 2 rfl;refine bodyPost_ret (v:=.agg #[.slice a1 k1 c1,.slice a6 k6 c6]) (by simp[results,Tryz.results173,go_sem,g2]) rfl ?_;exact⟨_,rfl,⟨_,_,_,_,_,_,rfl,DX2.o.kp p,V2.o.kp p⟩,f.b⟩
theorem Ap(w:World)(s:Nat)(h:8<=s/\s<=9000):Calls Tryz.prog 169 #[.int .i64 (s:Int)] w fun e w'=>e=.returned (.bool true)/\w=w':=by have t1:decide ((8:Int)<=(s:Int))=true:=decide_eq_true (by omega);have t2:decide ((s:Int)<=(9000:Int))=true:=decide_eq_true (by omega);have t3:decide (8<=s)=true:=decide_eq_true h.1;have t4:decide (s<=9000)=true:=decide_eq_true h.2;clear h;go_enter Tryz.func169,Tryz.ntmps169;go_wp2;go_ret;exact⟨rfl,rfl⟩
def Kc:Nat->Nat->Pr->Pr->Pr->Nat->Pr×Pr
 | 0,_,sum,term,_,_=>(sum,term)
 | f+1,n,sum,term,sq,s=>if term.lo=0 then(sum,term)else Kc f (n+2) (Jv sum (Jk term n)) (Qn term sq s) sq s
def Qd(num den s:Nat):Pr :=
 if num=0 then⟨0,0⟩else Yi (Kc (s+1) 1 ⟨0,0⟩ (Qt num den s) (Qn (Qt num den s) (Qt num den s) s) s).1 (Kc (s+1) 1 ⟨0,0⟩ (Qt num den s) (Qn (Qt num den s) (Qt num den s) s) s).2
theorem Fe{a b c:Nat}(_:0<b)(h:a<=c*b):(if a%b=0 then a/b else a/b+1)<=c:=by
 have h1:=Nat.div_add_mod a b;split
 .exact Nat.div_le_of_le_mul (by rw[Nat.mul_comm];exact h)
 .apply Nat.lt_of_mul_lt_mul_left (a:=b);rw[Nat.mul_comm c]at h;omega
theorem Oz{a k c:Nat}(h:a<=c*2^k):Md a k<=c:=by unfold Md;exact Fe (Nat.two_pow_pos _) h
theorem Ss{p:Pr}{n B:Nat}(hn:0<n)(h:p.lo<=B/\p.hi<=B):(Jk p n).lo<=B/\(Jk p n).hi<=B:=by refine⟨Nat.le_trans (Nat.div_le_self _ _) h.1,Nat.le_trans (Fe hn ?_) h.2⟩;exact Nat.le_mul_of_pos_right _ hn
theorem Un{p q:Pr}{s B:Nat}(h:p.lo<=B/\p.hi<=B)(k:q.lo<=2^s/\q.hi<=2^s):(Qn p q s).lo<=B/\(Qn p q s).hi<=B:=by
 refine⟨?_,Oz ?_⟩
 .exact Nat.div_le_of_le_mul (by rw[Nat.mul_comm];exact Nat.mul_le_mul k.1 h.1)
 .exact Nat.mul_le_mul h.2 k.2
theorem Ru{p q:Pr}{s:Nat}(k:q.lo*2<=2^s):(Qn p q s).lo<=p.lo/2:=by
 show p.lo*q.lo/2^s<=p.lo/2;rw[Nat.le_div_iff_mul_le (by decide)];have h1:=Nat.div_mul_le_self (p.lo*q.lo) (2^s);apply Nat.le_of_mul_le_mul_right (c:=2^s) _ (Nat.two_pow_pos _)
 calc p.lo*q.lo/2^s*2*2^s=(p.lo*q.lo/2^s*2^s)*2:=by rw[Nat.mul_assoc,Nat.mul_comm 2,<-Nat.mul_assoc]
  _<=p.lo*q.lo*2:=Nat.mul_le_mul_right _ h1
  _=p.lo*(q.lo*2):=Nat.mul_assoc _ _ _
  _<=p.lo*2^s:=Nat.mul_le_mul_left _ k
theorem It{n m:Nat}(h:m<=n/2)(hn:n≠0):bl m+1<=bl n:=by have h1:=Td (n:=n) (by omega);have h2:=Zc h;omega
theorem Qde{num den s:Nat}(h0:0<den)(h3:num*3<=den):(Qt num den s).lo*3<=2^s/\(Qt num den s).hi<=2^s:=by
 have e0:num*2^s*3<=2^s*den:=by rw[Nat.mul_right_comm,Nat.mul_comm];exact Nat.mul_le_mul_left _ h3
 constructor
 .show num*2^s/den*3<=2^s;have h1:=Nat.div_mul_le_self (num*2^s) den;apply Nat.le_of_mul_le_mul_right (c:=den) _ h0;rw[Nat.mul_right_comm];exact Nat.le_trans (Nat.mul_le_mul_right _ h1) e0
 .exact Fe h0 (by omega)
theorem Qj0{t:Pr}{s:Nat}(h:t.lo*3<=2^s):(Qn t t s).lo*2<=2^s:=by have h1:=Ru (p:=t) (q:=t) (s:=s) (by omega);omega
structure Gl(s:Nat)(R:Pr×Pr)(n i f:Nat)(S T Q:Pr):Prop where
 hn:n=2*i+1
 hf:i+f=s+1
 hb:bl T.lo<=f
 hT:T.lo<=2^s/\T.hi<=2^s
 hS:S.lo<=i*2^s/\S.hi<=i*2^s
 hQ:Q.lo<=2^s/\Q.hi<=2^s
 hq:Q.lo*2<=2^s
 hR:Kc f n S T Q s=R
theorem Gl.start{num den s:Nat}(h0:0<den)(h3:num*3<=den) :
  Gl s (Kc (s+1) 1 ⟨0,0⟩ (Qt num den s) (Qn (Qt num den s) (Qt num den s) s) s) 1 0 (s+1) ⟨0,0⟩ (Qt num den s) (Qn (Qt num den s) (Qt num den s) s):=by
 obtain⟨h1,h2⟩:=Qde (num:=num) (s:=s) h0 h3;have h4:(Qt num den s).lo<=2^s:=by omega
 refine⟨rfl,by omega,?_,⟨h4,h2⟩,by simp,Un ⟨h4,h2⟩ ⟨h4,h2⟩,Qj0 h1,rfl⟩;refine Zp (Nat.lt_of_le_of_lt h4 (Nat.pow_lt_pow_right (by decide) (by omega)))
theorem Gl.step{s:Nat}{R:Pr×Pr}{n i f:Nat}{S T Q:Pr}(h:Gl s R n i f S T Q)(h0:T.lo≠0) :
  ∃f',f=f'+1/\Gl s R (n+2) (i+1) f' (Jv S (Jk T n)) (Qn T Q s) Q:=by
 obtain⟨hn,hf,hb,hT,hS,hQ,hq,hR⟩:=h;have hb1:=Zi h0;obtain⟨f',rfl⟩:∃f',f=f'+1:=⟨f-1,by omega⟩
 have hby:=Ss (p:=T) (n:=n) (B:=2^s) (by omega) hT;refine⟨f',rfl,by omega,by omega,?_,Un hT hQ,?_,hQ,hq,?_⟩
 .have:=It (Ru (p:=T) hq) h0;omega
 .rw[Nat.add_mul,Nat.one_mul];exact⟨Nat.add_le_add hS.1 hby.1,Nat.add_le_add hS.2 hby.2⟩
 .rw[Kc,if_neg h0]at hR;exact hR
theorem Gl.done{s:Nat}{R:Pr×Pr}{n i f:Nat}{S T Q:Pr}(h:Gl s R n i f S T Q)(h0:T.lo=0):R=(S,T):=by
 obtain⟨hn,hf,hb,hT,hS,hQ,hq,hR⟩:=h;rw[<-hR];cases f with
 | zero=>rfl
 | succ f=>rw[Kc,if_pos h0]
theorem Xy{x s k:Nat}(h:x<=k*2^s)(hk:k<=2^20):bl x<=s+21:=by apply Zp;apply Nat.lt_of_le_of_lt h;rw[Nat.pow_add,Nat.mul_comm];exact Nat.mul_lt_mul_of_pos_left (Nat.lt_of_le_of_lt hk (by decide)) (Nat.two_pow_pos _)
theorem Gl.szs{s:Nat}{R:Pr×Pr}{n i f:Nat}{S T Q:Pr}(h:Gl s R n i f S T Q)(hs:s<=9000) :
  n<=20010/\bl T.lo<=10000/\bl T.hi<=10000/\bl S.lo<=10000/\bl S.hi<=10000/\bl Q.lo<=10000/\bl Q.hi<=10000:=by
 obtain⟨hn,hf,hb,hT,hS,hQ,hq,hR⟩:=h;have k:∀x,x<=2^s->bl x<=10000:=fun x hx=>Nat.le_trans (Xy (s:=s) (k:=1) (by omega) (by decide)) (by omega);have k2:∀x,x<=i*2^s->bl x<=10000:=fun x hx=>Nat.le_trans (Xy (s:=s) hx (Nat.le_trans (show i<=9001 by omega) (by decide))) (by omega);exact⟨by omega,k _ hT.1,k _ hT.2,k2 _ hS.1,k2 _ hS.2,k _ hQ.1,k _ hQ.2⟩
theorem E6{w:World}{u v:Value}{num den:Nat}(hu:Rd w u num)(hv:Rd w v den)(s:Nat)(hs:8<=s/\s<=9000)(h3:num*3<=den)(h0:0<den)(h64:den<18446744073709551616) :
  Calls Tryz.prog 153 #[u,v,.int .i64 (s:Int)] w fun e w'=>∃x y,e=.returned (.tuple #[x,y,.int .i64 0])/\Dg w' x (Qd num den s).lo/\Dg w' y (Qd num den s).hi/\Below w.heap.size w w':=by
 have HU:=h_ hu;have HV:=h_ hv;obtain⟨a1,k1,c1,rfl⟩:=hu.form;obtain⟨a2,k2,c2,rfl⟩:=hv.form;have n64:num<18446744073709551616:=by omega
 have bn:=Zs n64;have bd:=Zs h64;have C1:=h_ (fun w (h:Rd w (.slice a1 k1 c1) num)=>Lp h (n:=3) (by decide));have e1:mulN num 3=num*3:=by unfold mulN;rw[if_neg];have:bl 3<=64:=Zs (by decide);omega
 have e2:Vi num 3=0:=by unfold Vi;split;rfl;rw[if_neg];have:bl 3<=64:=Zs (by decide);omega
 rw[e1,e2]at C1;have b3:bl (num*3)<=6000000:=Nat.le_trans (Zs (x:=num*3) (by omega)) (by decide);have C2:=h_ (fun w u v (h:Rd w u (num*3)) (k:Rd w v den)=>Kw h k);have e3:decide (0<Qm (num*3) den)=false:=decide_eq_false (by unfold Qm;split;omega;split<;>omega);have bd0:bl den≠0:=by have:=Zi (n:=den) (by omega);omega
 have C5:=h_ (fun w (h:Rd w (.slice a1 k1 c1) num)=>Xh h);have C6:=h_ (fun w (h:Rd w (.slice a2 k2 c2) den)=>Xh h);have CF:=h_ (fun w (h:Rd w (.slice a1 k1 c1) num) (k:Rd w (.slice a2 k2 c2) den)=>Qiv h k s h0 h64 (by omega));have CS:=h_ (fun w=>Ap w s hs);have HI:=h_ (Gl.start (num:=num) h0 h3 (s:=s));have HA1:Qb (num=0->Qd num den s=⟨0,0⟩):=fun h=>by unfold Qd;rw[if_pos h]
 have HA2:Qb (num≠0->Qd num den s=Yi (Kc (s+1) 1 ⟨0,0⟩ (Qt num den s) (Qn (Qt num den s) (Qt num den s) s) s).1 (Kc (s+1) 1 ⟨0,0⟩ (Qt num den s) (Qn (Qt num den s) (Qt num den s) s) s).2):=fun h=>by unfold Qd;rw[if_neg h]
 have HB:=h_ (fun h:bl num=0=>(Classical.byContradiction fun h2:¬num=0=>by have:=Zi h2;omega:num=0));generalize Kc (s+1) 1 ⟨0,0⟩ (Qt num den s) (Qn (Qt num den s) (Qt num den s) s) s=R at *
 generalize Qd num den s=A at *
 generalize Qt num den s=f at *
 generalize Qm (num*3) den=c at *
 generalize num*3=num3 at *
 generalize hbn:bl num=ln at *
 generalize hbd:bl den=ld at *
 have t1:decide (4096<(ln:Int))=false:=decide_eq_false (by omega);have t2:decide (4096<(ld:Int))=false:=decide_eq_false (by omega);have t3:((ld:Int)==0)=false:=by rw[beq_eq_false_iff_ne];omega
 have t4:(ld==0)=false:=by rw[beq_eq_false_iff_ne];omega
 have hbl:=h_ (And.intro hbn hbd);obtain⟨hs1,hs2⟩:=hs;clear hu hv e1 e2 n64 h3 h0 h64 hbn hbd bn bd bd0;go_enter Tryz.func153,Tryz.ntmps153;have F0:=h_ (Fx.nil w);have X0:=h_ (HU.o);have Y0:=h_ (HV.o);go_wp2_with fail;refine(C1.o _ X0.o).mono ?_;rintro q w1 ⟨u,rfl,hu,hb⟩;have F1:=h_ (F0.o.call hb);have X1:=h_ (X0.o.below hb);have Y1:=h_ (Y0.o.below hb);have Z1:=h_ (hu);obtain⟨a3,k3,c3,rfl⟩:=Z1.o.form;go_wp2_with fail;refine(CS.o _).mono ?_;rintro q w2 ⟨rfl,rfl⟩;go_wp2_with fail;refine(C5.o _ X1.o).mono ?_;rintro q w2 ⟨rfl,hb⟩;have F2:=h_ (F1.o.call hb);have X2:=h_ (X1.o.below hb);have Y2:=h_ (Y1.o.below hb);have Z2:=h_ (Z1.o.below hb);go_wp2_with fail;refine(C6.o _ Y2.o).mono ?_;rintro q w3 ⟨rfl,hb⟩;have F3:=h_ (F2.o.call hb);have X3:=h_ (X2.o.below hb);have Y3:=h_ (Y2.o.below hb);have Z3:=h_ (Z2.o.below hb);go_wp2_with fail;refine(C6.o _ Y3.o).mono ?_;rintro q w4 ⟨rfl,hb⟩;have F4:=h_ (F3.o.call hb);have X4:=h_ (X3.o.below hb);have Y4:=h_ (Y3.o.below hb);have Z4:=h_ (Z3.o.below hb);go_wp2_with fail;refine(C2.o _ _ _ (Z4.o.rd b3) Y4.o).mono ?_;rintro q w5 ⟨rfl,hb⟩;have F5:=h_ (F4.o.call hb);have X5:=h_ (X4.o.below hb);have Y5:=h_ (Y4.o.below hb);have Z5:=h_ (Z4.o.below hb);go_wp2_with fail;refine(C5.o _ X5.o).mono ?_;rintro q w6 ⟨rfl,hb⟩;have F6:=h_ (F5.o.call hb);have X6:=h_ (X5.o.below hb);have Y6:=h_ (Y5.o.below hb);by_cases hn:num=0
 .obtain rfl:ln=0:=by rw[<-hbl.o.1,hn];rfl
  have HE:Qb (A=⟨0,0⟩):=HA1.o hn;clear hn;go_wp2;refine bodyPost_ret (v:=.tuple #[.slice none 0 0,.slice none 0 0,.int .i64 0]) (by simp[results,Tryz.results153,go_sem]) rfl ?_;exact⟨_,_,rfl,by rw[HE.o];exact Dg.nil X6.o.tab,by rw[HE.o];exact Dg.nil X6.o.tab,F6.o.b⟩
 .have t5:((ln:Int)==0)=false:=by rw[beq_eq_false_iff_ne];intro h;exact hn (HB.o (by omega))
  have t6:(ln==0)=false:=by rw[beq_eq_false_iff_ne];intro h;exact hn (HB.o h)
  have HE:Qb (A=Yi R.1 R.2):=HA2.o hn;clear hn;go_wp2_with fail;refine(CF.o _ X6.o Y6.o).mono ?_;rintro q w7 ⟨u,rfl,hu,hb⟩;have F7:=h_ (F6.o.call hb);have X7:=h_ (X6.o.below hb);have Y7:=h_ (Y6.o.below hb);have T7:=h_ (hu);obtain⟨a4,k4,c4,a5,k5,c5,rfl,h1,h2⟩:=T7.o;clear h1 h2;have HZ:=h_ (HI.o.szs hs2);generalize hQE:Qn f f s=Q at *
  have HQE:=h_ hQE;clear hQE;have CT:=h_ (fun w u v p q hu hv h1 h2=>Dh (w:=w) (u:=u) (v:=v) (p:=p) (q:=q) hu hv s (by omega) h1 h2);go_wp2_with fail;have F8:=h_ (F7.o.new 226 #[.slice a4 k4 c4,.slice a5 k5 c5] rfl);have T8:=h_ (T7.o.alloc (.cells #[.slice a4 k4 c4,.slice a5 k5 c5] 226));obtain⟨g1,hg1⟩:∃g,g=(World.heap w7).size:=⟨_,rfl⟩
  rw[<-hg1]at F8 |-;clear hg1;simp only[nil_append]at F8;generalize alloc w7 _=W8 at F8 T8 |-;have c0_8:=F8.o.c2 0 rfl;refine(CT.o _ _ _ _ _ T8.o T8.o (by have:=HZ.o;omega) (by have:=HZ.o;omega)).mono ?_;rintro q w9 ⟨u,rfl,hu,hb⟩;have F9:=h_ (F8.o.call hb);have T9:=h_ (T8.o.below hb);have Q9:=h_ (HQE.o▸hu);have c0_9:=F9.o.c2 0 rfl;obtain⟨a6,k6,c6,a7,k7,c7,rfl,h1,h2⟩:=Q9.o;clear h1 h2;go_wp2;have F10:=h_ (F9.o.new 226 #[.slice a6 k6 c6,.slice a7 k7 c7] rfl);have T10:=h_ (T9.o.alloc (.cells #[.slice a6 k6 c6,.slice a7 k7 c7] 226));have Q10:=h_ (Q9.o.alloc (.cells #[.slice a6 k6 c6,.slice a7 k7 c7] 226));obtain⟨g2,hg2⟩:∃g,g=(World.heap w9).size:=⟨_,rfl⟩
  rw[<-hg2]at F10 |-;have hzg2:(World.heap (alloc w9 (.cells #[.slice a6 k6 c6,.slice a7 k7 c7] 226))).size=g2+1:=by rw[hg2];simp
  clear hg2;simp only[nil_append,cons_append]at F10;generalize alloc w9 _=W10 at hzg2 F10 T10 Q10 |-;have F11:=h_ (F10.o.new 226 #[.slice none 0 0,.slice none 0 0] rfl);have T11:=h_ (T10.o.alloc (.cells #[.slice none 0 0,.slice none 0 0] 226));have Q11:=h_ (Q10.o.alloc (.cells #[.slice none 0 0,.slice none 0 0] 226));rw[hzg2]at F11;clear hzg2;simp only[nil_append,cons_append]at F11;generalize alloc W10 _=W11 at F11 T11 Q11 |-;have c0_11:=F11.o.c2 0 rfl;have c1_11:=F11.o.c2 1 rfl;have c2_11:=F11.o.c2 2 rfl;obtain⟨ql,qh⟩:=Q;obtain⟨R1,R2⟩:=R;have HQ1:=Q11.o;have HT1:=T11.o;have HZN:Qb (Pv W11 (.agg #[.slice none 0 0,.slice none 0 0]) ⟨0,0⟩):=⟨_,_,_,_,_,_,rfl,Dg.nil HT1.tab,Dg.nil HT1.tab⟩
  clear HT1 HQ1
  go_loopw [14] (fun nv wr=>∃(n i e tl th sl sh:Nat) (a1:Option Addr) (k1 c1:Nat) (a2:Option Addr) (k2 c2:Nat) (a3:Option Addr) (k3 c3:Nat) (a4:Option Addr) (k4 c4:Nat),nv=.int .u64 (n:Int)/\Qb (Gl s (R1,R2) n i e ⟨sl,sh⟩ ⟨tl,th⟩ ⟨ql,qh⟩)/\Qb (Fx w wr [(g1,226,#[.slice a1 k1 c1,.slice a2 k2 c2]),(g2,226,#[.slice a6 k6 c6,.slice a7 k7 c7]),(g2+1,226,#[.slice a3 k3 c3,.slice a4 k4 c4])])/\Qb (Pv wr (.agg #[.slice a1 k1 c1,.slice a2 k2 c2]) ⟨tl,th⟩)/\Qb (Pv wr (.agg #[.slice a6 k6 c6,.slice a7 k7 c7]) ⟨ql,qh⟩)/\Qb (Pv wr (.agg #[.slice a3 k3 c3,.slice a4 k4 c4]) ⟨sl,sh⟩)) (fun n _=>(40000-intOf n).toNat)
  case atStart=>exact⟨1,0,s+1,f.lo,f.hi,0,0,_,_,_,_,_,_,_,_,_,_,_,_,rfl,HI,F11,T11,Q11,HZN⟩
  case round =>
   clear F11 T11 Q11 HZN HI HZ;obtain⟨n,i,e,tl,th,sl,sh,a1,k1,c1,a2,k2,c2,a3,k3,c3,a4,k4,c4,rfl,hI,hF,hT,hQ,hS⟩:=hrel;have HZ:=h_ (hI.o.szs hs2);have F12:=hF;have T12:=hT;have Q12:=hQ;have S12:=hS;clear hF hT hQ hS;have c0_12:=F12.o.c2 0 rfl;have c1_12:=F12.o.c2 1 rfl;have c2_12:=F12.o.c2 2 rfl;have HD:=h_ T12.o.fst.1;go_wp2_with fail;refine(Xh (HD.o.rd (by have:=HZ.o;omega))).mono ?_;rintro q w13 ⟨rfl,hb⟩;have F13:=h_ (F12.o.call hb);have T13:=h_ (T12.o.below hb);have Q13:=h_ (Q12.o.below hb);have S13:=h_ (S12.o.below hb);clear F12 T12 Q12 S12;have c0_13:=F13.o.c2 0 rfl;have c1_13:=F13.o.c2 1 rfl;have c2_13:=F13.o.c2 2 rfl;obtain⟨z1,z2,z3,z4,z5,z6,z7⟩:n<=20010/\bl tl<=10000/\bl th<=10000/\bl sl<=10000/\bl sh<=10000/\bl ql<=10000/\bl qh<=10000:=HZ.o;have B1:Qb (bl (Pr.mk sl sh).lo<=1000000/\bl (Pr.mk sl sh).hi<=1000000/\bl (Pr.mk tl th).lo<=1000000/\bl (Pr.mk tl th).hi<=1000000):=⟨Nat.le_trans z4 (by decide),Nat.le_trans z5 (by decide),Nat.le_trans z2 (by decide),Nat.le_trans z3 (by decide)⟩
   have B2:Qb (bl (Pr.mk tl th).lo<=6000000/\bl (Pr.mk tl th).hi<=6000000):=⟨Nat.le_trans z2 (by decide),Nat.le_trans z3 (by decide)⟩
   have B3:Qb (bl (Pr.mk tl th).lo+bl (Pr.mk ql qh).lo<=65536/\bl (Pr.mk tl th).hi+bl (Pr.mk ql qh).hi<=65536):=⟨by show bl tl+bl ql<=65536;omega,by show bl th+bl qh<=65536;omega⟩
   have hn1:0<n:=by have:=hI.o.hn;omega
   have B4:Qb (bl (Jk ⟨tl,th⟩ n).lo<=1000000/\bl (Jk ⟨tl,th⟩ n).hi<=1000000):=by
    have hT:tl<=1*2^s/\th<=1*2^s:=by have:=hI.o.hT;simpa using this
    have h:=Ss (p:=⟨tl,th⟩) hn1 hT;have h1:=Xy h.1 (by decide);have h2:=Xy h.2 (by decide);exact⟨by omega,by omega⟩
   clear z2 z3 z4 z5 z6 z7 HZ;obtain⟨lt,hlt⟩:∃lt,lt=bl tl:=⟨_,rfl⟩
   rw[<-hlt];by_cases h0:tl=0
   .have HR:=h_ (hI.o.done h0);obtain rfl:lt=0:=by rw[hlt,h0];rfl
    clear h0 hI hlt;go_wp2_with fail;refine(Lq S13.o T13.o B1.o).mono ?_;rintro q w14 ⟨u,rfl,hu,hb⟩;have F14:=h_ (F13.o.call hb);have T14:=h_ (T13.o.below hb);have Q14:=h_ (Q13.o.below hb);have S14:=h_ (S13.o.below hb);have R14:=h_ (hu);have c0_14:=F14.o.c2 0 rfl;have c1_14:=F14.o.c2 1 rfl;have c2_14:=F14.o.c2 2 rfl;obtain⟨b1,e1,d1,b2,e2,d2,rfl,h1,h2⟩:=R14.o;clear h1 h2;go_wp2_with fail;obtain⟨f,p⟩:=F14.o.s2 2 rfl (.slice b1 e1 d1) (.slice b2 e2 d2) rfl rfl;generalize setCell _ _ _=W at f p |-;have F15:=h_ (f);have T15:=h_ (T14.o.kp p);have Q15:=h_ (Q14.o.kp p);have S15:=h_ (S14.o.kp p);have R15:=h_ (R14.o.kp p);have c0_15:=F15.o.c2 0 rfl;have c1_15:=F15.o.c2 1 rfl;have c2_15:=F15.o.c2 2 rfl;go_quiet (fail);go_wp2;refine bodyPost_ret (v:=.tuple #[.slice b1 e1 d1,.slice b2 e2 d2,.int .i64 0]) (by simp[results,Tryz.results153,go_sem]) rfl ?_;have HX:=HE.o;have hr:=HR.o;injection hr with hr1 hr2;rw[HX,hr1,hr2];exact⟨_,_,rfl,(R15.o.fst.1).drewN _,(R15.o.fst.2).drewN _,(F15.o.drewN _).b⟩
   .have HN:=h_ (hI.o.step h0);have hpos:=Zi h0;have t7:decide (0<(lt:Int))=true:=decide_eq_true (by omega);have t8:decide (0<lt)=true:=decide_eq_true (by omega);obtain⟨m,hm⟩:∃m,m=n+2:=⟨_,rfl⟩
    have q1:IntKind.u64.wrap ((n:Int)+2)=(m:Int):=by rw[IntKind.wrap_u64];omega
    have HM:=h_ hm;have HNB:=h_ (And.intro hn1 (show n<18446744073709551616 by omega));clear h0 hI hpos hlt hm hn1;go_upto_region 12 with(fail)
    have D13:=h_ (F13.o.drew);have d0_13:=D13.o.c2 0 rfl;have d1_13:=D13.o.c2 1 rfl;have d2_13:=D13.o.c2 2 rfl;go_region_with (first|(have RR:=F14.o;go_at_call 172;(with_reducible refine(Av S14.o U14.o ⟨B1.o.1,B1.o.2.1,B4.o.1,B4.o.2⟩).mono ?_);rintro q ww15 ⟨u2,rfl,hu,hb⟩;have F15:=h_ (RR.call hb);have T15:=h_ (T14.o.below hb);have Q15:=h_ (Q14.o.below hb);have S15:=h_ (S14.o.below hb);have U15:=h_ (U14.o.below hb);have V15:=h_ (hu);obtain⟨b3,e3,d3,b4,e4,d4,rfl,h1,h2⟩:=V15.o;clear h1 h2;have c0_15:=F15.o.c2 0 rfl;have c1_15:=F15.o.c2 1 rfl;have c2_15:=F15.o.c2 2 rfl;clear hb RR)|(have RR:=D13.o;go_at_call 171;(with_reducible refine(Qek (T13.o.drew) HNB.o.1 HNB.o.2 B2.o.1 B2.o.2).mono ?_);rintro q ww14 ⟨u1,rfl,hu,hb⟩;have F14:=h_ (RR.call hb);have T14:=h_ ((T13.o.drew).below hb);have Q14:=h_ ((Q13.o.drew).below hb);have S14:=h_ ((S13.o.drew).below hb);have U14:=h_ (hu);obtain⟨b1,e1,d1,b2,e2,d2,rfl,h1,h2⟩:=U14.o;clear h1 h2;have c0_14:=F14.o.c2 0 rfl;have c1_14:=F14.o.c2 1 rfl;have c2_14:=F14.o.c2 2 rfl;clear hb RR))
    all_goals
     obtain⟨f,p⟩:=F15.o.s2 2 rfl (.slice b3 e3 d3) (.slice b4 e4 d4) rfl rfl;generalize setCell _ _ _=W at f p |-;have F16:=h_ (f);have T16:=h_ (T15.o.kp p);have Q16:=h_ (Q15.o.kp p);have S16:=h_ (S15.o.kp p);have U16:=h_ (U15.o.kp p);have V16:=h_ (V15.o.kp p);have c0_16:=F16.o.c2 0 rfl;have c1_16:=F16.o.c2 1 rfl;have c2_16:=F16.o.c2 2 rfl;go_wp2_with fail;refine(CT.o _ _ _ _ _ T16.o Q16.o B3.o.1 B3.o.2).mono ?_;rintro q w17 ⟨u,rfl,hu,hb⟩;have F17:=h_ (F16.o.call hb);have T17:=h_ (T16.o.below hb);have Q17:=h_ (Q16.o.below hb);have V17:=h_ (V16.o.below hb);have Z17:=h_ (hu);have c0_17:=F17.o.c2 0 rfl;have c1_17:=F17.o.c2 1 rfl;have c2_17:=F17.o.c2 2 rfl;obtain⟨b5,e5,d5,b6,e6,d6,rfl,h1,h2⟩:=Z17.o;clear h1 h2;obtain⟨e',he',hI'⟩:=HN.o;rw[<-HM.o]at hI';have HI':=h_ hI';clear he' hI';go_wp2_with fail;obtain⟨f,p⟩:=F17.o.s2 0 rfl (.slice b5 e5 d5) (.slice b6 e6 d6) rfl rfl;generalize setCell _ _ _=W at f p |-;have F18:=h_ (f);have Q18:=h_ (Q17.o.kp p);have V18:=h_ (V17.o.kp p);have Z18:=h_ (Z17.o.kp p);have c0_18:=F18.o.c2 0 rfl;have c1_18:=F18.o.c2 1 rfl;have c2_18:=F18.o.c2 2 rfl;go_roundw
     case rel=>exact⟨m,i+1,e',_,_,_,_,_,_,_,_,_,_,_,_,_,_,_,_,rfl,HI',F18,Z18,Q18,V18⟩
     case measure=>have h1:=HM.o;simp only[intOf];omega
end Go.Proofs.YtobpioceopfkpaaGreatDoor
