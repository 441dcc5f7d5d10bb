/-
  Lemmas for WholeCompare (part 8); without conditions.
-/
import Derived.Test.YtobpioceopfkpaaGreatDoorM04
import Derived.Test.YtobpioceopfkpaaGreatDoorM02
set_option maxRecDepth 100000
set_option maxHeartbeats 4000000
namespace Go.Proofs.YtobpioceopfkpaaGreatDoor
open Go.RowKit
open World (setCell alloc drew)
open List (set_cons_zero set_cons_succ setIfInBounds_toArray cons_append nil_append)
theorem Ri{O T A P c y d x b R:Nat}(h:O+T=A+P*c)(hy:y+(c+d)=x+R*b):O+P*y+(T+P*d)=A+P*x+P*R*b:=by
 have h1:P*(y+(c+d))=P*(x+R*b):=by rw[hy]
 rw[Nat.mul_add,Nat.mul_add,Nat.mul_add,<-Nat.mul_assoc]at h1;omega
theorem Qfp{O m n R Q c T K:Nat}(h:O+T=m+Q*c)(hK:K=T+Q*R)(hn:K=n)(hnm:n<=m)(_:m<Q)(hO:O<Q):O=m-n:=by
 have hR:R=0:=by
  rcases Nat.eq_zero_or_pos R with h0|h0
  .exact h0
  .have:=Nat.le_mul_of_pos_right Q h0;omega
 subst hR;rcases Nat.eq_zero_or_pos c with h0|h0
 .subst h0;omega
 .have:=Nat.le_mul_of_pos_right Q h0;omega
def Vh(m n:Nat):Int:=if m<n then 1 else 0
theorem Pf{L K:List Nat}{u v:Value}{w:World}(h:Qr w u L)(k:Qr w v K)(hl:L.length<=100000)(kl:K.length<=100000) :
  Calls Tryz.prog 177 #[u,v] w (Jp (Qc L-Qc K) (Vh (Qc L) (Qc K)) w):=by
 have HC:=h_ (G6 h k hl kl);have HL:=h_ h;have HK:=h_ k;obtain⟨a,c,rfl,hcell⟩:=h.sl.form;obtain⟨a',c',rfl,-⟩:=k.sl.form;have HCL:=h_ hcell;clear h k hcell;by_cases hlt:Qc L<Qc K
 .have hc:Qm (Qc L) (Qc K)=-1:=Yc hlt;have e1:Qc L-Qc K=0:=by omega
  have e2:Vh (Qc L) (Qc K)=1:=by unfold Vh;rw[if_pos hlt]
  rw[hc]at HC;rw[e1,e2];clear hlt hc e1 e2 HCL;go_enter Tryz.func177,Tryz.ntmps177;go_wp2_with fail;refine HC.o.mono ?_;rintro e w1 ⟨rfl,hb⟩;have HB:=h_ hb;go_wp2;go_ret2;exact⟨.slice none 0 0,rfl,Dg.nil (HL.o.tab.below HB.o),HB.o⟩
 .have hge:Qc K<=Qc L:=by omega
  have e2:Vh (Qc L) (Qc K)=0:=by unfold Vh;rw[if_neg hlt]
  have hc:decide (Qm (Qc L) (Qc K)<0)=false:=decide_eq_false (by unfold Qm;split<;>(try split)<;>omega);have HEND:Qb (∀(O:List Nat) (c:Nat),Ql O->O.length=L.length->Qc O+Qc (K.take L.length)=Qc (L.take L.length)+18446744073709551616^L.length*c->Qc O=Qc L-Qc K):=by intro O c hO hOl hs;rw[Xu (Nat.le_refl _)]at hs;refine Qfp hs (Je K L.length) rfl hge (J0 HL.o.digs) ?_;rw[<-hOl];exact J0 hO
  rw[e2];obtain⟨D,hD⟩:∃D,D=Qc L-Qc K:=⟨_,rfl⟩
  rw[<-hD];rw[<-hD]at HEND;generalize Qm (Qc L) (Qc K)=cc at *
  clear hlt hge e2 hD;go_enter Tryz.func177,Tryz.ntmps177;go_wp2_with fail;refine HC.o.mono ?_;rintro e w1 ⟨rfl,hb⟩;have HL1:=h_ (HL.o.below hb);have HK1:=h_ (HK.o.below hb);have HB:=h_ hb;have HCL1:Qb (∀(i:Nat),i<L.length->∃b off,a=some ⟨b,off,none⟩/\w1.cell? ⟨b,off+i,none⟩=some (.int .u64 (dg L i:Nat))):=by intro i hi;obtain⟨b,off,e,hx⟩:=HCL.o (by omega);exact⟨b,off,e,Qj hb (Nat.le_refl _) (hx i _ (Qu hi))⟩
  clear hb HL HK HCL HC;go_wp2_with (refine Jb (w0:=w1) rfl (.tmp 14) 40 rfl w1.heap.size 22 (.int .u64 0) 8 Tryz.underlying40 Tryz.info22 rfl (by decide) _ _ L.length rfl rfl (by omega) (Below.refl _ _) (Nat.le_refl _) ?_)
  intro w2 ho1 hb1 hB1;have hS:Qb (Xq L.length w1 w2 _ (List.replicate L.length 0) 0/\Qc (List.replicate L.length 0)+Qc (K.take 0)=Qc (L.take 0)+18446744073709551616^0*0):=⟨Xq.start ho1 hb1,by rw[Js];rfl⟩
  clear ho1 hb1 hB1;go_wp2
  go_loopw [7,18] (fun cc i wr=>∃(k c:Nat) (O:List Nat),i=.int .i64 k/\cc=.int .u64 c/\k<=L.length/\c<=1/\Qb (Xq L.length w1 wr (.slice (some ⟨w1.heap.size,0,none⟩) L.length L.length) O k/\Qc O+Qc (K.take k)=Qc (L.take k)+18446744073709551616^k*c)) (fun _ i _=>L.length-(intOf i).toNat)
  case atStart=>exact⟨0,0,_,rfl,rfl,by omega,by omega,hS⟩
  case round =>
   obtain⟨k,c1,O,rfl,rfl,hk,hcc,hh⟩:=hrel;by_cases hkl:k<L.length
   .have hfz:=hh.o.1.own.frozenAt k;have hx:wr.cell? ⟨w1.heap.size,k,none⟩=some (.int .u64 (dg O k:Nat)):=by rw[hh.o.1.own.cellAt k (by omega)];exact Jj (Qu (by rw[hh.o.1.len];exact hkl))
    obtain⟨b,off,rfl,hcl⟩:=HCL1.o k hkl;have hxa:wr.cell? ⟨b,off+k,none⟩=some (.int .u64 (dg L k:Nat)):=Qj hh.o.1.b (Nat.le_refl _) hcl;have HRk:=h_ (HK1.o.below hh.o.1.b);have C2:Qb (∀w' z,z=(k:Int)->Qr w' (.slice a' K.length c') K->Calls Tryz.prog 108 #[.slice a' K.length c',.int .i64 z] w' fun e w''=>e=.returned (.int .u64 (dg K k:Nat))/\w'=w''):=by rintro w' z rfl hw';have:=Vw hw' (k:Int);rwa[Vg]at this
    have hA:=fun w=>Qei (dg L k) (dg K k) c1 hcc w;have d1:=Qy HL1.o.digs k;have d2:=Qy HK1.o.digs k;have HST:Qb (∀u w' y b,Qb (w'=wr.drew)->y+(c1+dg K k)=dg L k+18446744073709551616*b->y<18446744073709551616->u=.int .u64 (y:Int)->Xq L.length w1 (w'.setCell ⟨w1.heap.size,k,none⟩ u) (.slice (some ⟨w1.heap.size,0,none⟩) L.length L.length) (O.set k y) (k+1)/\Qc (O.set k y)+Qc (K.take (k+1))=Qc (L.take (k+1))+18446744073709551616^(k+1)*b):=by intro u w' y b hw' hy hy2 hu;rw[hw'.o];refine⟨(Xq.drew hh.o.1).step (Nat.le_refl _) y u hy2 hu,?_⟩;rw[hh.o.1.val hkl,Xc,Xc,Nat.pow_succ];exact Ri hh.o.2 hy
    generalize dg L k=x at *
    generalize dg K k=y at *
    obtain⟨s,hs⟩:∃s,s=(x+18446744073709551616-y-c1)%18446744073709551616:=⟨_,rfl⟩
    obtain⟨bb,hbb⟩:∃b,b=(if x<y+c1 then 1 else 0:Nat):=⟨_,rfl⟩
    rw[<-hs,<-hbb]at hA;have hb1:bb<=1:=by rw[hbb];split<;>omega
    have hsum:s+(c1+y)=x+18446744073709551616*bb/\s<18446744073709551616:=by rw[hs,hbb];split<;>omega
    have HSS:=h_ hsum;clear hs hbb hsum d1 d2 hcl;go_wp2_with fail;have HR4:Qb (Qr wr.drew (.slice a' K.length c') K):=⟨HRk.o.tab,HRk.o.sl,HRk.o.digs,HRk.o.cap⟩
    have hx4:wr.drew.cell? ⟨w1.heap.size,k,none⟩=some (.int .u64 (dg O k:Nat)):=hx;have hf4:wr.drew.frozen? ⟨w1.heap.size,k,none⟩=false:=hfz;have hxa4:wr.drew.cell? ⟨b,off+k,none⟩=some (.int .u64 (x:Int)):=hxa;go_region_with (go_at_call 108;refine(C2.o _ _ (by omega) HR4.o).mono ?_;rintro e w' ⟨rfl,rfl⟩)
    all_goals go_wp2
    all_goals(have HO:=HST.o _ wr.drew s bb rfl HSS.o.1 HSS.o.2 rfl)
    all_goals go_roundw
    all_goals(first|exact⟨k+1,bb,_,by go_num,rfl,by omega,by omega,HO⟩|(simp[intOf];omega))
   .obtain rfl:k=L.length:=by omega
    have HF:=h_ (HEND.o _ _ hh.o.1.digs hh.o.1.len hh.o.2);go_wp2_with fail;refine(Xp (hh.o.1.raw HL1.o.tab) (by rw[hh.o.1.len];omega)).mono ?_;rintro e w4 ⟨u,rfl,hu,hb3⟩;have HU:Qb (Dg w4 u D):=by rw[<-HF.o];exact hu
    have HB4:=h_ (hh.o.1.b.trans (hb3.mono hh.o.1.b.size));clear hu hb3;go_wp2;go_ret2;exact⟨u,rfl,HU.o,HB.o.trans (HB4.o.mono HB.o.size)⟩
theorem Qao{L:List Nat}{v:Value}{w:World}(h:Qr w v L)(hl:L.length<=100000) :
  Calls Tryz.prog 126 #[v] w fun e w'=>e=.returned (.tuple #[.int .u64 ((if Qc L<18446744073709551616 then Qc L else 0:Nat):Int),.bool (decide (Qc L<18446744073709551616))])/\Below w.heap.size w w':=by
 have HB:=h_ (Xp h (by omega));clear h hl;generalize Qc L=m at *
 obtain⟨x,hx⟩:∃x,x=(if m<18446744073709551616 then m else 0):=⟨_,rfl⟩
 obtain⟨y,hy⟩:∃y,y=decide (m<18446744073709551616):=⟨_,rfl⟩
 rw[<-hx,<-hy];have HX:=h_ hx;have HY:=h_ hy;clear hx hy;go_enter Tryz.func126,Tryz.ntmps126;go_wp2_with fail;refine HB.o.mono ?_;rintro e w1 ⟨u,rfl,hu,hb1⟩;obtain⟨A,hA,cA⟩:=hu;obtain⟨a,c,rfl,hc⟩:=hA.sl.form;have HB1:=h_ hb1;clear hb1 HB;rcases A with _|⟨d,A⟩
 .have hm:m=0:=cA.val.symm;subst hm;have e1:x=0:=HX.o;have e2:y=true:=HY.o;subst e1 e2;clear hc hA cA HX HY;go_wp2;go_ret2;exact⟨rfl,HB1.o⟩
 .obtain⟨b,off,rfl,hc1⟩:=hc (by simp);have hc0:=hc1 0 d rfl;have hd:d<18446744073709551616:=hA.digs d (by simp);rcases A with _|⟨d2,A⟩
  .have hm:m=d:=by rw[<-cA.val];simp[Qc]
   subst hm;have e1:x=m:=by rw[HX.o,if_pos hd]
   have e2:y=true:=by rw[HY.o];exact decide_eq_true hd
   subst e1 e2;clear hc hc1 hA cA HX HY;have hc0':w1.cell? ⟨b,off,none⟩=some (.int .u64 (x:Int)):=hc0;go_wp2;go_ret2;exact⟨rfl,HB1.o⟩
  .have hm:¬m<18446744073709551616:=by have:=cA.top (by simp);have h2:18446744073709551616^1<=18446744073709551616^((d :: d2 :: A).length-1):=Vc (by simp);rw[Nat.pow_one]at h2;exact Nat.not_lt.2 (Nat.le_trans h2 this)
   have e1:x=0:=by rw[HX.o,if_neg hm]
   have e2:y=false:=by rw[HY.o];exact decide_eq_false hm
   subst e1 e2;clear hc hc1 hc0 hA cA HX HY hm hd;have g1:(((d :: d2 :: A).length:Int)==0)=false:=by rw[beq_eq_false_iff_ne];simp;omega
   have g2:(((d :: d2 :: A).length:Int)==1)=false:=by rw[beq_eq_false_iff_ne];simp;omega
   generalize (d :: d2 :: A).length=n at *
   go_wp2;go_ret2;exact⟨rfl,HB1.o⟩
structure Qd8(N:Nat)(L K:List Nat)(w wr:World)(out:Value)(O:List Nat)(i:Nat):Prop where
 own:wr.ownsRow w.heap.size 22 1 out N (Qz O)
 digs:Ql O
 sum:Qc O=Qc L*Qc (K.take i)
 rest:∀t,i+L.length<=t->dg O t=0
 b:Below w.heap.size w wr
theorem Rv{L K:List Nat}{u v:Value}{w:World}(h:Qr w u L)(k:Qr w v K)(hl:L.length<=100000)(kl:K.length<=100000) :
  Calls Tryz.prog 71 #[u,v] w (J2 (Qc L*Qc K) w):=by
 have HL:=h_ h;have HK:=h_ k;obtain⟨a,c,rfl,-⟩:=h.sl.form;obtain⟨a',c',rfl,kcell⟩:=k.sl.form;have HKC:=h_ kcell;obtain⟨N,hN⟩:∃N,N=L.length+K.length+1:=⟨_,rfl⟩
 have HN:=h_ hN;have hN2:N<=200001:=by omega
 have hKN:K.length+L.length<N:=by omega
 clear h k kcell hN;go_enter Tryz.func71,Tryz.ntmps71;go_wp2_with (refine Jb (w0:=w) rfl (.tmp 13) 40 rfl w.heap.size 22 (.int .u64 0) 8 Tryz.underlying40 Tryz.info22 rfl (by decide) _ _ N rfl (by have:=HN.o;omega) (by omega) (Below.refl _ _) (Nat.le_refl _) ?_)
 intro w1 ho1 hb1 hB1;have hS:Qb (Qd8 N L K w w1 (.slice (some ⟨w.heap.size,0,none⟩) N N) (List.replicate N 0) 0):=⟨by have:=ho1.o;rwa[Vy]at this,Kl N,by rw[Js];simp[Qc],fun t _=>Px N t,hb1⟩
 clear ho1 hb1 hB1;go_wp2
 go_loopw [17] (fun ix wr=>∃(i:Nat) (O:List Nat),ix=.int .i64 i/\i<=K.length/\Qb (Qd8 N L K w wr (.slice (some ⟨w.heap.size,0,none⟩) N N) O i)) (fun ix _=>K.length-(intOf ix).toNat)
 case atStart=>exact⟨0,_,rfl,by omega,hS⟩
 case round =>
  obtain⟨i,O,rfl,hi,hh⟩:=hrel;by_cases hlt:i<K.length
  .obtain⟨b,off,rfl,hc2⟩:=HKC.o (by omega);have hxa:wr.cell? ⟨b,off+i,none⟩=some (.int .u64 (dg K i:Nat)):=Qj hh.o.b (Nat.le_refl _) (hc2 i _ (Qu hlt));have d1:=Qy HK.o.digs i;obtain⟨M,hM⟩:∃M,M=N-i:=⟨_,rfl⟩
   have hiM:i+M=N:=by omega
   have hMi:(N:Int)-i=M:=by omega
   have hMn:N-i=M:=hM.symm;have hROW:=h_ (fun cc=>Qfv (x:=dg K i) (cc:=cc) hh.o.own hh.o.digs hh.o.b HL.o (Nat.le_refl _) hiM (by omega) (by omega) (hh.o.rest _ (Nat.le_refl _)) d1);have HD:Qb (Qc (K.take (i+1))=Qc (K.take i)+18446744073709551616^i*dg K i):=Xc K i;generalize dg K i=x at *
   have hiN:(i:Int)<=N:=by omega
   have hiN2:i<=N:=by omega
   have hiN3:i<N:=by omega
   clear hM hc2;go_wp2_with fail;refine(hROW.o _).mono ?_;rintro e w2 ⟨⟨vv,rfl⟩,O',ho,hd,hs,hr,hb⟩;have HH:Qb (Qd8 N L K w w2 (.slice (some ⟨w.heap.size,0,none⟩) N N) O' (i+1)):=by
    refine⟨ho,hd,?_,fun t ht=>?_,hb⟩
    .rw[hs,HD.o,hh.o.sum,Nat.mul_add,Nat.mul_left_comm (Qc L)]
    .rw[hr t (by omega)];exact hh.o.rest t (by omega)
   clear ho hd hs hr hb hROW;go_wp2;go_roundw
   case rel=>exact⟨i+1,O',by go_num,by omega,HH⟩
   case measure=>simp[intOf];omega
  .obtain rfl:i=K.length:=by omega
   have HF:Qb (Qc O=Qc L*Qc K):=by have:=hh.o.sum;rwa[Xu (Nat.le_refl _)]at this
   go_wp2_with fail;refine(Xp (Qr.of_own hh.o.own (HL.o.tab.below hh.o.b) hh.o.digs) (by rw[Zn hh.o.own];omega)).mono ?_;rintro e w4 ⟨u,rfl,hu,hb3⟩;have HU:Qb (Dg w4 u (Qc L*Qc K)):=by rw[<-HF.o];exact hu
   have HB4:=h_ (hh.o.b.trans (hb3.mono hh.o.b.size));clear hu hb3;go_wp2;go_ret;exact⟨u,rfl,HU.o,HB4.o⟩
def mulN(m n:Nat):Nat:=if 65536<bl m+bl n then 0 else m*n
def Vi(m n:Nat):Int:=if m=0\/n=0 then 0 else if 65536<bl m+bl n then 2 else 0
theorem Az{L K:List Nat}{u v:Value}{w:World}(h:Qr w u L)(k:Qr w v K)(hl:L.length<=100000)(kl:K.length<=100000) :
  Calls Tryz.prog 32 #[u,v] w (Jp (mulN (Qc L) (Qc K)) (Vi (Qc L) (Qc K)) w):=by
 have HB1:=h_ (Xp h (by omega));have HB2:Qb (∀w',Qr w' v K->Calls Tryz.prog 70 #[v] w' (J2 (Qc K) w')):=fun w' hw=>Xp hw (by omega);have HK:=h_ k;have LA:Qb (∀A,Zf A (Qc L)->A.length<=100000):=fun A hA=>Nat.le_trans (hA.len_le' h.digs) hl;have LB:Qb (∀A,Zf A (Qc K)->A.length<=100000):=fun A hA=>Nat.le_trans (hA.len_le' k.digs) kl;clear h k;generalize Qc L=m at *
 generalize Qc K=n at *
 obtain⟨SN,hSN⟩:∃SN,SN=mulN m n:=⟨_,rfl⟩
 obtain⟨SE,hSE⟩:∃SE,SE=Vi m n:=⟨_,rfl⟩
 rw[<-hSN,<-hSE];have HSN:=h_ hSN;have HSE:=h_ hSE;clear hSN hSE;go_enter Tryz.func32,Tryz.ntmps32;go_wp2_with fail;refine HB1.o.mono ?_;rintro e w1 ⟨u1,rfl,hu,hb1⟩;have HU:=h_ hu;have HK1:=h_ (HK.o.below hb1);have B1:=h_ hb1;clear hu hb1 HK HB1;go_wp2_with fail;refine(HB2.o _ HK1.o).mono ?_;rintro e w2 ⟨u2,rfl,hu2,hb2⟩;obtain⟨A,hA,cA⟩:=HU.o.below hb2;obtain⟨B,hB,cB⟩:=hu2;have B2:=h_ (B1.o.trans (hb2.mono B1.o.size));have hAl:=LA.o A cA;have hBl:=LB.o B cB;obtain⟨a,c,rfl,-⟩:=hA.sl.form;obtain⟨a',c',rfl,-⟩:=hB.sl.form;have HA:=h_ hA;have HB:=h_ hB;have CA:=h_ cA;have CB:=h_ cB;clear hA hB hb2 HU HK1 B1 LA LB HB2;by_cases hm:m=0
 .subst hm;have hA0:=cA.zero;subst hA0;have e1:Qb (SN=0):=by rw[Qb,HSN.o];unfold mulN;split<;>simp
  have e2:Qb (SE=0):=by rw[Qb,HSE.o];unfold Vi;rw[if_pos (.inl rfl)]
  clear cA cB;go_wp2;go_ret2;refine⟨.slice none 0 0,?_,?_,B2.o⟩
  .rw[e2.o];rfl
  .rw[e1.o];exact Dg.nil HA.o.tab
 .have ha0:((A.length:Int)==0)=false:=by rw[beq_eq_false_iff_ne];have:=cA.pos hm;omega
  by_cases hn:n=0
  .subst hn;have hB0:=cB.zero;subst hB0;have e1:Qb (SN=0):=by rw[Qb,HSN.o];unfold mulN;split<;>simp
   have e2:Qb (SE=0):=by rw[Qb,HSE.o];unfold Vi;rw[if_pos (.inr rfl)]
   clear cA cB hm;go_wp2;go_ret2;refine⟨.slice none 0 0,?_,?_,B2.o⟩
   .rw[e2.o];rfl
   .rw[e1.o];exact Dg.nil HA.o.tab
  .have hb0:((B.length:Int)==0)=false:=by rw[beq_eq_false_iff_ne];have:=cB.pos hn;omega
   have HQ1:=h_ (fun w' (hw:Qr w' (.slice a A.length c) A)=>Ka hw (by omega));have HQ2:=h_ (fun w' (hw:Qr w' (.slice a' B.length c') B)=>Ka hw (by omega));rw[cA.val]at HQ1;rw[cB.val]at HQ2;have E1:Qb (SN=if 65536<bl m+bl n then 0 else m*n):=HSN.o;have E2:Qb (SE=if 65536<bl m+bl n then 2 else 0):=by rw[Qb,HSE.o];unfold Vi;rw[if_neg (by omega)]
   have q1:=cA.bits_len hm;have q2:=Zs (Qy cA.digs (A.length-1));have q3:=cB.bits_len hn;have q4:=Zs (Qy cB.digs (B.length-1));have q5:bl m<=6400100:=by omega
   have q6:bl n<=6400100:=by omega
   have HP:Qb (∀w',Qr w' (.slice a A.length c) A->Qr w' (.slice a' B.length c') B->Calls Tryz.prog 71 #[.slice a A.length c,.slice a' B.length c'] w' (J2 (m*n) w')):=by intro w' h1 h2;have:=Rv h1 h2 (by omega) (by omega);rwa[cA.val,cB.val]at this
   clear q1 q2 q3 q4 cA cB hm hn HSN HSE;generalize bl m=bm at *
   generalize bl n=bn at *
   go_wp2_with fail;refine(HQ1.o _ HA.o).mono ?_;rintro e w3 ⟨rfl,hb3⟩;have HA3:=h_ (HA.o.below hb3);have HB3:=h_ (HB.o.below hb3);have B3:=h_ (B2.o.trans (hb3.mono B2.o.size));clear hb3 HA HB B2 HQ1;go_wp2_with fail;refine(HQ2.o _ HB3.o).mono ?_;rintro e w4 ⟨rfl,hb4⟩;have HA4:=h_ (HA3.o.below hb4);have HB4:=h_ (HB3.o.below hb4);have B4:=h_ (B3.o.trans (hb4.mono B3.o.size));clear hb4 HA3 HB3 B3 HQ2;by_cases hbig:65536<bm+bn
   .have e1:Qb (SN=0):=by rw[Qb,E1.o,if_pos hbig]
    have e2:Qb (SE=2):=by rw[Qb,E2.o,if_pos hbig]
    have g1:decide ((65536:Int)<(bm:Int)+bn)=true:=decide_eq_true (by omega);go_wp2;go_ret2;refine⟨.slice none 0 0,?_,?_,B4.o⟩
    .rw[e2.o];rfl
    .rw[e1.o];exact Dg.nil HA4.o.tab
   .have e1:Qb (SN=m*n):=by rw[Qb,E1.o,if_neg hbig]
    have e2:Qb (SE=0):=by rw[Qb,E2.o,if_neg hbig]
    have g1:decide ((65536:Int)<(bm:Int)+bn)=false:=decide_eq_false (by omega);have g2:decide (65536<bm+bn)=false:=decide_eq_false hbig;go_wp2_with fail;refine(HP.o _ HA4.o HB4.o).mono ?_;rintro e w5 ⟨u,rfl,hu,hb5⟩;have HU:=h_ hu;have B5:=h_ (B4.o.trans (hb5.mono B4.o.size));clear hu hb5;go_wp2;go_ret2;refine⟨u,?_,?_,B5.o⟩
    .rw[e2.o];rfl
    .rw[e1.o];exact HU.o
theorem Qae{L:List Nat}{u:Value}{w:World}(h:Qr w u L)(hl:L.length<=100000){n:Nat}(hn:n<18446744073709551616) :
  Calls Tryz.prog 138 #[u,.int .u64 (n:Int)] w (Jp (mulN (Qc L) n) (Vi (Qc L) n) w):=by
 have HL:=h_ h;have HO:=h_ (Zu hn h.tab);have HMU:Qb (∀w' v,Qr w' u L->Dg w' v n->Calls Tryz.prog 32 #[u,v] w' (Jp (mulN (Qc L) n) (Vi (Qc L) n) w')):=by
  rintro w' v h1 ⟨K,hK,cK⟩;have hkl:K.length<=1:=by apply Nat.le_of_not_lt;intro hlt;have h2:=cK.top (by intro he;subst he;simp at hlt);have h3:=Vc (show 1<=K.length-1 by omega);rw[Nat.pow_one]at h3;exact Nat.lt_irrefl _ (Nat.lt_of_lt_of_le hn (Nat.le_trans h3 h2))
  have:=Az h1 hK hl (by omega);rwa[cK.val]at this
 clear h hn;generalize mulN (Qc L) n=SN at *
 generalize Vi (Qc L) n=SE at *
 go_enter Tryz.func138,Tryz.ntmps138;go_wp2_with fail;refine HO.o.mono ?_;rintro e w1 ⟨v,rfl,hv,hb1⟩;have HV:=h_ hv;have HL1:=h_ (HL.o.below hb1);have B1:=h_ hb1;clear hv hb1 HL HO;go_wp2_with fail;refine(HMU.o _ _ HL1.o HV.o).mono ?_;rintro e w2 ⟨q,rfl,hq,hb2⟩;have HQ:=h_ hq;have B2:=h_ (B1.o.trans (hb2.mono B1.o.size));clear hq hb2;go_wp2;go_ret2;exact⟨q,rfl,HQ.o,B2.o⟩
def Rd(w:World)(v:Value)(n:Nat):Prop:=∃L,Qr w v L/\Qc L=n/\L.length<=100000
theorem Rd.below{w w':World}{v:Value}{n:Nat}(h:Rd w v n)(hb:Below w.heap.size w w'):Rd w' v n:=by obtain⟨L,h1,h2⟩:=h;exact⟨L,h1.below hb,h2⟩
theorem Rd.alloc{w:World}{v:Value}{n:Nat}(h:Rd w v n)(o:Obj):Rd (w.alloc o) v n:=by obtain⟨L,h1,h2⟩:=h;exact⟨L,h1.alloc o,h2⟩
theorem Rd.drewN{w:World}{v:Value}{n:Nat}(h:Rd w v n)(k:Nat):Rd (w.drewN k) v n:=by obtain⟨L,h1,h2⟩:=h;exact⟨L,h1.drewN k,h2⟩
theorem Rd.drew{w:World}{v:Value}{n:Nat}(h:Rd w v n):Rd w.drew v n:=by obtain⟨L,h1,h2⟩:=h;exact⟨L,h1.drew,h2⟩
theorem Rd.kp{w w':World}{v:Value}{n:Nat}(h:Rd w v n)(K:Kp w w'):Rd w' v n:=by obtain⟨L,h1,h2⟩:=h;exact⟨L,h1.kp K,h2⟩
theorem Rd.tab{w:World}{v:Value}{n:Nat}(h:Rd w v n):Qq w:=by obtain⟨L,h1,h2⟩:=h;exact h1.tab
theorem Rd.form{w:World}{v:Value}{n:Nat}(h:Rd w v n):∃a k c,v=.slice a k c:=by obtain⟨L,h1,_⟩:=h;obtain⟨a,c,rfl,_⟩:=h1.sl;exact⟨_,_,_,rfl⟩
theorem Zf.len_bl{L:List Nat}{n B:Nat}(h:Zf L n)(hb:bl n<=64*B):L.length<=B+1:=by
 by_cases h0:n=0
 .rw[h0]at h;rw[h.zero];simp
 .have:=h.bits_len h0;omega
theorem Dg.rd{w:World}{v:Value}{n:Nat}(h:Dg w v n)(hb:bl n<=6000000):Rd w v n:=by obtain⟨L,h1,hc⟩:=h;exact⟨L,h1,hc.val,by have:=hc.len_bl (B:=93750) (by omega);omega⟩
theorem Kt{w:World}{v:Value}{n:Nat}(h:Rd w v n):Calls Tryz.prog 70 #[v] w (J2 n w):=by obtain⟨L,h1,rfl,h3⟩:=h;exact Xp h1 (by omega)
theorem Xh{w:World}{v:Value}{n:Nat}(h:Rd w v n):Calls Tryz.prog 36 #[v] w fun e w'=>e=.returned (.int .i64 (bl n:Nat))/\Below w.heap.size w w':=by obtain⟨L,h1,rfl,h3⟩:=h;exact Ka h1 (by omega)
theorem Qkb{w:World}{v:Value}{n:Nat}(h:Rd w v n):Calls Tryz.prog 75 #[v] w fun e w'=>e=.returned (.int .i64 (lo n:Nat))/\w=w':=by obtain⟨L,h1,rfl,h3⟩:=h;exact Ec h1 (by omega)
theorem If{w:World}{v:Value}{n:Nat}(h:Rd w v n):Calls Tryz.prog 68 #[v] w fun e w'=>e=.returned (.bool (n%2==1))/\w=w':=by obtain⟨L,h1,rfl,h3⟩:=h;exact Qf3 h1
theorem Kw{w:World}{u v:Value}{m n:Nat}(h:Rd w u m)(k:Rd w v n):Calls Tryz.prog 73 #[u,v] w fun e w'=>e=.returned (.int .i64 (Qm m n))/\Below w.heap.size w w':=by obtain⟨L,h1,rfl,h3⟩:=h;obtain⟨K,k1,rfl,k3⟩:=k;exact G6 h1 k1 h3 k3
theorem Tn{w:World}{v:Value}{n:Nat}(h:Rd w v n)(k:Nat)(hk:k<=1000000000):Calls Tryz.prog 76 #[v,.int .i64 (k:Int)] w (Qb5 (n/2^k) (decide (n%2^k≠0)) w):=by obtain⟨L,h1,rfl,h3⟩:=h;exact S8 h1 h3 k hk
theorem Qj1{w:World}{v:Value}{n:Nat}(h:Rd w v n)(k:Nat)(hk:k<=1000000000):Calls Tryz.prog 125 #[v,.int .i64 (k:Int)] w (Jp (Nh n k) (Ni n k) w):=by obtain⟨L,h1,rfl,h3⟩:=h;exact Pj h1 h3 k hk
theorem Xd{w:World}{u v:Value}{m n:Nat}(h:Rd w u m)(k:Rd w v n):Calls Tryz.prog 123 #[u,v] w (J2 (m+n) w):=by obtain⟨L,h1,rfl,h3⟩:=h;obtain⟨K,k1,rfl,k3⟩:=k;exact Rp h1 k1 h3 k3
theorem Ge{w:World}{u v:Value}{m n:Nat}(h:Rd w u m)(k:Rd w v n):Calls Tryz.prog 177 #[u,v] w (Jp (m-n) (Vh m n) w):=by obtain⟨L,h1,rfl,h3⟩:=h;obtain⟨K,k1,rfl,k3⟩:=k;exact Pf h1 k1 h3 k3
theorem Gy{w:World}{v:Value}{n:Nat}(h:Rd w v n):Calls Tryz.prog 126 #[v] w fun e w'=>e=.returned (.tuple #[.int .u64 ((if n<18446744073709551616 then n else 0:Nat):Int),.bool (decide (n<18446744073709551616))])/\Below w.heap.size w w':=by obtain⟨L,h1,rfl,h3⟩:=h;exact Qao h1 h3
theorem Qka{w:World}{u v:Value}{m n:Nat}(h:Rd w u m)(k:Rd w v n):Calls Tryz.prog 32 #[u,v] w (Jp (mulN m n) (Vi m n) w):=by obtain⟨L,h1,rfl,h3⟩:=h;obtain⟨K,k1,rfl,k3⟩:=k;exact Az h1 k1 h3 k3
theorem Lp{w:World}{u:Value}{m:Nat}(h:Rd w u m){n:Nat}(hn:n<18446744073709551616):Calls Tryz.prog 138 #[u,.int .u64 (n:Int)] w (Jp (mulN m n) (Vi m n) w):=by obtain⟨L,h1,rfl,h3⟩:=h;exact Qae h1 h3 hn
structure Dn where
 neg:Bool
 m:Nat
 e:Int
def Ry(w:World)(v:Value)(d:Dn):Prop:=∃s,v=.agg #[.bool d.neg,s,.int .i64 d.e]/\Rd w s d.m/\bl d.m<=255000/\-4611686018427387904<=d.e/\d.e<=4611686018427387904
def Cy(w:World)(v:Value)(d:Dn):Prop:=∃s,v=.agg #[.bool d.neg,s,.int .i64 d.e]/\Dg w s d.m/\bl d.m<=255000/\-4611686018427387904<=d.e/\d.e<=4611686018427387904
theorem Ry.below{w w':World}{v:Value}{d:Dn}(h:Ry w v d)(hb:Below w.heap.size w w'):Ry w' v d:=by obtain⟨s,h1,h2,h3⟩:=h;exact⟨s,h1,h2.below hb,h3⟩
theorem Cy.below{w w':World}{v:Value}{d:Dn}(h:Cy w v d)(hb:Below w.heap.size w w'):Cy w' v d:=by obtain⟨s,h1,h2,h3⟩:=h;exact⟨s,h1,h2.below hb,h3⟩
theorem Ry.alloc{w:World}{v:Value}{d:Dn}(h:Ry w v d)(o:Obj):Ry (w.alloc o) v d:=by obtain⟨s,h1,h2,h3⟩:=h;exact⟨s,h1,h2.alloc o,h3⟩
theorem Cy.alloc{w:World}{v:Value}{d:Dn}(h:Cy w v d)(o:Obj):Cy (w.alloc o) v d:=by obtain⟨s,h1,h2,h3⟩:=h;exact⟨s,h1,h2.alloc o,h3⟩
theorem Ry.drewN{w:World}{v:Value}{d:Dn}(h:Ry w v d)(n:Nat):Ry (w.drewN n) v d:=by obtain⟨s,h1,h2,h3⟩:=h;exact⟨s,h1,h2.drewN n,h3⟩
theorem Cy.drewN{w:World}{v:Value}{d:Dn}(h:Cy w v d)(n:Nat):Cy (w.drewN n) v d:=by obtain⟨s,h1,h2,h3⟩:=h;exact⟨s,h1,h2.drewN n,h3⟩
theorem Cy.ry{w:World}{v:Value}{d:Dn}(h:Cy w v d):Ry w v d:=by obtain⟨s,h1,h2,h3,h4⟩:=h;exact⟨s,h1,h2.rd (by omega),h3,h4⟩
def Ju(e:Int):Int:=min (max e (-2147483648)) 2147483648
def Qa(d:Dn):Dn:=if d.m=0 then⟨false,0,0⟩else⟨d.neg,d.m/2^lo d.m,Ju d.e+lo d.m⟩
def Yp(d:Dn):Dn×Int:=if(Qa d).e < -1073741824\/1073741824<(Qa d).e then(⟨false,0,0⟩,2)else(Qa d,0)
def Mb(d:Dn)(w:World)(e:Ending)(w':World):Prop:=∃u,e=.returned u/\Cy w' u d/\Below w.heap.size w w'
def Um(d:Dn)(r:Int)(w:World)(e:Ending)(w':World):Prop:=∃u,e=.returned (.tuple #[u,.int .i64 r])/\Cy w' u d/\Below w.heap.size w w'
theorem Hb(e:Int)(h:-4611686018427387904<=e/\e<=4611686018427387904)(w:World) :
  Calls Tryz.prog 77 #[.int .i64 e] w fun x w'=>x=.returned (.int .i64 (Ju e))/\w=w':=by
 obtain⟨h1,h2⟩:=h;go_enter Tryz.func77,Tryz.ntmps77;go_wp2;go_ret;exact⟨rfl,rfl⟩
theorem Ry.kp{w w':World}{v:Value}{d:Dn}(h:Ry w v d)(K:Kp w w'):Ry w' v d:=by obtain⟨s,h1,h2,h3⟩:=h;exact⟨s,h1,h2.kp K,h3⟩
theorem Cy.kp{w w':World}{v:Value}{d:Dn}(h:Cy w v d)(K:Kp w w'):Cy w' v d:=by obtain⟨s,h1,h2,h3⟩:=h;exact⟨s,h1,h2.kp K,h3⟩
theorem Zg{d:Dn}(h:d.m=0):Qa d=⟨false,0,0⟩:=by unfold Qa;rw[if_pos h]
theorem Zy{d:Dn}(h:d.m≠0):Qa d=⟨d.neg,d.m/2^lo d.m,Ju d.e+lo d.m⟩:=by unfold Qa;rw[if_neg h]
theorem G4(e:Int):-2147483648<=Ju e/\Ju e<=2147483648:=by unfold Ju;omega
theorem Dg.len0{w:World}{a:Option Addr}{k c n:Nat}(h:Dg w (.slice a k c) n):n=0↔k=0:=by
 obtain⟨L,h1,hc⟩:=h;obtain⟨a',c',he,_⟩:=h1.sl;rw[Zo]at he;injection he with _ hk _;subst hk;constructor
 .rintro rfl;rw[hc.zero];rfl
 .intro h0;have:=hc.val;rw[List.eq_nil_of_length_eq_zero h0]at this;exact this.symm
theorem Zc{m n:Nat}(h:m<=n):bl m<=bl n:=Zp (Nat.lt_of_le_of_lt h (Zb n))
theorem Wp{n:Nat}(h:n≠0):lo n<bl n:=by obtain⟨m,hm⟩:=Pl h;apply Nat.lt_of_not_le;intro hl;have h1:=Zb n;have h2:2^bl n<=2^lo n:=Nat.pow_le_pow_right (by omega) hl;have h3:2^lo n*1<=2^lo n*(2*m+1):=Nat.mul_le_mul_left _ (by omega);omega
theorem Te{w:World}{v:Value}{d:Dn}(h:Ry w v d):Calls Tryz.prog 35 #[v] w (Mb (Qa d) w):=by
 obtain⟨s,rfl,hr,hbl,he1,he2⟩:=h;obtain⟨neg,m,e⟩:=d;have HR:=h_ hr;have HBL:=h_ hbl;clear hr hbl;go_enter Tryz.func35,Tryz.ntmps35;go_wp2_with fail;refine(Kt ((HR.o.alloc _).alloc _)).mono ?_;rintro q w1 ⟨u,rfl,hu,hb⟩;have F:=h_ ((Fr.two w _ _ _ _).call hb);obtain⟨a,k,c,rfl⟩:=hu.form;have hk:=hu.len0;have HU:=h_ hu;by_cases h0:m=0
 .obtain rfl:k=0:=hk.1 h0;have H0:=h_ h0;have c0:=F.o.c3 1 rfl;clear hk hu h0;go_wp2;obtain⟨f1,f2⟩:=F.o.set3 1 rfl ⟨Nl.bool _,Nl.sl _ _ _,Nl.i64 _⟩ (.bool false) (.slice none 0 0) (.int .i64 0);generalize (setCell (setCell (setCell _ _ _) _ _) _ _)=W at f1 f2 |-;obtain⟨⟨g0,g1,g2⟩,-⟩:=f1.c3 1 rfl;refine bodyPost_ret (v:=.agg #[.bool false,.slice none 0 0,.int .i64 0]) (by simp[results,Tryz.results35,go_sem,g0,g1,g2]) rfl ⟨_,rfl,?_,f1.b⟩;rw[Zg H0.o];exact⟨_,rfl,Dg.nil (HU.o.kp f2).tab,by decide,by decide,by decide⟩
 .have hk0:((k:Int)==0)=false:=by rw[beq_eq_false_iff_ne];intro h;exact h0 (hk.2 (by omega))
  have H0:=h_ h0;have hlo:lo m<255000:=Nat.lt_of_lt_of_le (Wp h0) HBL.o;have HL:=fun w=>h_ (fun h:Rd w (.slice a k c) m=>Qkb h);have HN:=h_ (Zy (d:=⟨neg,m,e⟩) h0);have HM:=h_ (show m/2^lo m<=m from Nat.div_le_self _ _);generalize lo m=l at *
  clear hk hu h0;go_wp2_with fail;refine((HL _).o (HU.o.rd (by have:=HBL.o;omega))).mono ?_;rintro q w2 ⟨rfl,rfl⟩;go_wp2_with fail;refine(Tn (HU.o.rd (by have:=HBL.o;omega)) l (by omega)).mono ?_;rintro q w2 ⟨u,rfl,hu,hb⟩;have F:=h_ (F.o.call hb);have HU:=h_ hu;have hnl:=hu.nl;obtain⟨a',k',c',rfl⟩:=hu.form;have q1:IntKind.i64.wrap (Ju e+(l:Int))=Ju e+(l:Int):=by have:=G4 e;exact IntWalk.i64_in _ (by omega)
  clear hu hb HL;go_wp2_with fail;refine Gx 9 (by kernel_rfl) (by kernel_rfl) ?_;intro w4 h4;have F4:=h_ (F.o.drewE h4.o);have HU4:=h_ (HU.o.kp (Kp.drewE h4.o));have c0:=F4.o.c3 1 rfl;have c1:=F4.o.z3 rfl;clear HU F h4;simp only[List.take_succ_cons,List.take_zero,List.drop_succ_cons,List.drop_zero]
  repeat still_step
  still_call (Ky (Hb e ⟨by omega,by omega⟩ _))
  repeat still_step
  refine Ks ?_;go_wp2;obtain⟨f1,f2⟩:=F4.o.set3 1 rfl ⟨Nl.bool _,Nl.sl _ _ _,Nl.i64 _⟩ (.bool neg) (.slice a' k' c') (.int .i64 (Ju e+l));generalize (setCell (setCell (setCell _ _ _) _ _) _ _)=W at f1 f2 |-;obtain⟨⟨g0,g1,g2⟩,-⟩:=f1.c3 1 rfl;refine bodyPost_ret (v:=.agg #[.bool neg,.slice a' k' c',.int .i64 (Ju e+l)]) (by simp[results,Tryz.results35,go_sem,g0,g1,g2]) rfl ⟨_,rfl,?_,f1.b⟩;rw[HN.o];exact⟨_,rfl,HU4.o.kp f2,Nat.le_trans (Zc HM.o) HBL.o,by have:=G4 e;simp;omega,by have:=G4 e;simp;omega⟩
theorem Qcf{d:Dn}(h:(Qa d).e < -1073741824\/1073741824<(Qa d).e):Yp d=(⟨false,0,0⟩,2):=by unfold Yp;rw[if_pos h]
theorem Bn{d:Dn}(h:¬((Qa d).e < -1073741824\/1073741824<(Qa d).e)):Yp d=(Qa d,0):=by unfold Yp;rw[if_neg h]
theorem Cy.nil{w:World}(t:Qq w):Cy w (.agg #[.bool false,.slice none 0 0,.int .i64 0]) ⟨false,0,0⟩:=⟨_,rfl,Dg.nil t,by decide,by decide,by decide⟩
theorem Cy.tab{w:World}{v:Value}{d:Dn}(h:Cy w v d):Qq w:=by obtain⟨s,_,h1,_⟩:=h;exact h1.tab
theorem Ry.tab{w:World}{v:Value}{d:Dn}(h:Ry w v d):Qq w:=by obtain⟨s,_,h1,_⟩:=h;exact h1.tab
theorem Ry.form{w:World}{v:Value}{d:Dn}(h:Ry w v d):∃a k c,v=.agg #[.bool d.neg,.slice a k c,.int .i64 d.e]:=by obtain⟨s,rfl,h1,_⟩:=h;obtain⟨a,k,c,rfl⟩:=h1.form;exact⟨_,_,_,rfl⟩
theorem Cy.form{w:World}{v:Value}{d:Dn}(h:Cy w v d):∃a k c,v=.agg #[.bool d.neg,.slice a k c,.int .i64 d.e]:=h.ry.form
theorem Lm{w:World}{v:Value}{d:Dn}(h:Ry w v d):Calls Tryz.prog 31 #[v] w (Um (Yp d).1 (Yp d).2 w):=by
 have HC:=fun w=>h_ (fun h:Ry w v d=>Te h);have HR:=h_ h;obtain⟨a,k,c,rfl⟩:=h.form;obtain⟨neg,m,e⟩:=d;have HB1:=h_ (fun h=>Qcf (d:=⟨neg,m,e⟩) h);have HB2:=h_ (fun h=>Bn (d:=⟨neg,m,e⟩) h);generalize Qa ⟨neg,m,e⟩=b at *
 generalize Yp ⟨neg,m,e⟩=B at *
 obtain⟨bn,bm,be⟩:=b;go_enter Tryz.func31,Tryz.ntmps31;go_wp2_with fail;refine((HC _).o ((HR.o.alloc _).alloc _)).mono ?_;rintro q w1 ⟨u,rfl,hu,hb⟩;have F:=h_ ((Fr.two w _ _ _ _).call hb);have HU:=h_ hu;obtain⟨a',k',c',rfl⟩:=hu.form;have c0:=F.o.z3 rfl;have c1:=F.o.c3 1 rfl;by_cases hlo:be < -1073741824
 .have E:=h_ (HB1.o (Or.inl hlo));have t1:decide (be < -1073741824)=true:=decide_eq_true hlo;clear hlo;go_wp2;obtain⟨f0,p0⟩:=F.o.st 0 rfl (.bool bn) (.slice a' k' c') (.int .i64 be);obtain⟨f1,p1⟩:=f0.st 1 rfl (.bool false) (.slice none 0 0) (.int .i64 0);have p:=(p0).trans p1;have f:=f1;generalize setCell _ _ _=W at f p |-;obtain⟨⟨g0a,g0b,g0c⟩,-⟩:=f.c3 1 rfl;refine bodyPost_ret (v:=.tuple #[.agg #[.bool false,.slice none 0 0,.int .i64 0],.int .i64 2]) (by simp[results,Tryz.results31,go_sem,g0a,g0b,g0c]) rfl ?_;rw[E.o];exact⟨_,rfl,Cy.nil (HU.o.kp p).tab,f.b⟩
 .have t1:decide (be < -1073741824)=false:=decide_eq_false hlo;by_cases hhi:1073741824<be
  .have E:=h_ (HB1.o (Or.inr hhi));have t2:decide (1073741824<be)=true:=decide_eq_true hhi;clear hlo hhi;go_wp2;obtain⟨f0,p0⟩:=F.o.st 0 rfl (.bool bn) (.slice a' k' c') (.int .i64 be);obtain⟨f1,p1⟩:=f0.st 1 rfl (.bool false) (.slice none 0 0) (.int .i64 0);have p:=(p0).trans p1;have f:=f1;generalize setCell _ _ _=W at f p |-;obtain⟨⟨g0a,g0b,g0c⟩,-⟩:=f.c3 1 rfl;refine bodyPost_ret (v:=.tuple #[.agg #[.bool false,.slice none 0 0,.int .i64 0],.int .i64 2]) (by simp[results,Tryz.results31,go_sem,g0a,g0b,g0c]) rfl ?_;rw[E.o];exact⟨_,rfl,Cy.nil (HU.o.kp p).tab,f.b⟩
  .have E:=h_ (HB2.o (fun h=>h.elim hlo hhi));have t2:decide (1073741824<be)=false:=decide_eq_false hhi;clear hlo hhi;go_wp2;obtain⟨f0,p0⟩:=F.o.st 0 rfl (.bool bn) (.slice a' k' c') (.int .i64 be);obtain⟨f1,p1⟩:=f0.st 1 rfl (.bool bn) (.slice a' k' c') (.int .i64 be);have p:=(p0).trans p1;have f:=f1;generalize setCell _ _ _=W at f p |-;obtain⟨⟨g0a,g0b,g0c⟩,-⟩:=f.c3 1 rfl;refine bodyPost_ret (v:=.tuple #[.agg #[.bool bn,.slice a' k' c',.int .i64 be],.int .i64 0]) (by simp[results,Tryz.results31,go_sem,g0a,g0b,g0c]) rfl ?_;rw[E.o];exact⟨_,rfl,HU.o.kp p,f.b⟩
theorem Qjn{w:World}{s:Value}{neg:Bool}{m:Nat}{e:Int}(h:Rd w s m)(hbl:bl m<=255000)(he:-4611686018427387904<=e/\e<=4611686018427387904) :
  Calls Tryz.prog 30 #[.bool neg,s,.int .i64 e] w (Um (Yp ⟨neg,m,e⟩).1 (Yp ⟨neg,m,e⟩).2 w):=by
 have HC:=fun w=>h_ (fun h:Ry w (.agg #[.bool neg,s,.int .i64 e]) ⟨neg,m,e⟩=>Lm h);have HR:Qb (Ry w (.agg #[.bool neg,s,.int .i64 e]) ⟨neg,m,e⟩):=⟨s,rfl,h,hbl,he⟩
 generalize Yp ⟨neg,m,e⟩=B at *
 obtain⟨⟨bn,bm,be⟩,r⟩:=B;obtain⟨a,k,c,rfl⟩:=h.form;clear h hbl he;go_enter Tryz.func30,Tryz.ntmps30;go_wp2_with fail;refine((HC _).o (HR.o.alloc _)).mono ?_;rintro q w1 ⟨u,rfl,hu,hb⟩;have F:=h_ ((Fr.one w _ _).call hb);have HU:=h_ hu;obtain⟨a',k',c',rfl⟩:=hu.form;have c0:=F.o.z3 rfl;go_wp2;obtain⟨f0,p0⟩:=F.o.st 0 rfl (.bool bn) (.slice a' k' c') (.int .i64 be);have p:=p0;have f:=f0;generalize setCell _ _ _=W at f p |-;obtain⟨⟨g0a,g0b,g0c⟩,-⟩:=f.z3 rfl;refine bodyPost_ret (v:=.tuple #[.agg #[.bool bn,.slice a' k' c',.int .i64 be],.int .i64 r]) (by simp[results,Tryz.results30,go_sem,g0a,g0b,g0c]) rfl ?_;exact⟨_,rfl,HU.o.kp p,f.b⟩
def Qk(n:Int):Dn:=Qa ⟨decide (n<0),n.natAbs,0⟩
theorem Vr{w:World}{v:Value}{n:Nat}(h:Qr w v [n]):Rd w v n:=⟨[n],h,by simp[Qc],by simp⟩
theorem Ko{w:World}(t:Qq w)(n:Int)(hn:-9223372036854775808<=n/\n<9223372036854775808):Calls Tryz.prog 18 #[.int .i64 n] w (Mb (Qk n) w):=by
 obtain⟨m,hm⟩:∃m,m=n.natAbs:=⟨_,rfl⟩
 obtain⟨g,hg⟩:∃g,g=decide (n<0):=⟨_,rfl⟩
 have HR:Qb (∀w B,Qq w->B=w.heap.size->Ry (w.alloc (.cells #[.int .u64 (m:Int)] 22)) (.agg #[.bool g,.slice (some ⟨B,0,none⟩) 1 1,.int .i64 0]) ⟨g,m,0⟩):=by
  rintro w B t rfl;have hm64:m<18446744073709551616:=by omega
  exact⟨_,rfl,Vr (Wr t hm64),Nat.le_trans (Zs hm64) (by decide),by simp,by simp⟩
 have HT:=h_ t;have HC:=fun w v=>h_ (fun h:Ry w v ⟨g,m,0⟩=>Te h);have HO:Qk n=Qa ⟨g,m,0⟩:=by rw[hg,hm];rfl
 rw[HO];generalize Qa ⟨g,m,0⟩=b at *
 obtain⟨bn,bm,be⟩:=b;clear t HO;by_cases h0:n<0
 .have t1:decide (n<0)=true:=decide_eq_true h0;have hw:IntKind.u64.wrap (-(IntKind.u64.wrap n))=(m:Int):=by rw[IntKind.wrap_u64,IntKind.wrap_u64];omega
  rw[t1]at hg;subst hg;clear hm h0;go_enter Tryz.func18,Tryz.ntmps18;go_wp2_with fail;refine((HC _ _).o (HR.o _ _ (HT.o.alloc _) (by simp))).mono ?_;rintro q w1 ⟨u,rfl,hu,hb⟩;have F:=h_ ((Fr.two w _ _ _ _).call hb);have HU:=h_ hu;obtain⟨a',k',c',rfl⟩:=hu.form;have c0:=F.o.z3 rfl;go_wp2;obtain⟨f0,p0⟩:=F.o.st 0 rfl (.bool bn) (.slice a' k' c') (.int .i64 be);have p:=p0;have f:=f0;generalize setCell _ _ _=W at f p |-;obtain⟨⟨g0a,g0b,g0c⟩,-⟩:=f.z3 rfl;refine bodyPost_ret (v:=.agg #[.bool bn,.slice a' k' c',.int .i64 be]) (by simp[results,Tryz.results18,go_sem,g0a,g0b,g0c]) rfl ?_;exact⟨_,rfl,HU.o.kp p,f.b⟩
 .have t1:decide (n<0)=false:=decide_eq_false h0;have hw:IntKind.u64.wrap n=(m:Int):=by rw[IntKind.wrap_u64];omega
  rw[t1]at hg;subst hg;clear hm h0;go_enter Tryz.func18,Tryz.ntmps18;go_wp2_with fail;refine((HC _ _).o (HR.o _ _ (HT.o.alloc _) (by simp))).mono ?_;rintro q w1 ⟨u,rfl,hu,hb⟩;have F:=h_ ((Fr.two w _ _ _ _).call hb);have HU:=h_ hu;obtain⟨a',k',c',rfl⟩:=hu.form;have c0:=F.o.z3 rfl;go_wp2;obtain⟨f0,p0⟩:=F.o.st 0 rfl (.bool bn) (.slice a' k' c') (.int .i64 be);have p:=p0;have f:=f0;generalize setCell _ _ _=W at f p |-;obtain⟨⟨g0a,g0b,g0c⟩,-⟩:=f.z3 rfl;refine bodyPost_ret (v:=.agg #[.bool bn,.slice a' k' c',.int .i64 be]) (by simp[results,Tryz.results18,go_sem,g0a,g0b,g0c]) rfl ?_;exact⟨_,rfl,HU.o.kp p,f.b⟩
def Qg(d:Dn):Int:=if d.m=0 then 0 else(bl (Qa d).m:Int)-1+(Qa d).e
theorem Jq{d:Dn}:(Qa d).m=0↔d.m=0:=by
 by_cases h:d.m=0
 .rw[Zg h];simp[h]
 .rw[Zy h];obtain⟨m,hm⟩:=Pl h;constructor
  .intro h0;have:d.m/2^lo d.m=2*m+1:=by
    conv=>lhs;rw[hm]
    rw[Fg rfl,Nat.mul_div_cancel_left _ (Nat.two_pow_pos _)]
   simp[this]at h0
  .intro h0;exact absurd h0 h
theorem Wg{w:World}{v:Value}{d:Dn}(h:Ry w v d):Calls Tryz.prog 83 #[v] w fun e w'=>e=.returned (.tuple #[.int .i64 (Qg d),.bool (decide (d.m≠0))])/\Below w.heap.size w w':=by
 have HC:=fun w=>h_ (fun h:Ry w v d=>Te h);have HR:=h_ h;have HM:=h_ (Jq (d:=d));have HT:Qb (Qg d=if(Qa d).m=0 then 0 else(bl (Qa d).m:Int)-1+(Qa d).e):=by unfold Qg Qb;simp only[Jq]
 have HD:Qb (decide (d.m≠0)=decide ((Qa d).m≠0)):=by simp only[Qb,ne_eq,Jq]
 have HE:Qb ((Qa d).m≠0→-4000000000<=(Qa d).e/\(Qa d).e<=4000000000):=by intro h0;have h1:=fun h=>h0 (Jq.2 h);obtain⟨_,_,_,h2,_⟩:=h;have:=Wp h1;have:=G4 d.e;rw[Zy h1];simp only;omega
 obtain⟨a,k,c,rfl⟩:=h.form;rw[HT.o,HD.o];generalize Qa d=b at *
 obtain⟨bn,bm,be⟩:=b;go_enter Tryz.func83,Tryz.ntmps83;go_wp2_with fail;refine((HC _).o (HR.o.alloc _)).mono ?_;rintro q w1 ⟨u,rfl,hu,hb⟩;have F:=h_ ((Fr.one w _ _).call hb);have HU:=h_ hu;obtain⟨s,he,hs,hbl,-⟩:=hu;simp only at hs hbl;obtain⟨a',k',c',rfl⟩:=hs.form;subst he;have hk:=hs.len0;have HS:=h_ hs;have c0:=F.o.z3 rfl;have F1:=h_ (F.o.st 0 rfl (.bool bn) (.slice a' k' c') (.int .i64 be));clear hb HC hs;by_cases h0:bm=0
 .obtain rfl:k'=0:=hk.1 h0;subst h0;go_wp2;go_ret2;exact⟨rfl,F1.o.1.b⟩
 .have hk0:((k':Int)==0)=false:=by rw[beq_eq_false_iff_ne];intro h;exact h0 (hk.2 (by omega))
  have hbe:=HE.o h0;have H0:=h_ h0;clear hk h0;go_wp2_with fail;obtain⟨f,p⟩:=F1.o;generalize setCell _ _ _=W at f p |-;have F:=h_ f;have HS:=h_ (HS.o.kp p);obtain⟨⟨-,x1,x2⟩,-⟩:=f.z3 rfl;have q1:IntKind.i64.wrap ((bl bm:Int)-1)=(bl bm:Int)-1:=IntWalk.i64_in _ (by omega);have q2:IntKind.i64.wrap ((bl bm:Int)-1+be)=(bl bm:Int)-1+be:=IntWalk.i64_in _ (by omega);clear f p c0 F1 HU
  go_region_held3 (fun w'=>w'.cell? ⟨w.heap.size,1,none⟩=some (.slice a' k' c')/\w'.cell? ⟨w.heap.size,2,none⟩=some (.int .i64 be)) (first|exact⟨x1,x2⟩|exact FC.o) (first|(go_at_call 36;(with_reducible refine(Xh (HS.o.drew.rd (by omega))).mono ?_);rintro q w3 ⟨rfl,hb⟩;have G:=h_ (F.o.drew.call hb);have FC:=h_ (And.intro (G.o.z3 rfl).1.2.1 (G.o.z3 rfl).1.2.2)))
  go_wp2;go_ret2;exact⟨rfl,G.o.b⟩
def Qe(d:Dn):Int:=if d.m=0 then 0 else if d.neg then -1 else 1
theorem Jn{w:World}{v:Value}{d:Dn}(h:Ry w v d):Calls Tryz.prog 19 #[v] w fun e w'=>e=.returned (.int .i64 (Qe d))/\Below w.heap.size w w':=by
 have HR:=h_ h;obtain⟨s,rfl,hs,-⟩:=h;obtain⟨a,k,c,rfl⟩:=hs.form;have HS:=h_ hs;obtain⟨neg,m,e⟩:=d;obtain⟨S,hS⟩:∃S,S=Qe ⟨neg,m,e⟩:=⟨_,rfl⟩
 rw[<-hS];have HE:Qb (S=if m=0 then 0 else if neg then -1 else 1):=hS;clear hS;have H2:Qb (∀x:Bool,(((bl m:Nat):Int)==0)=x->(x=true↔m=0)):=by
  rintro x rfl;rw[beq_iff_eq];constructor
  .intro h;apply Classical.byContradiction;intro h0;have:=Zi h0;omega
  .rintro rfl;rfl
 obtain⟨x,hx⟩:∃x,(((bl m:Nat):Int)==0)=x:=⟨_,rfl⟩
 have H3:=h_ (H2.o x hx);clear hs H2;go_enter Tryz.func19,Tryz.ntmps19;go_wp2_with fail;refine(Xh (HS.o.alloc _)).mono ?_;rintro q w1 ⟨rfl,hb⟩;have F:=h_ ((Fr.one w _ _).call hb);have c0:=F.o.z3 rfl;cases x
 .have hm:m≠0:=fun h=>by have:=H3.o.2 h;cases this
  have HM:Qb (S=if neg then -1 else 1):=HE.o.trans (if_neg hm);clear hm H3;cases neg
  .have HM:Qb (S=1):=HM.o;go_wp2;go_ret;exact⟨by rw[HM.o];rfl,F.o.b⟩
  .have HM:Qb (S=-1):=HM.o;go_wp2;go_ret;exact⟨by rw[HM.o];rfl,F.o.b⟩
 .have hm:m=0:=H3.o.1 rfl;have HM:Qb (S=0):=HE.o.trans (if_pos hm);clear hm H3;go_wp2;go_ret;exact⟨by rw[HM.o];rfl,F.o.b⟩
theorem Qa0{x p c:Nat}(hp:p<=64)(hc:c<2^p):bits .or .u64 (IntKind.u64.wrap ((x:Int)*2^p)) (c:Int)=((x*2^p%18446744073709551616+c:Nat):Int)/\x*2^p%18446744073709551616+c<18446744073709551616:=by
 have hR:(18446744073709551616:Nat)=2^p*2^(64-p):=by rw[<-Nat.pow_add,show p+(64-p)=64 by omega]
 have h2:x*2^p%18446744073709551616=2^p*(x%2^(64-p)):=by rw[hR,Nat.mul_comm x,Nat.mul_mod_mul_left]
 have h3:x*2^p%18446744073709551616<18446744073709551616:=Nat.mod_lt _ (Nat.zero_lt_succ _);have h5:x%2^(64-p)<2^(64-p):=Nat.mod_lt _ (Nat.two_pow_pos _);have h6:2^p*(x%2^(64-p))+2^p<=2^p*2^(64-p):=by rw[<-Nat.mul_succ];exact Nat.mul_le_mul_left _ h5
 have e2:IntKind.u64.wrap ((x:Int)*2^p)=((x*2^p%18446744073709551616:Nat):Int):=by rw[IntKind.wrap_u64,Int.natCast_emod,Int.natCast_mul];simp
 have h7:x*2^p%18446744073709551616+c<18446744073709551616:=by omega
 refine⟨?_,h7⟩;rw[e2,u64_or _ _ (Int.natCast_nonneg _) (by omega) (Int.natCast_nonneg _) (by omega),Int.toNat_natCast,Int.toNat_natCast,h2,Gz hc]
theorem Qe9{O C P x c z pw:Nat}(h:O+P*c=z)(h2:x*pw=18446744073709551616*C+(x*pw%18446744073709551616)) :
  O+P*(x*pw%18446744073709551616+c)+P*18446744073709551616*C=z+P*(x*pw):=by
 rw[Nat.mul_add,Nat.mul_assoc];have:P*(x*pw)=P*(18446744073709551616*C)+P*(x*pw%18446744073709551616):=by rw[<-Nat.mul_add,<-h2]
 omega
structure Wid(w wr:World)(out:Value)(z p:Nat)(L O:List Nat)(k c:Nat):Prop where
 own:wr.ownsRow w.heap.size 22 1 out (z+k) (Qz O)
 digs:Ql O
 b:Below w.heap.size w wr
 sz:w.heap.size<=wr.heap.size
 carry:c<2^p
 val:Qc O+18446744073709551616^(z+k)*c=18446744073709551616^z*2^p*Qc (L.take k)
theorem Wid.step{w wr w':World}{out out':Value}{z p:Nat}{L O:List Nat}{k c y:Nat}(h:Wid w wr out z p L O k c)(hp:p<=64)(hL:Ql L)(hy:y=dg L k*2^p%18446744073709551616+c)
  (ho:Qb (w'.ownsRow w.heap.size 22 1 out' (z+k+1) (Qz O++[.int .u64 (y:Int)]))) (hb:Below w.heap.size w w') (hs:w.heap.size<=w'.heap.size):Wid w w' out' z p L (O++[y]) (k+1) (dg L k/2^(64-p)):=by
 have hlen:O.length=z+k:=Zn h.own;have hx:=Qy hL k;have hR:(18446744073709551616:Nat)=2^p*2^(64-p):=by rw[<-Nat.pow_add,show p+(64-p)=64 by omega]
 refine⟨?_,h.digs.snoc (by rw[hy];exact(Qa0 (x:=dg L k) hp h.carry).2),hb,hs,?_,?_⟩
 .have:=ho.o;rw[Pm];exact this
 .exact Nat.div_lt_of_lt_mul (by rw[Nat.mul_comm,<-hR];exact hx)
 .rw[Wo,hlen,Xc,hy,<-Nat.add_assoc z k 1,Nat.pow_succ];have h2:dg L k*2^p=18446744073709551616*(dg L k/2^(64-p))+dg L k*2^p%18446744073709551616:=by
   have h3:dg L k/2^(64-p)=dg L k*2^p/18446744073709551616:=by rw[hR,Nat.mul_comm (dg L k),Nat.mul_div_mul_left _ _ (Nat.two_pow_pos p)]
   rw[h3];exact(Nat.div_add_mod _ _).symm
  rw[Qe9 h.val h2,Nat.mul_add,Nat.pow_add];congr 1;rw[Nat.mul_assoc,Nat.mul_assoc,Nat.mul_comm (dg L k),Nat.mul_left_comm (18446744073709551616^k)]
def Xn(m:Nat)(n:Int):Nat:=if n<=0 then m else m*2^n.toNat
theorem Fd{w:World}{v:Value}{m:Nat}(h:Dg w v m)(hm:bl m<=255000)(n:Int)(hn:-1000000000<=n/\n<=1000000) :
  Calls Tryz.prog 74 #[v,.int .i64 n] w fun e w'=>∃u,e=.returned u/\Rd w' u (Xn m n)/\Below w.heap.size w w':=by
 obtain⟨hn1,hn2⟩:=hn;have HR:=h_ (h.rd (by omega));obtain⟨L,hr,hc⟩:=h;have hl:L.length<=4000:=by have:=hc.len_bl (B:=3999) (by omega);omega
 have hv:=hc.val;by_cases h0:n<=0
 .have t1:decide (n<=0)=true:=decide_eq_true h0;have HW:Qb (Xn m n=m):=if_pos h0;rw[HW.o];clear hr hc hl hv h0;go_enter Tryz.func74,Tryz.ntmps74;go_wp2;go_ret;exact⟨_,rfl,HR.o,Below.refl _ _⟩
 .have t1:decide (n<=0)=false:=decide_eq_false h0;obtain⟨k,rfl⟩:∃k:Nat,n=(k:Int):=⟨n.toNat,by omega⟩
  have t2:decide (k=0)=false:=decide_eq_false (by omega);have HW:Qb (Xn m k=m*2^k):=by unfold Qb Xn;rw[if_neg h0];rfl
  rw[HW.o];obtain⟨z,hz⟩:∃z,z=k/64:=⟨_,rfl⟩
  obtain⟨p,hp⟩:∃p,p=k%64:=⟨_,rfl⟩
  have d1:(k:Int)/64=(z:Int):=by omega
  have d2:(k:Int)%64=(p:Int):=by omega
  have d3:(k:Int).tdiv 64=(z:Int):=by rw[Int.tdiv_eq_ediv_of_nonneg (by omega)];exact d1
  have d4:(k:Int).tmod 64=(p:Int):=by rw[Int.tmod_eq_emod_of_nonneg (by omega)];exact d2
  have hz1:z<=15625:=by omega
  have hp1:p<=63:=by omega
  have hkk:k=64*z+p:=by omega
  obtain⟨r,hr64⟩:∃r,r=64-p:=⟨_,rfl⟩
  have hwr:IntKind.i64.wrap (64-(p:Int))=(r:Int):=by rw[IntWalk.i64_in _ (by omega)];omega
  have hr64':r<=64:=by omega
  have HEND:Qb (∀O c,Qc O+18446744073709551616^(z+L.length)*c=18446744073709551616^z*2^p*Qc (L.take L.length)->Qc (O++[c])=m*2^k\/O.length≠z+L.length):=by
   intro O c hs;by_cases hol:O.length=z+L.length
   .left;rw[Wo,hol,hs,Xu (Nat.le_refl _),hv,hkk,Nat.pow_add,Wf,Nat.mul_comm]
   .exact Or.inr hol
  have HP:=h_ (And.intro hr64 hkk);obtain⟨a,c,rfl,hcell⟩:=hr.sl.form;have HRW:=h_ hr;have HC:=h_ hcell;clear hr hc hv h0 hz hp HW hr64 hkk hcell HR;go_enter Tryz.func74,Tryz.ntmps74;go_wp2_with (refine Jb (w0:=w) rfl (.tmp 14) 40 rfl w.heap.size 22 (.int .u64 0) 8 Tryz.underlying40 Tryz.info22 rfl (by decide) _ _ z rfl (by first|rfl|assumption) (by omega) (Below.refl _ _) (Nat.le_refl _) ?_)
  intro w1 ho1 hb1 hB1;have hS:Qb (Wid w w1 (.slice (some ⟨w.heap.size,0,none⟩) z z) z p L (List.replicate z 0) 0 0):=by refine⟨by have:=ho1.o;rwa[Vy]at this,Kl z,hb1,hB1,Nat.two_pow_pos _,?_⟩;rw[Js];simp[Qc]
  clear ho1 hb1 hB1;go_wp2
  go_loopw [5,7,20] (fun out cc i wr=>∃(j c:Nat) (O:List Nat),i=.int .i64 j/\cc=.int .u64 (c:Int)/\j<=L.length/\Qb (Wid w wr out z p L O j c)) (fun _ _ i _=>L.length-(intOf i).toNat)
  case atStart=>exact⟨0,0,_,rfl,rfl,by omega,hS⟩
  case round =>
   obtain⟨j,cc,O,rfl,rfl,hj,hh⟩:=hrel;by_cases hlt:j<L.length
   .obtain⟨b,off,rfl,hc2⟩:=HC.o (by omega);have hx:wr.cell? ⟨b,off+j,none⟩=some (.int .u64 (dg L j:Nat)):=Qj hh.o.b (Nat.le_refl _) (hc2 j _ (Qu hlt));obtain⟨x,hxx⟩:∃x,x=dg L j:=⟨_,rfl⟩
    obtain⟨e1,e2⟩:=Qa0 (x:=x) (Nat.le_of_lt (show p<64 by omega)) hh.o.carry;obtain⟨y,hy⟩:∃y,y=x*2^p%18446744073709551616+cc:=⟨_,rfl⟩
    rw[<-hy]at e1 e2;obtain⟨c',hc'⟩:∃c',c'=x/2^r:=⟨_,rfl⟩
    have e3:(x:Int)/2^r=(c':Int):=by rw[hc',Int.natCast_ediv,Int.natCast_pow];rfl
    rw[<-hxx]at hx;have HQ:=h_ (And.intro hxx (And.intro hy hc'));clear hxx hy hc' hc2 e2;have ho:=hh.o.own;have hob:=hh.o.b;have hos:=hh.o.sz;go_wp2_with (at_builtin;refine Zj rfl (.tmp 24) (.tmp 30) 40 rfl w.heap.size 22 (.int .u64 0) 8 Tryz.underlying40 Tryz.info22 rfl (by decide) _ _ _ rfl _ 1 rfl rfl ho hob hos (by omega) ?_)
    intro v1 w2 ho2 hb2 hs2;have HH:=h_ (hh.o.step (Nat.le_of_lt (show p<64 by omega)) HRW.o.digs (by rw[HQ.o.2.1,HQ.o.1]) ho2 hb2 hs2);rw[<-HP.o.1,<-HQ.o.1,<-HQ.o.2.2]at HH;clear ho2 hb2 hs2 ho hob hos;go_wp2;go_roundw
    case rel=>exact⟨j+1,c',_,by go_num,rfl,by omega,HH⟩
    case measure=>simp[intOf];omega
   .obtain rfl:j=L.length:=by omega
    have ho:=hh.o.own;have hob:=hh.o.b;have hos:=hh.o.sz;go_wp2_with (at_builtin;refine Zj rfl (.tmp 37) (.tmp 39) 40 rfl w.heap.size 22 (.int .u64 0) 8 Tryz.underlying40 Tryz.info22 rfl (by decide) _ _ _ rfl _ 1 rfl rfl ho hob hos (by omega) ?_)
    intro v1 w2 ho2 hb2 hs2;have HF:Qb (Rd w2 v1 (m*2^k)/\Below w.heap.size w w2):=by
     have hlen:O.length=z+L.length:=Zn hh.o.own;have hcc:cc<18446744073709551616:=Nat.lt_of_lt_of_le hh.o.carry (by have:=Nat.pow_le_pow_right (n:=2) (by omega) (show p<=64 by omega);omega);refine⟨⟨O++[cc],?_,?_,?_⟩,hb2⟩
     .refine Qr.of_own (B:=w.heap.size) (e:=22) (n:=z+L.length+1) ?_ (HRW.o.tab.below hb2) (hh.o.digs.snoc hcc);rw[Pm];exact ho2.o
     .rcases HEND.o O cc hh.o.val with h|h
      .exact h
      .exact absurd hlen h
     .simp[hlen];omega
    clear ho2 hb2 hs2 ho hob hos;go_wp2;go_ret;exact⟨_,rfl,HF.o.1,HF.o.2⟩
theorem Ry.drew{w:World}{v:Value}{d:Dn}(h:Ry w v d):Ry w.drew v d:=h.drewN 1
theorem Cy.drew{w:World}{v:Value}{d:Dn}(h:Cy w v d):Cy w.drew v d:=h.drewN 1
theorem Fr.st2{w0 w:World}{t t':TypeId}{x x':Bool}{ya ya':Option Addr}{yn yc yn' yc':Nat}{z z':Int}(h:Fr w0 w [(t,#[.bool x,.slice ya yn yc,.int .i64 z]),(t',#[.bool x',.slice ya' yn' yc',.int .i64 z'])])(a b c a' b' c':Value) :
  Fr w0 ((((((w.setCell ⟨w0.heap.size,0,none⟩ a).setCell ⟨w0.heap.size,1,none⟩ b).setCell ⟨w0.heap.size,2,none⟩ c).setCell ⟨w0.heap.size+1,0,none⟩ a').setCell ⟨w0.heap.size+1,1,none⟩ b').setCell ⟨w0.heap.size+1,2,none⟩ c') [(t,#[a,b,c]),(t',#[a',b',c'])] /\
  Kp w ((((((w.setCell ⟨w0.heap.size,0,none⟩ a).setCell ⟨w0.heap.size,1,none⟩ b).setCell ⟨w0.heap.size,2,none⟩ c).setCell ⟨w0.heap.size+1,0,none⟩ a').setCell ⟨w0.heap.size+1,1,none⟩ b').setCell ⟨w0.heap.size+1,2,none⟩ c'):=by
 obtain⟨f1,k1⟩:=h.st 0 rfl a b c;obtain⟨f2,k2⟩:=f1.st 1 rfl a' b' c';exact⟨f2,k1.trans k2⟩
def SzI(w wx:World)(A B:Dn):Prop:=∃a k c a' k' c',Fr w wx [(42,#[.bool A.neg,.slice a k c,.int .i64 A.e]),(42,#[.bool B.neg,.slice a' k' c',.int .i64 B.e])]/\Dg wx (.slice a k c) A.m/\Dg wx (.slice a' k' c') B.m
theorem Cy.dg{w:World}{n:Bool}{a:Option Addr}{k c:Nat}{e:Int}{d:Dn}(h:Cy w (.agg #[.bool n,.slice a k c,.int .i64 e]) d):Dg w (.slice a k c) d.m:=by obtain⟨s,he,hs,_⟩:=h;simp at he;obtain⟨_,rfl,_⟩:=he;exact hs
theorem SzI.mk{w v:World}{A B:Dn}{x x':Bool}{ya ya':Option Addr}{yn yc yn' yc':Nat}{z z':Int}(h:Fr w v [(42,#[.bool x,.slice ya yn yc,.int .i64 z]),(42,#[.bool x',.slice ya' yn' yc',.int .i64 z'])])
  {a a':Option Addr} {k c k' c':Nat} (g1:Cy v (.agg #[.bool A.neg,.slice a k c,.int .i64 A.e]) A) (g2:Cy v (.agg #[.bool B.neg,.slice a' k' c',.int .i64 B.e]) B) :
  Qb (SzI w ((((((v.setCell ⟨w.heap.size,0,none⟩ (.bool A.neg)).setCell ⟨w.heap.size,1,none⟩ (.slice a k c)).setCell ⟨w.heap.size,2,none⟩ (.int .i64 A.e)).setCell ⟨w.heap.size+1,0,none⟩ (.bool B.neg)).setCell ⟨w.heap.size+1,1,none⟩ (.slice a' k' c')).setCell ⟨w.heap.size+1,2,none⟩ (.int .i64 B.e)) A B):=by
 obtain⟨f,p⟩:=h.st2 (.bool A.neg) (.slice a k c) (.int .i64 A.e) (.bool B.neg) (.slice a' k' c') (.int .i64 B.e);exact⟨_,_,_,_,_,_,f,g1.dg.kp p,g2.dg.kp p⟩
def Tm(A B:Dn):Int :=
 if(bl A.m:Int)+A.e=(bl B.m:Int)+B.e then Qm (Xn A.m (-((bl A.m:Int)-bl B.m))) (Xn B.m ((bl A.m:Int)-bl B.m))else Xb ((bl A.m:Int)+A.e) ((bl B.m:Int)+B.e)
def Uz(a b:Dn):Int:=Tm (Qa a) (Qa b)
theorem Cs{d:Dn}(h:bl d.m<=255000):bl (Qa d).m<=255000/\-4000000000<=(Qa d).e/\(Qa d).e<=4000000000:=by
 by_cases h0:d.m=0
 .rw[Zg h0];simp[bl]
 .have:=Wp h0;have:=G4 d.e;have:d.m/2^lo d.m<=d.m:=Nat.div_le_self _ _;have:=Zc this;rw[Zy h0];simp only;omega
theorem Ry.bl{w:World}{v:Value}{d:Dn}(h:Ry w v d):bl d.m<=255000:=by obtain⟨_,_,_,h,_⟩:=h;exact h
theorem Qh6{w:World}{u v:Value}{a b:Dn}(ha:Ry w u a)(hb:Ry w v b):Calls Tryz.prog 34 #[u,v] w fun e w'=>e=.returned (.int .i64 (Uz a b))/\Below w.heap.size w w':=by
 have CA:=h_ (fun w (h:Ry w u a)=>Te h);have CB:=h_ (fun w (h:Ry w v b)=>Te h);have HA:=h_ ha;have HB:=h_ hb;obtain⟨a1,k1,c1,rfl⟩:=ha.form;obtain⟨a2,k2,c2,rfl⟩:=hb.form;have BA:=h_ (Cs ha.bl);have BB:=h_ (Cs hb.bl);have HN:Uz a b=Tm (Qa a) (Qa b):=rfl;rw[HN];generalize Qa a=A at *
 generalize Qa b=B at *
 clear ha hb HN;have HSZ:Qb (Tm A B=if(bl A.m:Int)+A.e=(bl B.m:Int)+B.e then Qm (Xn A.m (-((bl A.m:Int)-bl B.m))) (Xn B.m ((bl A.m:Int)-bl B.m))else Xb ((bl A.m:Int)+A.e) ((bl B.m:Int)+B.e)):=rfl;obtain⟨S,hS⟩:∃S,S=Tm A B:=⟨_,rfl⟩
 rw[<-hS]at HSZ |-;clear hS;obtain⟨an,am,ae⟩:=A;obtain⟨bn,bm,be⟩:=B;go_enter Tryz.func34,Tryz.ntmps34;have F0:=h_ (Fr.two w 42 #[.bool a.neg,.slice a1 k1 c1,.int .i64 a.e] 42 #[.bool b.neg,.slice a2 k2 c2,.int .i64 b.e]);have HA:=h_ ((HA.o.alloc (.cells #[.bool a.neg,.slice a1 k1 c1,.int .i64 a.e] 42)).alloc (.cells #[.bool b.neg,.slice a2 k2 c2,.int .i64 b.e] 42));have HB:=h_ ((HB.o.alloc (.cells #[.bool a.neg,.slice a1 k1 c1,.int .i64 a.e] 42)).alloc (.cells #[.bool b.neg,.slice a2 k2 c2,.int .i64 b.e] 42));go_upto_region 1 with(fail)
 generalize (alloc (alloc _ _) _)=w1 at F0 HA HB |-;go_cut []from 8 to 11 (fun wx=>Qb (SzI w wx ⟨an,am,ae⟩ ⟨bn,bm,be⟩))
 case first =>
  have D0:=h_ F0.o.drew;have x0:=F0.o.z3 rfl;have x1:=F0.o.c3 1 rfl;have y0:=D0.o.z3 rfl;have y1:=D0.o.c3 1 rfl;go_region_with (first|(have RR:=D1.o;go_at_call 35;(with_reducible refine(CB.o _ (Ry.below (Ry.drew HB.o) S1.o)).mono ?_);rintro qq v2 ⟨u2,rfl,hu2,hb⟩;obtain⟨p2,l2,m2,rfl⟩:=hu2.form;have D2:=h_ (RR.call hb);have G1:=h_ (Cy.below U1.o hb);have G2:=h_ hu2;have z0:=D2.o.z3 rfl;have z1:=D2.o.c3 1 rfl;clear hb RR hu2)|(have RR:=D0.o;go_at_call 35;(with_reducible refine(CA.o _ (Ry.drew HA.o)).mono ?_);rintro qq v1 ⟨u1,rfl,hu1,hb⟩;obtain⟨p1,l1,m1,rfl⟩:=hu1.form;have D1:=h_ (RR.call hb);have U1:=h_ hu1;have S1:=h_ hb;have y2:=D1.o.z3 rfl;have y3:=D1.o.c3 1 rfl;clear hb RR hu1))
  all_goals go_wp2_with fail
  all_goals go_meet
  all_goals exact SzI.mk (A:=⟨an,am,ae⟩) (B:=⟨bn,bm,be⟩) D2.o G1.o G2.o
 case rest =>
  obtain⟨p1,l1,m1,p2,l2,m2,hF,hA,hB⟩:=hcut.o;have bA:=BA.o;have bB:=BB.o;have F0:=h_ hF;have RA0:=h_ (hA.rd (by omega));have RB0:=h_ (hB.rd (by omega));have DA0:=h_ hA;have DB0:=h_ hB;simp only at bA bB F0 RA0 RB0 DA0 DB0 HSZ;have WA:=h_ (fun w (h:Dg w (.slice p1 l1 m1) am) n hn=>Fd h bA.1 n hn);have WB:=h_ (fun w (h:Dg w (.slice p2 l2 m2) bm) n hn=>Fd h bB.1 n hn);have BTA:=h_ (fun w (h:Rd w (.slice p1 l1 m1) am)=>Xh h);have BTB:=h_ (fun w (h:Rd w (.slice p2 l2 m2) bm)=>Xh h);have CC:=h_ (fun w u v m n (h:Rd w u m) (k:Rd w v n)=>Kw h k);generalize hxa:bl am=xa at *
  generalize hxb:bl bm=xb at *
  have x0:=hF.z3 rfl;have x1:=hF.c3 1 rfl;have q1:IntKind.i64.wrap ((xa:Int)+ae)=(xa:Int)+ae:=IntWalk.i64_in _ (by omega);have q2:IntKind.i64.wrap ((xb:Int)+be)=(xb:Int)+be:=IntWalk.i64_in _ (by omega);obtain⟨n,hn⟩:∃n,n=(xa:Int)-xb:=⟨_,rfl⟩
  obtain⟨nn,hnn⟩:∃nn,nn=-n:=⟨_,rfl⟩
  have q3:IntKind.i64.wrap ((xa:Int)-xb)=n:=by rw[IntWalk.i64_in _ (by omega)];exact hn.symm
  have q4:IntKind.i64.wrap (-n)=nn:=by rw[IntWalk.i64_in _ (by omega)];omega
  have WA:=h_ (fun w h=>WA.o w h nn (by omega));have WB:=h_ (fun w h=>WB.o w h n (by omega));rw[<-hn,<-hnn]at HSZ;clear hF hA hB hcut hxa hxb BA BB CA CB HA HB hn hnn;go_upto_region 2 with(fail)
  go_region_held3 (fun w'=>(w'.cell? ⟨w.heap.size,1,none⟩=some (.slice p1 l1 m1)/\w'.cell? ⟨w.heap.size,2,none⟩=some (.int .i64 ae))/\w'.cell? ⟨w.heap.size+1,1,none⟩=some (.slice p2 l2 m2)/\w'.cell? ⟨w.heap.size+1,2,none⟩=some (.int .i64 be)) (first|exact⟨x0.1.2,x1.1.2⟩|exact FC.o) (first|(go_at_call 36;(with_reducible refine(BTB.o _ RB1.o).mono ?_);rintro q ww2 ⟨rfl,hb⟩;have F2:=h_ (F1.o.call hb);have RA2:=h_ (RA1.o.below hb);have RB2:=h_ (RB1.o.below hb);have DA2:=h_ (DA1.o.below hb);have DB2:=h_ (DB1.o.below hb);have FC:=h_ (And.intro (F2.o.z3 rfl).1.2 (F2.o.c3 1 rfl).1.2))|(go_at_call 36;(with_reducible refine(BTA.o _ (RA0.o.drew)).mono ?_);rintro q ww1 ⟨rfl,hb⟩;have F1:=h_ ((F0.o.drew).call hb);have RA1:=h_ ((RA0.o.drew).below hb);have RB1:=h_ ((RB0.o.drew).below hb);have DA1:=h_ ((DA0.o.drew).below hb);have DB1:=h_ ((DB0.o.drew).below hb);have FC:=h_ (And.intro (F1.o.z3 rfl).1.2 (F1.o.c3 1 rfl).1.2)))
  have x0:=F2.o.z3 rfl;have x1:=F2.o.c3 1 rfl;by_cases hx:(xa:Int)+ae=(xb:Int)+be
  .have HE:Qb (S=Qm (Xn am nn) (Xn bm n)):=HSZ.o.trans (if_pos hx);have t1:((xa:Int)+ae==(xb:Int)+be)=true:=beq_iff_eq.2 hx;clear hx HSZ;go_upto_region 5 with(fail)
   go_region_held3 (fun w'=>(w'.cell? ⟨w.heap.size,1,none⟩=some (.slice p1 l1 m1)/\w'.cell? ⟨w.heap.size,2,none⟩=some (.int .i64 ae))/\w'.cell? ⟨w.heap.size+1,1,none⟩=some (.slice p2 l2 m2)/\w'.cell? ⟨w.heap.size+1,2,none⟩=some (.int .i64 be)) (first|exact⟨x0.1.2,x1.1.2⟩|exact FC.o) (first|(go_at_call 36;(with_reducible refine(BTB.o _ RB3.o).mono ?_);rintro q ww4 ⟨rfl,hb⟩;have F4:=h_ (F3.o.call hb);have RA4:=h_ (RA3.o.below hb);have RB4:=h_ (RB3.o.below hb);have DA4:=h_ (DA3.o.below hb);have DB4:=h_ (DB3.o.below hb);have FC:=h_ (And.intro (F4.o.z3 rfl).1.2 (F4.o.c3 1 rfl).1.2))|(go_at_call 36;(with_reducible refine(BTA.o _ (RA2.o.drew)).mono ?_);rintro q ww3 ⟨rfl,hb⟩;have F3:=h_ ((F2.o.drew).call hb);have RA3:=h_ ((RA2.o.drew).below hb);have RB3:=h_ ((RB2.o.drew).below hb);have DA3:=h_ ((DA2.o.drew).below hb);have DB3:=h_ ((DB2.o.drew).below hb);have FC:=h_ (And.intro (F3.o.z3 rfl).1.2 (F3.o.c3 1 rfl).1.2)))
   have x0:=F4.o.z3 rfl;have x1:=F4.o.c3 1 rfl;go_wp2_with fail
   go_region_held3 (fun w'=>(w'.cell? ⟨w.heap.size,1,none⟩=some (.slice p1 l1 m1)/\w'.cell? ⟨w.heap.size,2,none⟩=some (.int .i64 ae))/\w'.cell? ⟨w.heap.size+1,1,none⟩=some (.slice p2 l2 m2)/\w'.cell? ⟨w.heap.size+1,2,none⟩=some (.int .i64 be)) (first|exact⟨x0.1.2,x1.1.2⟩|exact FC.o) (first|(go_at_call 73;(with_reducible refine(CC.o _ _ _ _ _ UA6.o UB6.o).mono ?_);rintro q ww7 ⟨rfl,hb⟩;have F7:=h_ (F6.o.call hb);have RA7:=h_ (RA6.o.below hb);have RB7:=h_ (RB6.o.below hb);have DA7:=h_ (DA6.o.below hb);have DB7:=h_ (DB6.o.below hb);have UA7:=h_ (UA6.o.below hb);have UB7:=h_ (UB6.o.below hb);have FC:=h_ (And.intro (F7.o.z3 rfl).1.2 (F7.o.c3 1 rfl).1.2))|(go_at_call 74;(with_reducible refine(WB.o _ DB5.o).mono ?_);rintro q ww6 ⟨u2,rfl,hu,hb⟩;have F6:=h_ (F5.o.call hb);have RA6:=h_ (RA5.o.below hb);have RB6:=h_ (RB5.o.below hb);have DA6:=h_ (DA5.o.below hb);have DB6:=h_ (DB5.o.below hb);have UA6:=h_ (UA5.o.below hb);have UB6:=h_ (hu);have FC:=h_ (And.intro (F6.o.z3 rfl).1.2 (F6.o.c3 1 rfl).1.2))|(go_at_call 74;(with_reducible refine(WA.o _ (DA4.o.drew)).mono ?_);rintro q ww5 ⟨u,rfl,hu,hb⟩;have F5:=h_ ((F4.o.drew).call hb);have RA5:=h_ ((RA4.o.drew).below hb);have RB5:=h_ ((RB4.o.drew).below hb);have DA5:=h_ ((DA4.o.drew).below hb);have DB5:=h_ ((DB4.o.drew).below hb);have UA5:=h_ (hu);have FC:=h_ (And.intro (F5.o.z3 rfl).1.2 (F5.o.c3 1 rfl).1.2)))
   go_wp2;go_ret;exact⟨by rw[HE.o];rfl,F7.o.b⟩
  .have HE:Qb (S=Xb ((xa:Int)+ae) ((xb:Int)+be)):=HSZ.o.trans (if_neg hx);have t1:((xa:Int)+ae==(xb:Int)+be)=false:=beq_eq_false_iff_ne.2 hx;clear hx HSZ;go_wp2_with fail;refine(Pn _ _ _).mono ?_;rintro q w3 ⟨rfl,rfl⟩;go_wp2;go_ret;exact⟨by rw[HE.o];rfl,F2.o.b⟩
theorem En(x y:Int):-1<=Xb x y/\Xb x y<=1:=by unfold Xb;split<;>(try split)<;>omega
theorem Qg1(x y:Nat):-1<=Qm x y/\Qm x y<=1:=by unfold Qm;split<;>(try split)<;>omega
theorem Da(a b:Dn):-1<=Uz a b/\Uz a b<=1:=by
 unfold Uz Tm;split
 .exact Qg1 _ _
 .exact En _ _
theorem Yu(a:Dn):-1<=Qe a/\Qe a<=1:=by unfold Qe;split<;>(try split)<;>omega
def Qh(a b:Dn):Int:=if Qe a≠Qe b\/Qe a=0 then Xb (Qe a) (Qe b)else Qe a*Uz a b
theorem Zv{w:World}{u v:Value}{a b:Dn}(ha:Ry w u a)(hb:Ry w v b):Calls Tryz.prog 17 #[u,v] w fun e w'=>e=.returned (.int .i64 (Qh a b))/\Below w.heap.size w w':=by
 have CA:=h_ (fun w (h:Ry w u a)=>Jn h);have CB:=h_ (fun w (h:Ry w v b)=>Jn h);have CS:=h_ (fun w (h:Ry w u a) (k:Ry w v b)=>Qh6 h k);have HA:=h_ ha;have HB:=h_ hb;obtain⟨a1,k1,c1,rfl⟩:=ha.form;obtain⟨a2,k2,c2,rfl⟩:=hb.form;have HSZ:Qb (Qh a b=if Qe a≠Qe b\/Qe a=0 then Xb (Qe a) (Qe b)else Qe a*Uz a b):=rfl;have s1:=Yu a;have s2:=Yu b;have s3:=Da a b;generalize Qh a b=C at *
 generalize Qe a=x at *
 generalize Qe b=y at *
 generalize Uz a b=z at *
 obtain⟨an,am,ae⟩:=a;obtain⟨bn,bm,be⟩:=b;clear ha hb;go_enter Tryz.func17,Tryz.ntmps17;have F0:=h_ (Fr.two w 42 #[.bool an,.slice a1 k1 c1,.int .i64 ae] 42 #[.bool bn,.slice a2 k2 c2,.int .i64 be]);have HA0:=h_ ((HA.o.alloc (.cells #[.bool an,.slice a1 k1 c1,.int .i64 ae] 42)).alloc (.cells #[.bool bn,.slice a2 k2 c2,.int .i64 be] 42));have HB0:=h_ ((HB.o.alloc (.cells #[.bool an,.slice a1 k1 c1,.int .i64 ae] 42)).alloc (.cells #[.bool bn,.slice a2 k2 c2,.int .i64 be] 42));go_upto_region 1 with(fail)
 generalize (alloc (alloc _ _) _)=w1 at F0 HA0 HB0 |-;have x0:=F0.o.z3 rfl;have x1:=F0.o.c3 1 rfl
 go_region_held3 (fun w'=>(w'.cell? ⟨w.heap.size,0,none⟩=some (.bool an)/\w'.cell? ⟨w.heap.size,1,none⟩=some (.slice a1 k1 c1)/\w'.cell? ⟨w.heap.size,2,none⟩=some (.int .i64 ae))/\w'.cell? ⟨w.heap.size+1,0,none⟩=some (.bool bn)/\w'.cell? ⟨w.heap.size+1,1,none⟩=some (.slice a2 k2 c2)/\w'.cell? ⟨w.heap.size+1,2,none⟩=some (.int .i64 be)) (first|exact⟨x0.1,x1.1⟩|exact FC.o) (first|(go_at_call 19;(with_reducible refine(CB.o _ HB1.o).mono ?_);rintro q ww2 ⟨rfl,hb⟩;have F2:=h_ (F1.o.call hb);have HA2:=h_ (HA1.o.below hb);have HB2:=h_ (HB1.o.below hb);have FC:=h_ (And.intro (F2.o.z3 rfl).1 (F2.o.c3 1 rfl).1))|(go_at_call 19;(with_reducible refine(CA.o _ (HA0.o.drew)).mono ?_);rintro q ww1 ⟨rfl,hb⟩;have F1:=h_ ((F0.o.drew).call hb);have HA1:=h_ ((HA0.o.drew).below hb);have HB1:=h_ ((HB0.o.drew).below hb);have FC:=h_ (And.intro (F1.o.z3 rfl).1 (F1.o.c3 1 rfl).1)))
 clear x0 x1 HA HB;have x0:=F2.o.z3 rfl;have x1:=F2.o.c3 1 rfl;by_cases hxy:x=y
 .subst hxy;by_cases h0:x=0
  .have HE:Qb (C=Xb x x):=HSZ.o.trans (if_pos (Or.inr h0));subst h0;go_wp2_with fail;refine(Pn _ _ _).mono ?_;rintro q w3 ⟨rfl,rfl⟩;go_wp2;go_ret;exact⟨by rw[HE.o];rfl,F2.o.b⟩
  .have HE:Qb (C=x*z):=HSZ.o.trans (if_neg (fun h=>h.elim (fun h=>h rfl) h0));have t2:(x==0)=false:=beq_eq_false_iff_ne.2 h0;have q1:IntKind.i64.wrap (x*z)=x*z:=IntWalk.i64_in _ (by
    rcases(by omega:x=-1\/x=1)with h|h<;>subst h<;>omega)
   clear h0;go_wp2_with fail;refine(CS.o _ HA2.o HB2.o).mono ?_;rintro q w3 ⟨rfl,hb⟩;have F3:=h_ (F2.o.call hb);go_wp2;go_ret;exact⟨by rw[HE.o];rfl,F3.o.b⟩
 .have HE:Qb (C=Xb x y):=HSZ.o.trans (if_pos (Or.inl hxy));have t2:(x==y)=false:=beq_eq_false_iff_ne.2 hxy;clear hxy;go_wp2_with fail;refine(Pn _ _ _).mono ?_;rintro q w3 ⟨rfl,rfl⟩;go_wp2;go_ret;exact⟨by rw[HE.o];rfl,F2.o.b⟩
def Sd(d:Dn):Prop:=bl d.m<=4000/\-4000<=d.e/\d.e<=4000
theorem Sd.bare{d:Dn}(h:Sd d):bl (Qa d).m<=4000/\-4000<=(Qa d).e/\(Qa d).e<=8000:=by
 obtain⟨h1,h2,h3⟩:=h;by_cases h0:d.m=0
 .rw[Zg h0];exact⟨Nat.zero_le _,by decide,by decide⟩
 .have k1:=Wp h0;have:d.m/2^lo d.m<=d.m:=Nat.div_le_self _ _;have k2:=Zc this;have k3:Ju d.e=d.e:=by unfold Ju;omega
  rw[Zy h0,k3];simp only;omega
theorem Sf{d:Dn}(h:-1000000<=(Qa d).e/\(Qa d).e<=1000000):Yp d=(Qa d,0):=Bn (by omega)
theorem Lh{d:Dn}(h:bl d.m<=255000/\-500000<=d.e/\d.e<=500000):-1000000<=(Qa d).e/\(Qa d).e<=1000000:=by
 by_cases h0:d.m=0
 .rw[Zg h0];exact⟨by decide,by decide⟩
 .have k1:=Wp h0;have k3:Ju d.e=d.e:=by unfold Ju;omega
  rw[Zy h0,k3];simp only;omega
theorem Xr{w:World}{v:Value}{d:Dn}(h:Ry w v d)(hs:Sd d):Calls Tryz.prog 31 #[v] w (Um (Qa d) 0 w):=by have h1:=Lm h;have h2:=hs.bare;rw[Sf (d:=d) (by omega)]at h1;exact h1
theorem Kf{w:World}{s:Value}{neg:Bool}{m:Nat}{e:Int}(h:Rd w s m)(hbl:bl m<=255000)(he:-500000<=e/\e<=500000) :
  Calls Tryz.prog 30 #[.bool neg,s,.int .i64 e] w (Um (Qa ⟨neg,m,e⟩) 0 w):=by
 have h1:=Qjn (neg:=neg) h hbl (e:=e) (by omega);rw[Sf (Lh ⟨hbl,he⟩)]at h1;exact h1
theorem Wv(m n:Nat):bl (m*n)<=bl m+bl n:=by apply Zp;rw[Nat.pow_add];have h1:=Zb m;have h2:=Zb n;exact Nat.lt_of_le_of_lt (Nat.mul_le_mul_right _ (Nat.le_of_lt h1)) (Nat.mul_lt_mul_of_pos_left h2 (Nat.two_pow_pos _))
theorem Mu{w:World}{u v:Value}{m n:Nat}(h:Rd w u m)(k:Rd w v n)(hb:bl m+bl n<=65536):Calls Tryz.prog 32 #[u,v] w (Jp (m*n) 0 w):=by
 have h1:=Qka h k;have e1:mulN m n=m*n:=by unfold mulN;rw[if_neg (by omega)]
 have e2:Vi m n=0:=by unfold Vi;split;rfl;rw[if_neg (by omega)]
 rw[e1,e2]at h1;exact h1
theorem Cy.fm{w:World}{v:Value}{n:Bool}{m:Nat}{e:Int}(h:Cy w v ⟨n,m,e⟩):∃a k c,v=.agg #[.bool n,.slice a k c,.int .i64 e]:=h.form
theorem Cy.dm{w:World}{n:Bool}{a:Option Addr}{k c:Nat}{e:Int}{m:Nat}(h:Cy w (.agg #[.bool n,.slice a k c,.int .i64 e]) ⟨n,m,e⟩):Dg w (.slice a k c) m:=h.dg
def Qc4(A B:Dn):Dn:=Qa ⟨A.neg != B.neg,A.m*B.m,A.e+B.e⟩
def Xw(a b:Dn):Dn:=Qc4 (Qa a) (Qa b)
theorem Fi{w:World}{u v:Value}{a b:Dn}(ha:Ry w u a)(hb:Ry w v b)(sa:Sd a)(sb:Sd b):Calls Tryz.prog 16 #[u,v] w (Um (Xw a b) 0 w):=by
 have CA:=h_ (fun w (h:Ry w u a)=>Xr h sa);have CB:=h_ (fun w (h:Ry w v b)=>Xr h sb);obtain⟨a1,k1,c1,rfl⟩:=ha.form;obtain⟨a2,k2,c2,rfl⟩:=hb.form;have ba:=sa.bare;have bb:=sb.bare;have HM:Xw a b=Qc4 (Qa a) (Qa b):=rfl;rw[HM];clear HM;generalize Qa a=A at *
 generalize Qa b=B at *
 obtain⟨an,am,ae⟩:=A;obtain⟨bn,bm,be⟩:=B;simp only at ba bb;have HD:Qc4 ⟨an,am,ae⟩ ⟨bn,bm,be⟩=Qa ⟨an != bn,am*bm,ae+be⟩:=rfl;have CM:=h_ (fun w (u v:Value) (h:Rd w u am) (k:Rd w v bm)=>Mu h k (by omega));have hm:=Wv am bm;have CK:=h_ (fun w (s:Value) (h:Rd w s (am*bm))=>Kf (neg:=an != bn) (e:=ae+be) h (by omega) (by omega));rw[HD];have q1:IntKind.i64.wrap (ae+be)=ae+be:=IntWalk.i64_in _ (by omega);have bm2:bl (am*bm)<=8000:=by omega
 generalize am*bm=m at *
 obtain⟨g,hg⟩:∃g,g=(an != bn):=⟨_,rfl⟩
 have hg2:(!an==bn)=g:=by rw[hg];cases an<;>cases bn<;>rfl
 rw[<-hg]at CK ⊢;generalize Qa ⟨g,m,ae+be⟩=R at *
 obtain⟨rn,rm,re⟩:=R;have HG:=h_ hg2;clear hg hg2 HD hm;go_enter Tryz.func16,Tryz.ntmps16;have F0:=h_ (Fx.three w 42 #[.bool a.neg,.slice a1 k1 c1,.int .i64 a.e] 42 #[.bool b.neg,.slice a2 k2 c2,.int .i64 b.e] 42 #[.bool false,.slice none 0 0,.int .i64 0] rfl rfl rfl);have X0:=h_ (((ha.alloc (.cells #[.bool a.neg,.slice a1 k1 c1,.int .i64 a.e] 42)).alloc (.cells #[.bool b.neg,.slice a2 k2 c2,.int .i64 b.e] 42)).alloc (.cells #[.bool false,.slice none 0 0,.int .i64 0] 42));have Y0:=h_ (((hb.alloc (.cells #[.bool a.neg,.slice a1 k1 c1,.int .i64 a.e] 42)).alloc (.cells #[.bool b.neg,.slice a2 k2 c2,.int .i64 b.e] 42)).alloc (.cells #[.bool false,.slice none 0 0,.int .i64 0] 42));clear ha hb;go_wp2_with fail;generalize alloc (alloc (alloc _ _) _) _=w0 at F0 X0 Y0 |-;have c0_0:=F0.o.c3 0 rfl;have c1_0:=F0.o.c3 1 rfl;have c2_0:=F0.o.c3 2 rfl;refine(CA.o _ X0.o).mono ?_;rintro q w1 ⟨u,rfl,hu,hb⟩;have F1:=h_ (F0.o.call hb);have X1:=h_ (X0.o.below hb);have Y1:=h_ (Y0.o.below hb);have U1:=h_ (hu);have c0_1:=F1.o.c3 0 rfl;have c1_1:=F1.o.c3 1 rfl;have c2_1:=F1.o.c3 2 rfl;obtain⟨a3,k3,c3,rfl⟩:=U1.o.fm;go_wp2_with fail;obtain⟨f,p⟩:=F1.o.s3 0 rfl (.bool an) (.slice a3 k3 c3) (.int .i64 ae) rfl rfl rfl;generalize setCell _ _ _=W at f p |-;have F2:=h_ (f);have X2:=h_ (X1.o.kp p);have Y2:=h_ (Y1.o.kp p);have U2:=h_ (U1.o.kp p);have c0_2:=F2.o.c3 0 rfl;have c1_2:=F2.o.c3 1 rfl;have c2_2:=F2.o.c3 2 rfl;refine(CB.o _ Y2.o).mono ?_;rintro q w3 ⟨u,rfl,hu,hb⟩;have F3:=h_ (F2.o.call hb);have X3:=h_ (X2.o.below hb);have Y3:=h_ (Y2.o.below hb);have U3:=h_ (U2.o.below hb);have V3:=h_ (hu);have c0_3:=F3.o.c3 0 rfl;have c1_3:=F3.o.c3 1 rfl;have c2_3:=F3.o.c3 2 rfl;obtain⟨a4,k4,c4,rfl⟩:=V3.o.fm;go_wp2_with fail;obtain⟨f,p⟩:=F3.o.s3 1 rfl (.bool bn) (.slice a4 k4 c4) (.int .i64 be) rfl rfl rfl;generalize setCell _ _ _=W at f p |-;have F4:=h_ (f);have X4:=h_ (X3.o.kp p);have Y4:=h_ (Y3.o.kp p);have U4:=h_ (U3.o.kp p);have V4:=h_ (V3.o.kp p);have c0_4:=F4.o.c3 0 rfl;have c1_4:=F4.o.c3 1 rfl;have c2_4:=F4.o.c3 2 rfl;have D1:Qb (Dg _ (.slice a3 k3 c3) am):=U4.o.dm;have D2:Qb (Dg _ (.slice a4 k4 c4) bm):=V4.o.dm;refine(CM.o _ _ _ (D1.o.rd (by omega)) (D2.o.rd (by omega))).mono ?_;rintro q w5 ⟨u,rfl,hu,hb⟩;have F5:=h_ (F4.o.call hb);have M5:=h_ (hu);have c0_5:=F5.o.c3 0 rfl;have c1_5:=F5.o.c3 1 rfl;have c2_5:=F5.o.c3 2 rfl;obtain⟨a5,k5,c5,rfl⟩:=M5.o.form;go_wp2_with fail;rw[HG.o];refine(CK.o _ _ (M5.o.rd (by omega))).mono ?_;rintro q w6 ⟨u,rfl,hu,hb⟩;have F6:=h_ (F5.o.call hb);have M6:=h_ (M5.o.below hb);have R6:=h_ (hu);have c0_6:=F6.o.c3 0 rfl;have c1_6:=F6.o.c3 1 rfl;have c2_6:=F6.o.c3 2 rfl;obtain⟨a6,k6,c6,rfl⟩:=R6.o.fm;go_wp2;obtain⟨f0,p0⟩:=F6.o.s3 2 rfl (.bool rn) (.slice a6 k6 c6) (.int .i64 re) rfl rfl rfl;have p:=p0;have f:=f0;generalize setCell _ _ _=W at f p |-;have g2:=f.c3 2 rfl;refine bodyPost_ret (v:=.tuple #[.agg #[.bool rn,.slice a6 k6 c6,.int .i64 re],.int .i64 0]) (by simp[results,Tryz.results16,go_sem,g2]) rfl ?_;exact⟨_,rfl,R6.o.kp p,f.b⟩
end Go.Proofs.YtobpioceopfkpaaGreatDoor
