/-
  Lemmas for WholeCompare (part 3); without conditions.
-/
import Derived.Test.YtobpioceopfkpaaGreatDoorM02
import Derived.OneCell
import Derived.Deep.RegionHeld3
set_option maxRecDepth 100000
set_option maxHeartbeats 4000000
namespace Go.Proofs.YtobpioceopfkpaaGreatDoor
open Go.RowKit
open World (setCell alloc drew)
open List (set_cons_zero set_cons_succ setIfInBounds_toArray cons_append nil_append)
theorem Tz{U u y1 y0 q r:Nat}(h:Gs U u y1 y0 q r)(hu:u<4294967296)(h1:0<y1)(h0:y0<4294967296)(hU:U<y1*4294967296+y0)(hc:4294967296<=q\/4294967296*r+u<q*y0) :
  0<q/\Gs U u y1 y0 (q-1) (r+y1)/\(4294967296<=r+y1->q-1=(U*4294967296+u)/(y1*4294967296+y0)):=by
 obtain⟨a,b⟩:=Im h hu hU hc;exact⟨a,b,fun hd=>So b h1 (Bu b h0 hU hd)⟩
theorem Fh(hi lo y:Nat)(hlt:hi<y)(hy:y<18446744073709551616)(hl:lo<18446744073709551616)(w:World) :
  Calls Tryz.prog 148 #[.int .u64 (hi:Int),.int .u64 (lo:Int),.int .u64 (y:Int)] w fun e w'=>e=.returned (.tuple #[.int .u64 (((hi*18446744073709551616+lo)/y:Nat):Int),.int .u64 (((hi*18446744073709551616+lo)%y:Nat):Int)])/\Below w.heap.size w w':=by
 have hy0:((y:Int)==0)=false:=by rw[beq_eq_false_iff_ne];omega
 have g1:decide ((y:Int)<=(hi:Int))=false:=decide_eq_false (by omega);have g2:decide (y<=hi)=false:=decide_eq_false (by omega);have hyp:0<y:=by omega
 by_cases h0:hi=0
 .subst h0;rw[Nat.zero_mul,Nat.zero_add];have hyn:((y:Int)=0)=False:=by rw[eq_iff_iff];constructor<;>intro h<;>first|omega|exact h.elim
  have hyn':(y=0)=False:=by rw[eq_iff_iff];constructor<;>intro h<;>first|omega|exact h.elim
  obtain⟨a,ha⟩:∃a,a=lo/y:=⟨_,rfl⟩
  obtain⟨b,hb⟩:∃b,b=lo%y:=⟨_,rfl⟩
  have hal:a<=lo:=by rw[ha];exact Nat.div_le_self _ _
  have W1:IntKind.u64.wrap ((lo:Int)/(y:Int))=(a:Int):=Jy (by rw[ha,Int.natCast_ediv]) (by omega)
  have W2:((lo:Int)%(y:Int))=(b:Int):=by rw[hb,Int.natCast_emod]
  rw[<-ha,<-hb];clear ha hb hal;go_enter Tryz.func148,Tryz.ntmps148;go_wp2_with fail;go_quiet (fail)
  all_goals(try go_wp2)
  all_goals(go_ret2;exact⟨by rw[<-W2];rfl,Qw (Below.refl _ _) _⟩)
 .have hh0:((hi:Int)==0)=false:=by rw[beq_eq_false_iff_ne];omega
  have HC:=h_ (fun w=>Qer y hy w);have hb:=Zs hy;obtain⟨s,hs⟩:∃s,s=64-bl y:=⟨_,rfl⟩
  have hsI:64-(bl y:Int)=s:=by omega
  rw[hsI]at HC;obtain⟨r,hr⟩:∃r,r=64-s:=⟨_,rfl⟩
  obtain⟨n1,n2,n3,n4,n5⟩:=norm hlt hy hl hs hr;have hwr:IntKind.u64.wrap (64-(s:Int))=(r:Int):=by rw[IntKind.wrap_u64];omega
  have hr64:r<=64:=by omega
  obtain⟨Y,hY⟩:∃Y,Y=y*2^s:=⟨_,rfl⟩
  obtain⟨b,hb'⟩:∃b,b=lo/2^r:=⟨_,rfl⟩
  obtain⟨U,hU⟩:∃U,U=hi*2^s+b:=⟨_,rfl⟩
  obtain⟨V,hV⟩:∃V,V=lo*2^s%18446744073709551616:=⟨_,rfl⟩
  rw[<-hY]at n1 n2 n3;rw[<-hb',<-hU]at n3 n4;rw[<-hV]at n4;have hV64:V<18446744073709551616:=by rw[hV];exact Nat.mod_lt _ (Nat.zero_lt_succ _)
  obtain⟨y1,hy1⟩:∃y1,y1=Y/4294967296:=⟨_,rfl⟩
  obtain⟨y0,hy0'⟩:∃y0,y0=Y%4294967296:=⟨_,rfl⟩
  obtain⟨v1,hv1⟩:∃v1,v1=V/4294967296:=⟨_,rfl⟩
  obtain⟨v0,hv0⟩:∃v0,v0=V%4294967296:=⟨_,rfl⟩
  have hW1:IntKind.u64.wrap ((y:Int)*2^s)=(Y:Int):=Jy (by rw[hY,Int.natCast_mul,Int.natCast_pow];rfl) n2;have hW2:(Y:Int)/4294967296=(y1:Int):=by omega
  have hW3:bits .and .u64 (Y:Int) 4294967295=(y0:Int):=by rw[and_low32 _ (by omega) (by omega)];omega
  have hW5:(lo:Int)/2^r=(b:Int):=by rw[hb',Int.natCast_ediv,Int.natCast_pow];rfl
  have hW6:bits .or .u64 (IntKind.u64.wrap ((hi:Int)*2^s)) (b:Int)=(U:Int):=by rw[<-hW5,Ax hl (by omega),<-hb',Nat.mod_eq_of_lt (by omega),Nat.add_comm,hU]
  have hW7:IntKind.u64.wrap ((lo:Int)*2^s)=(V:Int):=by rw[hV];exact Qci (by rw[Int.natCast_mul,Int.natCast_pow];rfl)
  have hW8:(V:Int)/4294967296=(v1:Int):=by omega
  have hW9:bits .and .u64 (V:Int) 4294967295=(v0:Int):=by rw[and_low32 _ (by omega) (by omega)];omega
  have hv1b:v1<4294967296:=by omega
  have hv0b:v0<4294967296:=by omega
  have hy1b:2147483648<=y1/\y1<4294967296:=by omega
  have hy1n:((y1:Int)==0)=false:=by rw[beq_eq_false_iff_ne];omega
  have hy0b:y0<4294967296:=by omega
  have hYy:Y=y1*4294967296+y0:=by omega
  have HV:V=v1*4294967296+v0:=by omega
  have HD:=h_ (Qgr hY hyp (Nat.two_pow_pos s) (by rw[n4,HV]):_/\_);have hUY:=n3;clear hY hy1 hy0' hb' hU hV hv1 hv0 hlt hb hsI hs hr n4 hyp HV;obtain⟨U2,hU2⟩:∃U2,U2=(U*4294967296+v1)%Y:=⟨_,rfl⟩
  obtain⟨Q1,hQ1⟩:∃Q1,Q1=(U*4294967296+v1)/Y:=⟨_,rfl⟩
  obtain⟨Q0,hQ0⟩:∃Q0,Q0=(U2*4294967296+v0)/Y:=⟨_,rfl⟩
  obtain⟨R0,hR0⟩:∃R0,R0=(U2*4294967296+v0)%Y:=⟨_,rfl⟩
  have hYp:0<Y:=by omega
  have hU2Y:U2<Y:=by rw[hU2];exact Nat.mod_lt _ hYp
  have hR0Y:R0<Y:=by rw[hR0];exact Nat.mod_lt _ hYp
  have hQ1b:Q1<4294967296:=by rw[hQ1,hYy];exact Gt hv1b (hYy▸hUY)
  have hQ0b:Q0<4294967296:=by rw[hQ0,hYy];exact Gt hv0b (hYy▸hU2Y)
  have hm1:Y*Q1+U2=U*4294967296+v1:=by rw[hU2,hQ1];exact Nat.div_add_mod _ _
  have hm2:Y*Q0+R0=U2*4294967296+v0:=by rw[hR0,hQ0];exact Nat.div_add_mod _ _
  obtain⟨R,hR⟩:∃R,R=R0/2^s:=⟨_,rfl⟩
  obtain⟨T,hT⟩:∃T,T=Q1*4294967296+Q0:=⟨_,rfl⟩
  have e1:(hi*18446744073709551616+lo)/y=T:=by rw[HD.o.1,<-hU2,<-hQ1,<-hQ0,hT]
  have e2:(hi*18446744073709551616+lo)%y=R:=by rw[HD.o.2,<-hU2,<-hR0,<-hR]
  rw[e1,e2];have hW13:IntKind.u64.wrap (IntKind.u64.wrap (IntKind.u64.wrap ((U:Int)*4294967296)+(v1:Int))-IntKind.u64.wrap ((Q1:Int)*(Y:Int)))=(U2:Int):=Fk (by rw[Int.mul_comm (Q1:Int)];have:=congrArg (fun n:Nat=>(n:Int)) hm1;simp only[Int.natCast_add,Int.natCast_mul]at this;omega) (by omega);have hW14:IntKind.u64.wrap (IntKind.u64.wrap (IntKind.u64.wrap ((U2:Int)*4294967296)+(v0:Int))-IntKind.u64.wrap ((Q0:Int)*(Y:Int)))=(R0:Int):=Fk (by rw[Int.mul_comm (Q0:Int)];have:=congrArg (fun n:Nat=>(n:Int)) hm2;simp only[Int.natCast_add,Int.natCast_mul]at this;omega) (by omega);have HTT:=h_ (show(Q1:Int)*4294967296+(Q0:Int)=(T:Int)by omega);have hW16:(R0:Int)/2^s=(R:Int):=by rw[hR,Int.natCast_ediv,Int.natCast_pow];rfl
  have gg:=Nb hv1b hy1b.1 (hYy▸hUY);obtain⟨q,hq⟩:∃q,q=U/y1:=⟨_,rfl⟩
  have hqU:q<=U:=by rw[hq];exact Nat.div_le_self _ _
  rw[<-hq]at gg;obtain⟨rh,hrh⟩:∃rh,rh=U-q*y1:=⟨_,rfl⟩
  rw[<-hrh]at gg;have hW10:IntKind.u64.wrap ((U:Int)/(y1:Int))=(q:Int):=Jy (by rw[hq,Int.natCast_ediv]) (by omega)
  have hW12:IntKind.u64.wrap ((U:Int)-IntKind.u64.wrap ((q:Int)*(y1:Int)))=(rh:Int):=Hh (by rw[<-Int.natCast_mul];have:=gg.2.2;omega) (by omega);have HG:=h_ (⟨gg.1,by have:=gg.2.1;omega,by omega⟩:Gs U v1 y1 y0 q rh/\rh<4294967296/\q<18446744073709551616);clear gg hq hrh hqU;have gg:=Nb hv0b hy1b.1 (hYy▸hU2Y);obtain⟨q',hq⟩:∃q,q=U2/y1:=⟨_,rfl⟩
  have hqU:q'<=U2:=by rw[hq];exact Nat.div_le_self _ _
  rw[<-hq]at gg;obtain⟨rh',hrh⟩:∃rh,rh=U2-q'*y1:=⟨_,rfl⟩
  rw[<-hrh]at gg;have hW20:IntKind.u64.wrap ((U2:Int)/(y1:Int))=(q':Int):=Jy (by rw[hq,Int.natCast_ediv]) (by omega)
  have hW22:IntKind.u64.wrap ((U2:Int)-IntKind.u64.wrap ((q':Int)*(y1:Int)))=(rh':Int):=Hh (by rw[<-Int.natCast_mul];have:=gg.2.2;omega) (by omega);have HG':=h_ (⟨gg.1,by have:=gg.2.1;omega,by omega⟩:Gs U2 v0 y1 y0 q' rh'/\rh'<4294967296/\q'<18446744073709551616);clear gg hq hrh hqU;have HYy:=h_ hYy;have HQ1:=h_ hQ1;have HQ0:=h_ hQ0;clear hYy hQ1 hQ0 hU2 hR0 hR hT e1 e2 hm1 hm2;go_enter Tryz.func148,Tryz.ntmps148;go_wp2_with fail;refine(HC.o _).mono ?_;rintro e w1 ⟨rfl,rfl⟩
  go_upto_block 0 with(fail)
  go_cut [15] (fun a wx=>a=.int .u64 (Q1:Int)/\wx=w)
  case first =>
   go_wp2_with fail;go_loop [15,16] (fun a b=>∃qq rr:Nat,a=.int .u64 (qq:Int)/\b=.int .u64 (rr:Int)/\Qb (Gs U v1 y1 y0 qq rr/\rr<4294967296/\qq<18446744073709551616)) (fun a b=>(intOf a).toNat)
   case atStart=>exact⟨q,rh,rfl,rfl,HG⟩
   case round =>
    obtain⟨qq,rr,rfl,rfl,hh⟩:=hrel;obtain⟨qn,hqn⟩:∃qn,qn=qq-1:=⟨_,rfl⟩
    obtain⟨rn,hrn⟩:∃rn,rn=rr+y1:=⟨_,rfl⟩
    have hrr:=hh.o.2.1;have W4:IntKind.u64.wrap ((rr:Int)+(y1:Int))=(rn:Int):=Jy (by omega) (by omega)
    have HQN:=h_ hqn;have HRN:=h_ hrn;clear hqn hrn;by_cases hA:4294967296<=qq
    .have t1:decide ((4294967296:Int)<=(qq:Int))=true:=decide_eq_true (by omega);have t2:decide (4294967296<=qq)=true:=decide_eq_true hA;have HCC:=h_ (Or.inl hA:4294967296<=qq\/4294967296*rr+v1<qq*y0);have W3:IntKind.u64.wrap ((qq:Int)-1)=(qn:Int):=Jy (by have:=HQN.o;omega) (by have:=HQN.o;have:=hh.o.2.2;omega)
     clear hA hrr;obtain⟨p1,p2,p3⟩:=Tz hh.o.1 hv1b (by omega) hy0b (HYy.o▸hUY) HCC.o;by_cases hD:4294967296<=rn
     .have t3:decide ((4294967296:Int)<=(rn:Int))=true:=decide_eq_true (by omega);have t4:decide (4294967296<=rn)=true:=decide_eq_true hD;have E:qn=Q1:=by rw[HQN.o,HQ1.o,HYy.o];exact p3 (by rw[<-HRN.o];exact hD)
      clear hD p1 p2 p3;have HE:=h_ E;clear E;go_wp2_with fail;rw[HE.o]
      (go_meet;exact⟨rfl,rfl⟩)
     .have t3:decide ((4294967296:Int)<=(rn:Int))=false:=decide_eq_false (by omega);have t4:decide (4294967296<=rn)=false:=decide_eq_false hD;have HP:=h_ (⟨p1,p2,p3⟩:_/\_/\_);have HDD:=h_ hD;clear hD p1 p2 p3;go_wp2_with fail;go_round
      case rel=>exact⟨qn,rn,rfl,rfl,h_ ⟨by rw[HQN.o,HRN.o];exact HP.o.2.1,by have:=HDD.o;omega,by have:=HQN.o;have:=hh.o.2.2;omega⟩⟩
      case measure=>have:=HQN.o;have:=HP.o.1;simp[intOf];omega
    .have t1:decide ((4294967296:Int)<=(qq:Int))=false:=decide_eq_false (by omega);have t2:decide (4294967296<=qq)=false:=decide_eq_false hA;obtain⟨m,hm⟩:∃m,m=qq*y0:=⟨_,rfl⟩
     obtain⟨t,ht⟩:∃t,t=4294967296*rr+v1:=⟨_,rfl⟩
     have hm64:m<18446744073709551616:=by have:qq*y0<=4294967296*4294967295:=Nat.mul_le_mul (by omega) (by omega);omega
     have W1:IntKind.u64.wrap ((qq:Int)*(y0:Int))=(m:Int):=Jy (by rw[hm,Int.natCast_mul]) hm64;have W5:IntKind.u64.wrap (IntKind.u64.wrap (4294967296*(rr:Int))+(v1:Int))=(t:Int):=by rw[IntKind.wrap_u64,IntKind.wrap_u64];omega
     have HMT:=h_ (⟨hm,ht⟩:_/\_);clear hm hm64;by_cases hC:t<m
     .have t5:decide ((t:Int)<(m:Int))=true:=decide_eq_true (by omega);have t6:decide (t<m)=true:=decide_eq_true hC;have HCC:=h_ (Or.inr (by rw[<-HMT.o.1,<-HMT.o.2];exact hC):4294967296<=qq\/4294967296*rr+v1<qq*y0);have W3:IntKind.u64.wrap ((qq:Int)-1)=(qn:Int):=Jy (by
       have:=HQN.o;have hq0:qq≠0:=by intro h0;rw[HMT.o.1,h0,Nat.zero_mul]at hC;omega
       omega) (by have:=HQN.o;have:=hh.o.2.2;omega)
      clear hA hrr ht hC;obtain⟨p1,p2,p3⟩:=Tz hh.o.1 hv1b (by omega) hy0b (HYy.o▸hUY) HCC.o;by_cases hD:4294967296<=rn
      .have t3:decide ((4294967296:Int)<=(rn:Int))=true:=decide_eq_true (by omega);have t4:decide (4294967296<=rn)=true:=decide_eq_true hD;have E:qn=Q1:=by rw[HQN.o,HQ1.o,HYy.o];exact p3 (by rw[<-HRN.o];exact hD)
       clear hD p1 p2 p3;have HE:=h_ E;clear E;go_wp2_with fail;rw[HE.o]
       (go_meet;exact⟨rfl,rfl⟩)
      .have t3:decide ((4294967296:Int)<=(rn:Int))=false:=decide_eq_false (by omega);have t4:decide (4294967296<=rn)=false:=decide_eq_false hD;have HP:=h_ (⟨p1,p2,p3⟩:_/\_/\_);have HDD:=h_ hD;clear hD p1 p2 p3;go_wp2_with fail;go_round
       case rel=>exact⟨qn,rn,rfl,rfl,h_ ⟨by rw[HQN.o,HRN.o];exact HP.o.2.1,by have:=HDD.o;omega,by have:=HQN.o;have:=hh.o.2.2;omega⟩⟩
       case measure=>have:=HQN.o;have:=HP.o.1;simp[intOf];omega
     .have t5:decide ((t:Int)<(m:Int))=false:=decide_eq_false (by omega);have t6:decide (t<m)=false:=decide_eq_false hC;have E:qq=Q1:=by rw[HQ1.o,HYy.o];exact So hh.o.1 (by omega) (by rw[<-HMT.o.1,<-HMT.o.2];omega)
      clear hA hrr ht hC;have HE:=h_ E;clear E;go_wp2_with fail;rw[HE.o]
      (go_meet;exact⟨rfl,rfl⟩)
  case rest =>
   obtain⟨rfl,rfl⟩:=hcut;go_wp2_with fail;go_loop [16,18] (fun b a=>∃qq rr:Nat,a=.int .u64 (qq:Int)/\b=.int .u64 (rr:Int)/\Qb (Gs U2 v0 y1 y0 qq rr/\rr<4294967296/\qq<18446744073709551616)) (fun b a=>(intOf a).toNat)
   case atStart=>exact⟨q',rh',rfl,rfl,HG'⟩
   case round =>
    obtain⟨qq,rr,rfl,rfl,hh⟩:=hrel;obtain⟨qn,hqn⟩:∃qn,qn=qq-1:=⟨_,rfl⟩
    obtain⟨rn,hrn⟩:∃rn,rn=rr+y1:=⟨_,rfl⟩
    have hrr:=hh.o.2.1;have W4:IntKind.u64.wrap ((rr:Int)+(y1:Int))=(rn:Int):=Jy (by omega) (by omega)
    have HQN:=h_ hqn;have HRN:=h_ hrn;clear hqn hrn;by_cases hA:4294967296<=qq
    .have t1:decide ((4294967296:Int)<=(qq:Int))=true:=decide_eq_true (by omega);have t2:decide (4294967296<=qq)=true:=decide_eq_true hA;have HCC:=h_ (Or.inl hA:4294967296<=qq\/4294967296*rr+v0<qq*y0);have W3:IntKind.u64.wrap ((qq:Int)-1)=(qn:Int):=Jy (by have:=HQN.o;omega) (by have:=HQN.o;have:=hh.o.2.2;omega)
     clear hA hrr;obtain⟨p1,p2,p3⟩:=Tz hh.o.1 hv0b (by omega) hy0b (HYy.o▸hU2Y) HCC.o;by_cases hD:4294967296<=rn
     .have t3:decide ((4294967296:Int)<=(rn:Int))=true:=decide_eq_true (by omega);have t4:decide (4294967296<=rn)=true:=decide_eq_true hD;have E:qn=Q0:=by rw[HQN.o,HQ0.o,HYy.o];exact p3 (by rw[<-HRN.o];exact hD)
      clear hD p1 p2 p3;obtain rfl:=E;go_wp2_with fail
      (go_ret2;exact⟨(show Ending.returned (.tuple #[.int .u64 ((Q1:Int)*4294967296+_),.int .u64 (R:Int)])=_ from by rw[HTT.o]),Below.refl _ _⟩)
     .have t3:decide ((4294967296:Int)<=(rn:Int))=false:=decide_eq_false (by omega);have t4:decide (4294967296<=rn)=false:=decide_eq_false hD;have HP:=h_ (⟨p1,p2,p3⟩:_/\_/\_);have HDD:=h_ hD;clear hD p1 p2 p3;go_wp2_with fail;go_round
      case rel=>exact⟨qn,rn,rfl,rfl,h_ ⟨by rw[HQN.o,HRN.o];exact HP.o.2.1,by have:=HDD.o;omega,by have:=HQN.o;have:=hh.o.2.2;omega⟩⟩
      case measure=>have:=HQN.o;have:=HP.o.1;simp[intOf];omega
    .have t1:decide ((4294967296:Int)<=(qq:Int))=false:=decide_eq_false (by omega);have t2:decide (4294967296<=qq)=false:=decide_eq_false hA;obtain⟨m,hm⟩:∃m,m=qq*y0:=⟨_,rfl⟩
     obtain⟨t,ht⟩:∃t,t=4294967296*rr+v0:=⟨_,rfl⟩
     have hm64:m<18446744073709551616:=by have:qq*y0<=4294967296*4294967295:=Nat.mul_le_mul (by omega) (by omega);omega
     have W1:IntKind.u64.wrap ((qq:Int)*(y0:Int))=(m:Int):=Jy (by rw[hm,Int.natCast_mul]) hm64;have W5:IntKind.u64.wrap (IntKind.u64.wrap (4294967296*(rr:Int))+(v0:Int))=(t:Int):=by rw[IntKind.wrap_u64,IntKind.wrap_u64];omega
     have HMT:=h_ (⟨hm,ht⟩:_/\_);clear hm hm64;by_cases hC:t<m
     .have t5:decide ((t:Int)<(m:Int))=true:=decide_eq_true (by omega);have t6:decide (t<m)=true:=decide_eq_true hC;have HCC:=h_ (Or.inr (by rw[<-HMT.o.1,<-HMT.o.2];exact hC):4294967296<=qq\/4294967296*rr+v0<qq*y0);have W3:IntKind.u64.wrap ((qq:Int)-1)=(qn:Int):=Jy (by
       have:=HQN.o;have hq0:qq≠0:=by intro h0;rw[HMT.o.1,h0,Nat.zero_mul]at hC;omega
       omega) (by have:=HQN.o;have:=hh.o.2.2;omega)
      clear hA hrr ht hC;obtain⟨p1,p2,p3⟩:=Tz hh.o.1 hv0b (by omega) hy0b (HYy.o▸hU2Y) HCC.o;by_cases hD:4294967296<=rn
      .have t3:decide ((4294967296:Int)<=(rn:Int))=true:=decide_eq_true (by omega);have t4:decide (4294967296<=rn)=true:=decide_eq_true hD;have E:qn=Q0:=by rw[HQN.o,HQ0.o,HYy.o];exact p3 (by rw[<-HRN.o];exact hD)
       clear hD p1 p2 p3;obtain rfl:=E;go_wp2_with fail
       (go_ret2;exact⟨(show Ending.returned (.tuple #[.int .u64 ((Q1:Int)*4294967296+_),.int .u64 (R:Int)])=_ from by rw[HTT.o]),Below.refl _ _⟩)
      .have t3:decide ((4294967296:Int)<=(rn:Int))=false:=decide_eq_false (by omega);have t4:decide (4294967296<=rn)=false:=decide_eq_false hD;have HP:=h_ (⟨p1,p2,p3⟩:_/\_/\_);have HDD:=h_ hD;clear hD p1 p2 p3;go_wp2_with fail;go_round
       case rel=>exact⟨qn,rn,rfl,rfl,h_ ⟨by rw[HQN.o,HRN.o];exact HP.o.2.1,by have:=HDD.o;omega,by have:=HQN.o;have:=hh.o.2.2;omega⟩⟩
       case measure=>have:=HQN.o;have:=HP.o.1;simp[intOf];omega
     .have t5:decide ((t:Int)<(m:Int))=false:=decide_eq_false (by omega);have t6:decide (t<m)=false:=decide_eq_false hC;have E:qq=Q0:=by rw[HQ0.o,HYy.o];exact So hh.o.1 (by omega) (by rw[<-HMT.o.1,<-HMT.o.2];omega)
      clear hA hrr ht hC;obtain rfl:=E;go_wp2_with fail
      (go_ret2;exact⟨(show Ending.returned (.tuple #[.int .u64 ((Q1:Int)*4294967296+_),.int .u64 (R:Int)])=_ from by rw[HTT.o]),Below.refl _ _⟩)
structure Rw(w0 w:World)(v:Value)(n:Nat)(xs:List Value):Prop where
 len:xs.length=n*3
 rep:(v=.slice none 0 0/\n=0)\/∃g cap cur,v=.slice (some ⟨g,0,none⟩) n cap/\w0.heap.size<=g/\Qi w g 42 cur/\n<=cap/\cap<=maxLen/\cur.size=cap*3/\cur.toList.take (n*3)=xs/\Vt cur=true
def Rn(bs:List (Nat×TypeId×Array Value))(v:Value):Prop:=∀(i g:Nat) t cs,bs[i]?=some (g,t,cs)->v.ownBlock≠some g
theorem Rw.nil(w0 w:World):Rw w0 w (.slice none 0 0) 0 []:=⟨rfl,.inl ⟨rfl,rfl⟩⟩
theorem Rn.nil(bs:List (Nat×TypeId×Array Value)):Rn bs (.slice none 0 0):=fun _ _ _ _ _ h=>by simp[Value.ownBlock]at h
theorem Rw.keep{w0 w w':World}{v:Value}{n:Nat}{xs:List Value}(h:Rw w0 w v n xs)(hk:∀g,v.ownBlock=some g->w'.heap[g]?=w.heap[g]?):Rw w0 w' v n xs:=by
 refine⟨h.len,?_⟩;rcases h.rep with h1|⟨g,cap,cur,rfl,h2,h3,h4⟩
 .exact .inl h1
 .exact .inr ⟨g,cap,cur,rfl,h2,(hk g rfl).trans h3,h4⟩
theorem Rw.lt{w0 w:World}{v:Value}{n:Nat}{xs:List Value}(h:Rw w0 w v n xs){g:Nat}(hg:v.ownBlock=some g):g<w.heap.size:=by
 rcases h.rep with⟨rfl,_⟩|⟨g',cap,cur,rfl,h2,h3,h4⟩
 .simp[Value.ownBlock]at hg
 .simp[Value.ownBlock]at hg;subst hg;exact h3.lt
theorem Rw.call{w0 w w':World}{v:Value}{n:Nat}{xs:List Value}(h:Rw w0 w v n xs)(hb:Below w.heap.size w w'):Rw w0 w' v n xs :=
 h.keep fun g hg=>hb.block g (h.lt hg)
theorem Rw.alloc{w0 w:World}{v:Value}{n:Nat}{xs:List Value}(h:Rw w0 w v n xs)(o:Obj):Rw w0 (w.alloc o) v n xs :=
 h.keep fun g hg=>Below.heap_alloc w o g (h.lt hg)
theorem Rn.new{w0 w:World}{bs:List (Nat×TypeId×Array Value)}{v:Value}{n:Nat}{xs:List Value}(h:Rn bs v)(r:Rw w0 w v n xs)(t:TypeId)(cs:Array Value):Rn (bs++[(w.heap.size,t,cs)]) v:=by
 intro i g t' cs' hi hg;rcases Jz hi with hi|⟨rfl,hi⟩
 .exact h i g t' cs' hi hg
 .simp at hi;obtain⟨rfl,rfl,rfl⟩:=hi;exact absurd (r.lt hg) (Nat.lt_irrefl _)
theorem Dt(k:Nat):Vt (Builtin.zeroCells #[.bool false,.slice none 0 0,.int .i64 0] k)=true:=by
 unfold Vt Builtin.zeroCells;rw[List.all_eq_true];intro x hx;rw[Array.mem_toList_iff,Array.mem_map]at hx;obtain⟨a,_,rfl⟩:=hx;have hm:a%(#[Value.bool false,Value.slice none 0 0,Value.int .i64 0]:Array Value).size<3:=Nat.mod_lt _ (by decide);generalize a%(#[Value.bool false,Value.slice none 0 0,Value.int .i64 0]:Array Value).size=r at hm;rcases r with _|_|_|r
 .rfl
 .rfl
 .rfl
 .omega
theorem Tq{a b:Array Value}(ha:Vt a=true)(hb:Vt b=true):Vt (a++b)=true:=by
 unfold Vt at *
 rw[Array.toList_append,List.all_append,ha,hb];rfl
theorem Ds{l:List Value}(h:l.all Zt=true)(k:Nat):(l.take k).all Zt=true:=by
 rw[List.all_eq_true]at *
 exact fun x hx=>h x (List.mem_of_mem_take hx)
theorem Qc2{l:List Value}(h:l.all Zt=true)(k:Nat):(l.drop k).all Zt=true:=by
 rw[List.all_eq_true]at *
 exact fun x hx=>h x (List.mem_of_mem_drop hx)
theorem Kp.blocks{w w':World}{g:Nat}{t:TypeId}{cur:Array Value}(hg:Qi w g t cur)(hn:Vt cur=true)(hk:∀k,k<w.heap.size->k≠g->w'.heap[k]?=w.heap[k]?):Kp w w':=by
 intro b o k z hkz hc;by_cases hb:b=g
 .subst hb;exfalso;rw[hg.cell o]at hc;have:=Qa2 hn hc;rcases hkz with rfl|rfl<;>simp[Zt]at this
 .exact(World.cell?_of_block (hk b (Wu hc) hb)).trans hc
theorem Qcu{P:Program}{w0 w:World}{bs:List (Nat×TypeId×Array Value)}{v:Value}{n:Nat}{xs:List Value}(F:Fx w0 w bs)(R:Rw w0 w v n xs)(N:Rn bs v)
  (t ty:TypeId) (i:TypeInfo) (ht:P.underlying t=some (.slice 42)) (hi:P.info? 42=some i) (hz:i.zero=some (.agg #[.bool false,.slice none 0 0,.int .i64 0])) (hsize:i.size=3) (hby:i.bytes<=64)
  (a:Addr) (c:Nat) (x y z:Value) (hnews:∀j u,[x,y,z][j]?=some u->w.cell? (a.add j)=some u) (h1:∀u∈[x,y,z],u.oneCell'=true) (hl:[x,y,z].all Zt=true) (hn:n<=1000) :
  ∃v' w',(Builtin.append_ #[t,t] ty #[v,.slice (some a) 1 c]).run P w=.ok v' w'/\Fx w0 w' bs/\Rw w0 w' v' (n+1) (xs++[x,y,z])/\Rn bs v'/\Kp w w':=by
 have hsm:n+1<=maxLen:=by simp only[maxLen];omega
 have hzc:(Value.agg #[.bool false,.slice none 0 0,.int .i64 0]).cells=#[.bool false,.slice none 0 0,.int .i64 0]:=rfl;have hl0:([x,y,z]:List Value).length=1*i.size:=by rw[hsize];rfl
 have fresh:∀(cs:Array Value) (cap:Nat),n+1<=cap->cap<=maxLen->cs.size=cap*3->cs.toList.take ((n+1)*3)=xs++[x,y,z]->Vt cs=true ->
   Fx w0 (w.drew.alloc (.cells cs 42)) bs/\Rw w0 (w.drew.alloc (.cells cs 42)) (.slice (some ⟨w.heap.size,0,none⟩) (n+1) cap) (n+1) (xs++[x,y,z])/\Rn bs (.slice (some ⟨w.heap.size,0,none⟩) (n+1) cap)/\Kp w (w.drew.alloc (.cells cs 42)):=by
  intro cs cap k1 k2 k3 k4 k5;refine⟨F.drew.alloc _,⟨by rw[List.length_append,R.len];simp;omega,.inr ⟨w.heap.size,cap,cs,rfl,F.b.size,Qi.new w.drew 42 cs,k1,k2,k3,k4,k5⟩⟩,?_,?_⟩
  .intro j g t' cs' hj he;simp[Value.ownBlock]at he;have:=(F.box j g t' cs' hj).lt;omega
  .exact(Kp.drew w).trans (Kp.alloc _ _)
 rcases R.rep with⟨rfl,rfl⟩|⟨g,cap,cur,rfl,hbg,hg,hnc,hcm,hcs,htake,hnl⟩
 .obtain rfl:xs=[]:=List.eq_nil_of_length_eq_zero (by simpa using R.len);have hr:=run_append_nil (P:=P) w t ty 42 i _ ht hi hz a 1 c [x,y,z] hl0 hnews (by omega) (by omega) (by omega);have hge:=grownCap_ge w 1 0 42;have hcm:=grownCap_le_maxLen w 1 0 42 (by simp only[maxLen];omega);refine⟨_,_,hr,?_⟩;have:=fresh (([x,y,z]:List Value).toArray++Builtin.zeroCells (Value.agg #[.bool false,.slice none 0 0,.int .i64 0]).cells (grownCap w 1 0 42-1)) (grownCap w 1 0 42) (by omega) hcm
   (by rw[hzc];simp only[Array.size_append,List.size_toArray,size_zeroCells];simp;omega) (by rw[hzc];simp) (Tq (by exact hl) (by rw[hzc];exact Dt _))
  exact this
 .by_cases hroom:n+1<=cap
  .have hfit:n*i.size+([x,y,z]:List Value).length<=cur.size:=by rw[hsize,hcs];simp;omega
   have hr:=run_append_room (P:=P) w t ty 42 i ht hi g n cap cur hg a 1 c [x,y,z] hl0 hnews h1 hroom hfit;rw[hsize,htake]at hr;have hset:=setRow_heap w g cur (xs++[x,y,z]++cur.toList.drop (n*3+([x,y,z]:List Value).length)).toArray 42 (0,0) hg;have hoth:∀k,k<w.heap.size->k≠g->(w.setRow g (xs++[x,y,z]++cur.toList.drop (n*3+([x,y,z]:List Value).length)).toArray).heap[k]?=w.heap[k]?:=fun k _ hk=>setRow_other w g k _ hk;refine⟨_,_,hr,?_,?_,?_,?_⟩
   .refine⟨?_,?_,F.low,F.asc,F.nl⟩
    .have hg2:World.grownBy w (w.setRow g (xs++[x,y,z]++cur.toList.drop (n*3+([x,y,z]:List Value).length)).toArray) (some g):=⟨rfl,rfl,rfl,by simp[World.setRow],fun k hk hne=>hoth k hk (fun e=>hne (by rw[e]))⟩
     exact F.b.grown hg2 F.b.size (fun j hj=>by cases hj;exact hbg)
    .intro j g' t' cs' hj;have hne:g'≠g:=fun e=>N j g' t' cs' hj (by simp[Value.ownBlock,e]);exact(hoth g' (F.box j g' t' cs' hj).lt hne).trans (F.box j g' t' cs' hj)
   .refine⟨by rw[List.length_append,R.len];simp;omega,.inr ⟨g,cap,_,rfl,hbg,hset,hroom,hcm,?_,?_,?_⟩⟩
    .have hxl:=R.len;simp only[List.size_toArray,List.length_append,List.length_drop,Array.length_toList];simp at hfit |-;omega
    .have hxl:(xs++[x,y,z]).length=(n+1)*3:=by rw[List.length_append,R.len];simp;omega
     rw[<-hxl];exact List.take_left
    .show(xs++[x,y,z]++cur.toList.drop (n*3+([x,y,z]:List Value).length)).all Zt=true;rw[List.all_append,List.all_append,hl,<-htake,Ds hnl,Qc2 hnl];rfl
   .intro j g' t' cs' hj he;simp[Value.ownBlock]at he;exact N j g' t' cs' hj (by simp[Value.ownBlock,he])
   .exact Kp.blocks hg hnl hoth
  .have holds:∀j u,xs[j]?=some u->w.cell? ((⟨g,0,none⟩:Addr).add j)=some u:=by
    intro j u hu;have hadd:(⟨g,0,none⟩:Addr).add j=⟨g,j,none⟩:=by unfold Addr.add;split<;>simp_all
    rw[hadd,hg.cell j];rw[<-htake,List.getElem?_take]at hu;split at hu
    .simpa using hu
    .cases hu
   have hr:=run_append_grow (P:=P) w t ty 42 i _ ht hi hz ⟨g,0,none⟩ n cap xs (by rw[R.len,hsize]) holds a 1 c [x,y,z] hl0 hnews (by omega) (by omega) (growslice_fits (by omega) (by have:=Nat.mul_le_mul (show n+1<=1001 by omega) hby;omega));have hge:=grownCap_ge w (n+1) cap 42;have hcm2:=grownCap_le_maxLen w (n+1) cap 42 hsm;refine⟨_,_,hr,?_⟩;have hxl:(xs++[x,y,z]).length=(n+1)*3:=by rw[List.length_append,R.len];simp;omega
   have:=fresh (xs.toArray++([x,y,z]:List Value).toArray++Builtin.zeroCells (Value.agg #[.bool false,.slice none 0 0,.int .i64 0]).cells (grownCap w (n+1) cap 42-(n+1))) (grownCap w (n+1) cap 42) hge hcm2
    (by rw[hzc];simp only[Array.size_append,List.size_toArray,size_zeroCells,R.len];simp;omega)
    (by rw[hzc];simp only[Array.toList_append];rw[show(xs.toArray.toList++([x,y,z]:List Value).toArray.toList)=xs++[x,y,z]by simp,<-hxl];exact List.take_left)
    (Tq (Tq (by show xs.all Zt=true;rw[<-htake];exact Ds hnl _) (by exact hl)) (by rw[hzc];exact Dt _))
   exact this
theorem Ui{P:Program}{w0 w:World}{ops:Array Oper}{rest:List Oper}{o:Oper}{a:Act}{Q:Exit->Act->World->Prop}(hgd:o.guard=none)(s x:Operand)(t:TypeId)
  (ho:o.op=.call { callee:=.builtin .append,args:=#[s,x],argTypes:=#[t,t] })
  (ht:P.underlying t=some (.slice 42)) (hi:(P.info? 42).map (fun i=>(i.zero,i.size,i.bytes))=some (some (.agg #[.bool false,.slice none 0 0,.int .i64 0]),3,40))
  {bs:List (Nat×TypeId×Array Value)} {v:Value} {n:Nat} {xs:List Value} (F:Fx w0 w bs) (R:Rw w0 w v n xs) (N:Rn bs v) (hs:a.eval s=v) (c:Nat) (x1 x2 x3:Value) (hx:a.eval x=.slice (some ⟨w.heap.size,0,none⟩) 1 c)
  (h1:∀u∈[x1,x2,x3],u.oneCell'=true) (hl:[x1,x2,x3].all Zt=true) (hn:n<=1000)
  (h:∀v' w',Fx w0 w' bs->Rw w0 w' v' (n+1) (xs++[x1,x2,x3])->Rn bs v'->Kp w w'->wpList P ops Q rest (a.put o.dst v') w') :
  wpList P ops Q (o :: rest) a (w.alloc (.cells #[x1,x2,x3] 42)):=by
 obtain⟨i0,hi,hz0,hz1,hz2⟩:=info_parts hi;refine wpList_plain hgd fun K hK=>?_;have hcell:∀j u,[x1,x2,x3][j]?=some u->(w.alloc (.cells #[x1,x2,x3] 42)).cell? ((⟨w.heap.size,0,none⟩:Addr).add j)=some u:=by
  intro j u hu;have hadd:(⟨w.heap.size,0,none⟩:Addr).add j=⟨w.heap.size,j,none⟩:=by unfold Addr.add;split<;>simp_all
  rw[hadd,(Qi.new w 42 #[x1,x2,x3]).cell j];simpa using hu
 obtain⟨v',w',hr,h2,h3,h4,h5⟩:=Qcu (P:=P) (F.alloc (.cells #[x1,x2,x3] 42)) (R.alloc _) N t o.type i0 ht hi hz0 hz1 (by omega) ⟨w.heap.size,0,none⟩ c x1 x2 x3 hcell h1 hl hn;unfold Oper.wp execOp;simp only[ho,resolve,invoke,builtin,Sem.run_bind,Sem.run_pure,Result.andThen_ok,List.map_toArray,List.map_cons,List.map_nil,hs,hx,hr];exact hK _ _ (h v' w' h2 h3 h4 ((Kp.alloc _ _).trans h5))
structure Tw(X:World->Prop)(B gu gv Nu cu Nv cv:Nat)(w0 wr:World)(U V:List Nat):Prop where
 u:wr.ownsRow B 22 1 (.slice (some ⟨gu,0,none⟩) Nu cu) Nu (Qz U)
 v:wr.ownsRow B 22 1 (.slice (some ⟨gv,0,none⟩) Nv cv) Nv (Qz V)
 ne:gu≠gv
 du:Ql U
 dv:Ql V
 gB:B<=gu
 b:Below B w0 wr
 x:X wr
 st:∀w k u,X w->X (w.setCell ⟨gu,k,none⟩ u)
theorem Tw.set{X:World->Prop}{B gu gv Nu cu Nv cv:Nat}{w0 wr:World}{U V:List Nat}(h:Tw X B gu gv Nu cu Nv cv w0 wr U V)(k:Nat){x:Nat}(hx:x<18446744073709551616)(u:Value)(hu:u=.int .u64 (x:Int)) :
  Tw X B gu gv Nu cu Nv cv w0 (wr.setCell ⟨gu,k,none⟩ u) (U.set k x) V:=by
 subst hu;refine⟨?_,?_,h.ne,h.du.set hx,h.dv,h.gB,h.b.setCell h.gB _,h.st _ _ _ h.x,h.st⟩
 .rw[<-Wi];exact(h.u.stored k _).1
 .refine ownsRow_setCell_other h.v ?_ _;simp only[Value.ownBlock];intro e;exact h.ne (Option.some.inj e).symm
theorem Tw.lenU{X:World->Prop}{B gu gv Nu cu Nv cv:Nat}{w0 wr:World}{U V:List Nat}(h:Tw X B gu gv Nu cu Nv cv w0 wr U V):U.length=Nu:=Zn h.u
theorem Tw.lenV{X:World->Prop}{B gu gv Nu cu Nv cv:Nat}{w0 wr:World}{U V:List Nat}(h:Tw X B gu gv Nu cu Nv cv w0 wr U V):V.length=Nv:=Zn h.v
theorem Tw.uAt{X:World->Prop}{B gu gv Nu cu Nv cv:Nat}{w0 wr:World}{U V:List Nat}(h:Tw X B gu gv Nu cu Nv cv w0 wr U V){k:Nat}(hk:k<Nu):wr.cell? ⟨gu,k,none⟩=some (.int .u64 (dg U k:Nat)):=by rw[h.u.cellAt k (by omega)];exact Jj (Qu (by rw[h.lenU];exact hk))
theorem Tw.vAt{X:World->Prop}{B gu gv Nu cu Nv cv:Nat}{w0 wr:World}{U V:List Nat}(h:Tw X B gu gv Nu cu Nv cv w0 wr U V){k:Nat}(hk:k<Nv):wr.cell? ⟨gv,k,none⟩=some (.int .u64 (dg V k:Nat)):=by rw[h.v.cellAt k (by omega)];exact Jj (Qu (by rw[h.lenV];exact hk))
theorem Tw.fz{X:World->Prop}{B gu gv Nu cu Nv cv:Nat}{w0 wr:World}{U V:List Nat}(h:Tw X B gu gv Nu cu Nv cv w0 wr U V)(k:Nat):wr.frozen? ⟨gu,k,none⟩=false:=h.u.frozenAt k
theorem Al{o l2 b z b' R:Nat}(hR:R=18446744073709551616)(ho:o<R)(hl:l2<R)(hb:b<=1)(h1:z=(o+R-l2-b)%R)(h2:b'=if o<l2+b then 1 else 0):z+(l2+b)=o+R*b'/\z<R/\b'<=1:=by
 by_cases h:o<l2+b
 .rw[if_pos h]at h2;have:o+R-l2-b<R:=by omega
  rw[Nat.mod_eq_of_lt this]at h1;subst h2 hR;omega
 .rw[if_neg h]at h2;have e:o+R-l2-b=(o-l2-b)+R:=by omega
  rw[e,Nat.add_mod_right,Nat.mod_eq_of_lt (by omega)]at h1;subst h2 hR;omega
theorem Qcl{o y d cy b R hi lo l2 c1 z b':Nat}(hR:R=18446744073709551616)(ho:o<R)(hy:y<R)(hd:d<R)(hc:cy<R)(hb:b<=1)(h1:hi=y*d/R)(h2:lo=y*d%R)(h3:l2=(lo+cy+0)%R)(h4:c1=(lo+cy+0)/R)
  (h5:z=(o+R-l2-b)%R) (h6:b'=if o<l2+b then 1 else 0) :
  z+(y*d+cy+b)=o+R*(hi+c1+b')/\hi+c1<R/\c1<=1/\z<R/\l2<R/\lo<R/\b'<=1:=by
 have h7:y*d<=(R-1)*(R-1):=Nat.mul_le_mul (by omega) (by omega);have h8:R*hi+lo=y*d:=by rw[h1,h2];exact Nat.div_add_mod _ _
 have h9:lo<R:=by rw[h2];exact Nat.mod_lt _ (by omega)
 have h10:R*c1+l2=lo+cy:=by rw[h3,h4];have:=Nat.div_add_mod (lo+cy+0) R;omega
 have h12:l2<R:=by rw[h3];exact Nat.mod_lt _ (by omega)
 obtain⟨k1,k2,k3⟩:=Al hR ho h12 hb h5 h6;generalize y*d=p at *
 clear h1 h2 h3 h4 h5 h6;subst hR;omega
structure H6(i n d:Nat)(U0 V:List Nat)(O:List Nat)(j c b:Nat):Prop where
 sum:Qc O+18446744073709551616^i*(Qc (V.take j)*d)=Qc U0+18446744073709551616^(i+j)*(c+b)
 low:∀t,t<i->dg O t=dg U0 t
 high:∀t,i+j<=t->dg O t=dg U0 t
theorem H6.step{i n d:Nat}{U0 V O:List Nat}{j c b:Nat}(h:H6 i n d U0 V O j c b)(hl:i+j<O.length){z c' b':Nat}(hz:z+(dg V j*d+c+b)=dg O (i+j)+18446744073709551616*(c'+b')) :
  H6 i n d U0 V (O.set (i+j) z) (j+1) c' b':=by
 refine⟨?_,fun t ht=>?_,fun t ht=>?_⟩
 .have h1:=Jw O (i+j) z hl;have h2:=h.sum;rw[Xc,Nat.add_mul,Nat.mul_add,show i+(j+1)=i+j+1 by omega,Nat.pow_succ,Nat.mul_assoc (18446744073709551616^j),<-Nat.mul_assoc (18446744073709551616^i) (18446744073709551616^j),<-Nat.pow_add];have h3:18446744073709551616^(i+j)*(z+(dg V j*d+c+b))=18446744073709551616^(i+j)*(dg O (i+j)+18446744073709551616*(c'+b')):=by rw[hz]
  rw[Nat.mul_add,Nat.mul_add,Nat.mul_add,Nat.mul_add,<-Nat.mul_assoc (18446744073709551616^(i+j)) 18446744073709551616]at h3;rw[Nat.mul_add]at h2;omega
 .rw[Wc _ _ _ _ (by omega)];exact h.low t ht
 .rw[Wc _ _ _ _ (by omega)];exact h.high t (by omega)
theorem H6.last{i n d:Nat}{U0 V O:List Nat}{c b:Nat}(h:H6 i n d U0 V O n c b)(hl:i+n<O.length){z b':Nat}(hz:z+(c+b)=dg O (i+n)+18446744073709551616*b') :
  Qc (O.set (i+n) z)+18446744073709551616^i*(Qc (V.take n)*d)=Qc U0+18446744073709551616^(i+n+1)*b'/\(∀t,t<i->dg (O.set (i+n) z) t=dg U0 t)/\(∀t,i+n<t->dg (O.set (i+n) z) t=dg U0 t):=by
 refine⟨?_,fun t ht=>?_,fun t ht=>?_⟩
 .have h1:=Jw O (i+n) z hl;have h2:=h.sum;have h3:18446744073709551616^(i+n)*(z+(c+b))=18446744073709551616^(i+n)*(dg O (i+n)+18446744073709551616*b'):=by rw[hz]
  rw[Nat.mul_add,Nat.mul_add,Nat.mul_add,<-Nat.mul_assoc (18446744073709551616^(i+n)) 18446744073709551616]at h3;rw[Nat.mul_add]at h2;rw[Nat.pow_succ];omega
 .rw[Wc _ _ _ _ (by omega)];exact h.low t ht
 .rw[Wc _ _ _ _ (by omega)];exact h.high t (by omega)
theorem Am(x y b:Nat)(hb:b<=1){z c:Nat}(hz:z=(x+18446744073709551616-y-b)%18446744073709551616)(hc:c=if x<y+b then 1 else 0)(w:World) :
  (callFunc 186 #[.int .u64 (x:Int),.int .u64 (y:Int),.int .u64 (b:Int)]).run Tryz.prog w=.ok (.value (.tuple #[.int .u64 (z:Int),.int .u64 (c:Int)])) w:=by
 rw[hz,hc];exact Qei x y b hb w
def Oa(X:World->Prop)(B gu gv Nu cu Nv cv i n d:Nat)(U V:List Nat)(w0:World)(e:Ending)(w':World):Prop :=
 ∃(c:Nat) (O:List Nat),e=.returned (.bool (decide (0<c)))/\c<=1/\Tw X B gu gv Nu cu Nv cv w0 w' O V /\
  Qc O+18446744073709551616^i*(Qc (V.take n)*d)=Qc U+18446744073709551616^(i+n+1)*c/\(∀t,t<i->dg O t=dg U t)/\(∀t,i+n<t->dg O t=dg U t)
theorem Qcm{X:World->Prop}{B gu gv Nu cu Nv cv i n d cc:Nat}{U V:List Nat}{w0 w:World}(h:Tw X B gu gv Nu cu Nv cv w0 w U V)(hiN:i+n<Nu)(hnV:n<=Nv)(hN:Nu<=300000)(hd:d<18446744073709551616) :
  Calls Tryz.prog 189 #[.slice (some ⟨gu,i,none⟩) (n+1) cc,.slice (some ⟨gv,0,none⟩) n cv,.int .u64 (d:Int)] w (Oa X B gu gv Nu cu Nv cv i n d U V w0):=by
 have HI:Qb (Tw X B gu gv Nu cu Nv cv w0 w U V/\H6 i n d U V U 0 0 0):=⟨h,by simp[Qc],fun t _=>rfl,fun t _=>rfl⟩
 obtain⟨M,hM⟩:∃M,M=n+1:=⟨_,rfl⟩
 rw[<-hM];have hnM:n<M:=by omega
 clear h hM;go_enter Tryz.func189,Tryz.ntmps189;go_wp2
 go_loopw [7,8,17] (fun cy bo ix wr=>∃(j c b:Nat) (O:List Nat),ix=.int .i64 j/\cy=.int .u64 c/\bo=.int .u64 b/\j<=n/\c<18446744073709551616/\b<=1/\Qb (Tw X B gu gv Nu cu Nv cv w0 wr O V/\H6 i n d U V O j c b)) (fun _ _ ix _=>n-(intOf ix).toNat)
 case atStart=>exact⟨0,0,0,U,rfl,rfl,rfl,by omega,by omega,by omega,HI⟩
 case round =>
  obtain⟨j,cy,b,O,rfl,rfl,rfl,hj,hcy,hb,hh⟩:=hrel;by_cases hlt:j<n
  .have hm2:j<M:=by omega
   have hfz:=hh.o.1.fz (i+j);have hxo:=hh.o.1.uAt (k:=i+j) (by omega);have hxa:=hh.o.1.vAt (k:=j) (by omega);have d1:=Qy hh.o.1.dv j;have d2:=Qy hh.o.1.du (i+j);have HST:Qb (∀z c' b',z<18446744073709551616->z+(dg V j*d+cy+b)=dg O (i+j)+18446744073709551616*(c'+b')->∀u,u=.int .u64 (z:Int)->Tw X B gu gv Nu cu Nv cv w0 (wr.setCell ⟨gu,i+j,none⟩ u) (O.set (i+j) z) V/\H6 i n d U V (O.set (i+j) z) (j+1) c' b') :=
    fun z c' b' h1 h2 u h3=>⟨hh.o.1.set (i+j) h1 u h3,hh.o.2.step (by rw[hh.o.1.lenU];omega) h2⟩
   generalize dg V j=y at *
   generalize dg O (i+j)=o at *
   obtain⟨hi,ehi⟩:∃hi,hi=y*d/18446744073709551616:=⟨_,rfl⟩
   obtain⟨lo',elo⟩:∃lo',lo'=y*d%18446744073709551616:=⟨_,rfl⟩
   obtain⟨l2,el2⟩:∃l2,l2=(lo'+cy+0)%18446744073709551616:=⟨_,rfl⟩
   obtain⟨c1,ec1⟩:∃c1,c1=(lo'+cy+0)/18446744073709551616:=⟨_,rfl⟩
   obtain⟨z,ez⟩:∃z,z=(o+18446744073709551616-l2-b)%18446744073709551616:=⟨_,rfl⟩
   obtain⟨b',eb⟩:∃b',b'=if o<l2+b then 1 else 0:=⟨_,rfl⟩
   obtain⟨k1,k2,k3,k4,k5,k6,k7⟩:=Qcl rfl d2 d1 hd hcy hb ehi elo el2 ec1 ez eb;have M1:=h_ (fun w=>Mw y d d1 hd w);rw[<-ehi,<-elo]at M1;have A1:=fun w=>Rq lo' cy w;rw[<-el2,<-ec1]at A1;have A2:=fun w=>Am o l2 b hb ez eb w;have W1:IntKind.u64.wrap ((hi:Int)+c1)=((hi+c1:Nat):Int):=by rw[IntKind.wrap_u64];omega
   obtain⟨hs,ehs⟩:∃hs,hs=hi+c1:=⟨_,rfl⟩
   rw[<-ehs]at W1 k1 k2;have HO:=h_ (HST.o z hs b' k4 k1 _ rfl);clear ehi elo el2 ec1 ez eb k1 k3 k4 k5 k6 HST ehs;go_wp2_with fail;refine(M1.o _).mono ?_;rintro e w2 ⟨rfl,rfl⟩;go_wp2;go_roundw
   case rel=>exact⟨j+1,hs,b',_,by go_num,rfl,rfl,by omega,k2,k7,HO⟩
   case measure=>simp[intOf];omega
  .obtain rfl:j=n:=by omega
   have hfz:=hh.o.1.fz (i+j);have hxo:=hh.o.1.uAt (k:=i+j) (by omega);have d2:=Qy hh.o.1.du (i+j);obtain⟨z,ez⟩:∃z,z=(dg O (i+j)+18446744073709551616-cy-b)%18446744073709551616:=⟨_,rfl⟩
   obtain⟨b',eb⟩:∃b',b'=if dg O (i+j)<cy+b then 1 else 0:=⟨_,rfl⟩
   obtain⟨k1,k2,k3⟩:=Al rfl d2 hcy hb ez eb;have HE:Qb (∀u,u=.int .u64 (z:Int)->Oa X B gu gv Nu cu Nv cv i j d U V w0 (.returned (.bool (decide (0<b')))) (wr.setCell ⟨gu,i+j,none⟩ u)) :=
    fun u hu=>⟨b',_,rfl,k3,hh.o.1.set (i+j) k2 u hu,hh.o.2.last (by rw[hh.o.1.lenU];omega) k1⟩
   have A2:=fun w=>Am (dg O (i+j)) cy b hb ez eb w;have hdec:decide ((0:Int)<(b':Int))=decide (0<b'):=by by_cases h:0<b'<;>simp[h]
   clear ez eb k1 k2 k3;generalize dg O (i+j)=o at *
   go_wp2;refine bodyPost_ret (v:=.bool (decide (0<b'))) (by simp[results,Tryz.results189,go_sem]) rfl ?_;exact HE.o _ rfl
structure H9(i:Nat)(U0 V:List Nat)(O:List Nat)(j c:Nat):Prop where
 sum:Qc O+18446744073709551616^(i+j)*c=Qc U0+18446744073709551616^i*Qc (V.take j)
 low:∀t,t<i->dg O t=dg U0 t
 high:∀t,i+j<=t->dg O t=dg U0 t
theorem H9.step{i:Nat}{U0 V O:List Nat}{j c:Nat}(h:H9 i U0 V O j c)(hl:i+j<O.length){z c':Nat}(hz:z+18446744073709551616*c'=dg O (i+j)+(dg V j+c)) :
  H9 i U0 V (O.set (i+j) z) (j+1) c':=by
 refine⟨?_,fun t ht=>?_,fun t ht=>?_⟩
 .have h1:=Jw O (i+j) z hl;have h2:=h.sum;rw[Xc,Nat.mul_add,show i+(j+1)=i+j+1 by omega,Nat.pow_succ,<-Nat.mul_assoc (18446744073709551616^i) (18446744073709551616^j),<-Nat.pow_add];have h3:18446744073709551616^(i+j)*(z+18446744073709551616*c')=18446744073709551616^(i+j)*(dg O (i+j)+(dg V j+c)):=by rw[hz]
  rw[Nat.mul_add,Nat.mul_add,Nat.mul_add,<-Nat.mul_assoc (18446744073709551616^(i+j)) 18446744073709551616]at h3;omega
 .rw[Wc _ _ _ _ (by omega)];exact h.low t ht
 .rw[Wc _ _ _ _ (by omega)];exact h.high t (by omega)
theorem H9.last{i n:Nat}{U0 V O:List Nat}{c:Nat}(h:H9 i U0 V O n c)(hl:i+n<O.length){z c':Nat}(hz:z+18446744073709551616*c'=dg O (i+n)+(0+c)) :
  Qc (O.set (i+n) z)+18446744073709551616^(i+n+1)*c'=Qc U0+18446744073709551616^i*Qc (V.take n)/\(∀t,t<i->dg (O.set (i+n) z) t=dg U0 t)/\(∀t,i+n<t->dg (O.set (i+n) z) t=dg U0 t):=by
 refine⟨?_,fun t ht=>?_,fun t ht=>?_⟩
 .have h1:=Jw O (i+n) z hl;have h2:=h.sum;have h3:18446744073709551616^(i+n)*(z+18446744073709551616*c')=18446744073709551616^(i+n)*(dg O (i+n)+(0+c)):=by rw[hz]
  rw[Nat.mul_add,Nat.mul_add,Nat.mul_add,Nat.mul_zero,<-Nat.mul_assoc (18446744073709551616^(i+n)) 18446744073709551616]at h3;rw[Nat.pow_succ];omega
 .rw[Wc _ _ _ _ (by omega)];exact h.low t ht
 .rw[Wc _ _ _ _ (by omega)];exact h.high t (by omega)
theorem Er(x y c:Nat)(hc:c<=1){z c':Nat}(hz:z=(x+y+c)%18446744073709551616)(hc':c'=(x+y+c)/18446744073709551616)(w:World) :
  (callFunc 145 #[.int .u64 (x:Int),.int .u64 (y:Int),.int .u64 (c:Int)]).run Tryz.prog w=.ok (.value (.tuple #[.int .u64 (z:Int),.int .u64 (c':Int)])) w:=by
 rw[hz,hc'];exact I0 x y c hc w
theorem Qdx(x c:Nat)(hc:c<=1){z c':Nat}(hz:z=(x+0+c)%18446744073709551616)(hc':c'=(x+0+c)/18446744073709551616)(w:World) :
  (callFunc 145 #[.int .u64 (x:Int),.int .u64 0,.int .u64 (c:Int)]).run Tryz.prog w=.ok (.value (.tuple #[.int .u64 (z:Int),.int .u64 (c':Int)])) w:=Er x 0 c hc hz hc' w
def Qd7(X:World->Prop)(B gu gv Nu cu Nv cv i n:Nat)(U V:List Nat)(w0:World)(e:Ending)(w':World):Prop :=
 ∃(c:Nat) (O:List Nat),e=.returned (.bool (decide (0<c)))/\c<=1/\Tw X B gu gv Nu cu Nv cv w0 w' O V /\
  Qc O+18446744073709551616^(i+n+1)*c=Qc U+18446744073709551616^i*Qc (V.take n)/\(∀t,t<i->dg O t=dg U t)/\(∀t,i+n<t->dg O t=dg U t)
theorem Qfx{X:World->Prop}{B gu gv Nu cu Nv cv i n cc:Nat}{U V:List Nat}{w0 w:World}(h:Tw X B gu gv Nu cu Nv cv w0 w U V)(hiN:i+n<Nu)(hnV:n<=Nv)(hN:Nu<=300000) :
  Calls Tryz.prog 190 #[.slice (some ⟨gu,i,none⟩) (n+1) cc,.slice (some ⟨gv,0,none⟩) n cv] w (Qd7 X B gu gv Nu cu Nv cv i n U V w0):=by
 have HI:Qb (Tw X B gu gv Nu cu Nv cv w0 w U V/\H9 i U V U 0 0):=⟨h,by simp[Qc],fun t _=>rfl,fun t _=>rfl⟩
 obtain⟨M,hM⟩:∃M,M=n+1:=⟨_,rfl⟩
 rw[<-hM];have hnM:n<M:=by omega
 clear h hM;go_enter Tryz.func190,Tryz.ntmps190;go_wp2
 go_loopw [5,11] (fun cy ix wr=>∃(j c:Nat) (O:List Nat),ix=.int .i64 j/\cy=.int .u64 c/\j<=n/\c<=1/\Qb (Tw X B gu gv Nu cu Nv cv w0 wr O V/\H9 i U V O j c)) (fun _ ix _=>n-(intOf ix).toNat)
 case atStart=>exact⟨0,0,U,rfl,rfl,by omega,by omega,HI⟩
 case round =>
  obtain⟨j,cy,O,rfl,rfl,hj,hcy,hh⟩:=hrel;by_cases hlt:j<n
  .have hm2:j<M:=by omega
   have hfz:=hh.o.1.fz (i+j);have hxo:=hh.o.1.uAt (k:=i+j) (by omega);have hxa:=hh.o.1.vAt (k:=j) (by omega);have d1:=Qy hh.o.1.dv j;have d2:=Qy hh.o.1.du (i+j);have HST:Qb (∀z c',z<18446744073709551616->z+18446744073709551616*c'=dg O (i+j)+(dg V j+cy)->∀u,u=.int .u64 (z:Int)->Tw X B gu gv Nu cu Nv cv w0 (wr.setCell ⟨gu,i+j,none⟩ u) (O.set (i+j) z) V/\H9 i U V (O.set (i+j) z) (j+1) c') :=
    fun z c' h1 h2 u h3=>⟨hh.o.1.set (i+j) h1 u h3,hh.o.2.step (by rw[hh.o.1.lenU];omega) h2⟩
   generalize dg V j=y at *
   generalize dg O (i+j)=o at *
   obtain⟨z,ez⟩:∃z,z=(o+y+cy)%18446744073709551616:=⟨_,rfl⟩
   obtain⟨c',ec⟩:∃c',c'=(o+y+cy)/18446744073709551616:=⟨_,rfl⟩
   have A2:=fun w=>Er o y cy hcy ez ec w;have k1:z+18446744073709551616*c'=o+(y+cy):=by omega
   have k2:z<18446744073709551616:=by omega
   have k3:c'<=1:=by omega
   have HO:=h_ (HST.o z c' k2 k1 _ rfl);clear ez ec k1 k2 HST;go_wp2;go_roundw
   case rel=>exact⟨j+1,c',_,by go_num,rfl,by omega,k3,HO⟩
   case measure=>simp[intOf];omega
  .obtain rfl:j=n:=by omega
   have hfz:=hh.o.1.fz (i+j);have hxo:=hh.o.1.uAt (k:=i+j) (by omega);have d2:=Qy hh.o.1.du (i+j);obtain⟨z,ez⟩:∃z,z=(dg O (i+j)+0+cy)%18446744073709551616:=⟨_,rfl⟩
   obtain⟨c',ec⟩:∃c',c'=(dg O (i+j)+0+cy)/18446744073709551616:=⟨_,rfl⟩
   have A2:=fun w=>Qdx (dg O (i+j)) cy hcy ez ec w;have HE:Qb (∀u,u=.int .u64 (z:Int)->Qd7 X B gu gv Nu cu Nv cv i j U V w0 (.returned (.bool (decide (0<c')))) (wr.setCell ⟨gu,i+j,none⟩ u)) :=
    fun u hu=>⟨c',_,rfl,by omega,hh.o.1.set (i+j) (by omega) u hu,hh.o.2.last (by rw[hh.o.1.lenU];omega) (by omega)⟩
   have hdec:decide ((0:Int)<(c':Int))=decide (0<c'):=by by_cases h:0<c'<;>simp[h]
   clear ez ec;generalize dg O (i+j)=o at *
   go_wp2;refine bodyPost_ret (v:=.bool (decide (0<c'))) (by simp[results,Tryz.results190,go_sem]) rfl ?_;exact HE.o _ rfl
def Gd(u2 u1 u0 top nx d:Nat):Prop:=∀q,q<18446744073709551616->q*(top*18446744073709551616+nx)<=(u2*18446744073709551616+u1)*18446744073709551616+u0->q<=d
theorem Gd.max(u2 u1 u0 top nx:Nat):Gd u2 u1 u0 top nx 18446744073709551615:=by intro q h _;omega
theorem Qbg{R u2 u1 u0 top nx q:Nat}(h0:u0<R)(h:q*(top*R+nx)<=(u2*R+u1)*R+u0):q*top<=u2*R+u1:=by
 generalize u2*R+u1=X at *
 rw[Nat.mul_add,<-Nat.mul_assoc]at h;have h1:q*top*R<(X+1)*R:=by rw[Nat.add_mul,Nat.one_mul];omega
 have:=Nat.lt_of_mul_lt_mul_right h1;omega
theorem Gd.first{u2 u1 u0 top nx d:Nat}(h0:u0<18446744073709551616)(ht:0<top)(hd:d=(u2*18446744073709551616+u1)/top):Gd u2 u1 u0 top nx d:=by intro q _ h;rw[hd,Nat.le_div_iff_mul_le ht];exact Qbg h0 h
theorem Gd.less{u2 u1 u0 top nx d r hi lo:Nat}(h:Gd u2 u1 u0 top nx d)(hs:d*top+r=u2*18446744073709551616+u1)(hm:hi*18446744073709551616+lo=d*nx)(hc:r*18446744073709551616+u0<hi*18446744073709551616+lo):0<d/\Gd u2 u1 u0 top nx (d-1):=by
 have h0:0<d:=by
  rcases Nat.eq_zero_or_pos d with h1|h1
  .subst h1;rw[Nat.zero_mul]at hm;omega
  .exact h1
 refine⟨h0,fun q hq hk=>?_⟩;have h2:=h q hq hk;by_cases h3:q=d
 .exfalso;subst h3;rw[<-hs,Nat.mul_add,<-Nat.mul_assoc,Nat.add_mul]at hk;omega
 .omega
def Bj(u2 u1 u0 top nx:Nat)(w:World)(e:Ending)(w':World):Prop:=∃d:Nat,e=.returned (.int .u64 (d:Int))/\d<18446744073709551616/\Gd u2 u1 u0 top nx d/\Below w.heap.size w w'
theorem Qbc{g i n cc u2 u1 u0 top nx:Nat}{w:World}(hn:2<=n)(hn2:n<=300000)(h2:w.cell? ⟨g,i+n,none⟩=some (.int .u64 (u2:Int)))(h1:w.cell? ⟨g,i+(n-1),none⟩=some (.int .u64 (u1:Int)))(h0:w.cell? ⟨g,i+(n-2),none⟩=some (.int .u64 (u0:Int)))
  (b1:u1<18446744073709551616) (b0:u0<18446744073709551616) (bt:top<18446744073709551616) (bx:nx<18446744073709551616) (ht:0<top) :
  Calls Tryz.prog 188 #[.slice (some ⟨g,i,none⟩) (n+1) cc,.int .u64 (top:Int),.int .u64 (nx:Int)] w (Bj u2 u1 u0 top nx w):=by
 obtain⟨M,hM⟩:∃M,M=n+1:=⟨_,rfl⟩
 obtain⟨p1,hp1⟩:∃p,p=n-1:=⟨_,rfl⟩
 obtain⟨p2,hp2⟩:∃p,p=n-2:=⟨_,rfl⟩
 have hnM:n<M:=by omega
 have hp1M:p1<M:=by omega
 have hp2M:p2<M:=by omega
 have hp1B:p1<=300000:=by omega
 have hp2B:p2<=300000:=by omega
 have v0:(M:Int)-1=(n:Int):=by omega
 have v1:(n:Int)-1=(p1:Int):=by omega
 have v2:(n:Int)-2=(p2:Int):=by omega
 have i1:IntKind.i64.wrap (p1:Int)=(p1:Int):=IntWalk.i64_in _ (by omega);have i2:IntKind.i64.wrap (p2:Int)=(p2:Int):=IntWalk.i64_in _ (by omega);rw[<-hp1]at h1;rw[<-hp2]at h0;rw[<-hM];have e2:=h2;have e1:=h1;have e0:=h0;have d2:w.drew.cell? ⟨g,i+n,none⟩=some (.int .u64 (u2:Int)):=h2;have d1:w.drew.cell? ⟨g,i+p1,none⟩=some (.int .u64 (u1:Int)):=h1;have H0:=h_ h0;clear hM hp1 hp2 hn h2 h1 h0 e0;by_cases hge:top<=u2
 .have z1:decide ((top:Int)<=(u2:Int))=true:=decide_eq_true (by omega);have z2:decide (top<=u2)=true:=decide_eq_true hge;clear hge H0;go_enter Tryz.func188,Tryz.ntmps188;go_wp2;refine bodyPost_ret (v:=.int .u64 18446744073709551615) (by simp[results,Tryz.results188,go_sem]) rfl ?_;exact⟨18446744073709551615,rfl,by decide,Gd.max u2 u1 u0 top nx,Below.refl _ _⟩
 .have z1:decide ((top:Int)<=(u2:Int))=false:=decide_eq_false (by omega);have z2:decide (top<=u2)=false:=decide_eq_false hge;have CD:=h_ (fun w=>Fh u2 u1 top (by omega) bt b1 w);obtain⟨q0,hq0⟩:∃q,q=(u2*18446744073709551616+u1)/top:=⟨_,rfl⟩
  obtain⟨r0,hr0⟩:∃r,r=(u2*18446744073709551616+u1)%top:=⟨_,rfl⟩
  rw[<-hq0,<-hr0]at CD;have hr1:r0<top:=hr0▸Nat.mod_lt _ ht;have hq1:q0<18446744073709551616:=by rw[hq0];refine Nat.div_lt_of_lt_mul ?_;have:(u2+1)*18446744073709551616<=top*18446744073709551616:=Nat.mul_le_mul_right _ (by omega);rw[Nat.add_mul]at this;omega
  have HG:Qb (Gd u2 u1 u0 top nx q0/\q0*top+r0=u2*18446744073709551616+u1):=⟨Gd.first b0 ht hq0,by rw[hq0,hr0,Nat.mul_comm];exact Nat.div_add_mod _ _⟩
  have hr2:r0<18446744073709551616:=by omega
  have HQ:=h_ hq1;have HR:=h_ hr2;have HT:=h_ (And.intro b0 (And.intro bt bx));clear hge hq0 hr0 hr1 hq1 hr2 ht b1;go_enter Tryz.func188,Tryz.ntmps188;go_upto_region 4 with(fail)
  have FC:=h_ (And.intro d2 d1)
  go_region_held3 (fun w'=>w'.cell? ⟨g,i+n,none⟩=some (.int .u64 (u2:Int))/\w'.cell? ⟨g,i+p1,none⟩=some (.int .u64 (u1:Int))) (first|with_reducible exact FC.o|with_reducible exact FC2.o) (first|(go_at_call 148;(with_reducible refine(CD.o _).mono ?_);rintro q ww1 ⟨rfl,hb⟩;have B1:=h_ hb;have Z1:=h_ (Qj hb (Nat.le_refl _) (show w.drew.cell? ⟨g,i+p2,none⟩=some (.int .u64 (u0:Int))from H0.o));have FC2:=h_ (And.intro (Qj hb (Nat.le_refl _) FC.o.1) (Qj hb (Nat.le_refl _) FC.o.2))))
  have HN:=h_ (And.intro d2 d1);clear FC d2 d1 e2 e1 H0 CD;have HB:Qb (Below w.heap.size w ww1):=(Qw (Below.refl w.heap.size w) 1).trans B1.o;go_wp2
  go_loopw [8,9] (fun tq tr wr=>∃q r:Nat,tq=.int .u64 (q:Int)/\tr=.int .u64 (r:Int)/\q<18446744073709551616/\r<18446744073709551616/\Qb (Gd u2 u1 u0 top nx q/\q*top+r=u2*18446744073709551616+u1)/\Qb (wr.cell? ⟨g,i+p2,none⟩=some (.int .u64 (u0:Int)))/\Qb (Below w.heap.size w wr)) (fun tq _ _=>(intOf tq).toNat)
  case atStart=>exact⟨q0,r0,rfl,rfl,HQ.o,HR.o,HG,Z1,HB⟩
  case round =>
   obtain⟨q,r,rfl,rfl,hq,hr,hG,hZ,hB⟩:=hrel;obtain⟨b0,bt,bx⟩:=HT.o;have CM:=h_ (fun w=>Mw q nx hq bx w);obtain⟨hi,ehi⟩:∃hi,hi=q*nx/18446744073709551616:=⟨_,rfl⟩
   obtain⟨lo',elo⟩:∃lo',lo'=q*nx%18446744073709551616:=⟨_,rfl⟩
   rw[<-ehi,<-elo]at CM;have HM:Qb (hi*18446744073709551616+lo'=q*nx):=by rw[Qb,ehi,elo,Nat.mul_comm];exact Nat.div_add_mod _ _
   have hl:lo'<18446744073709551616:=by rw[elo];exact Nat.mod_lt _ (by decide)
   have HL:=h_ hl;have x0:=hZ.o;obtain⟨s,hs⟩:∃s,s=(r+top+0)%18446744073709551616:=⟨_,rfl⟩
   obtain⟨c,hc⟩:∃c,c=(r+top+0)/18446744073709551616:=⟨_,rfl⟩
   have A1:=fun w=>Rq r top w;rw[<-hs,<-hc]at A1;have HS:Qb (s+18446744073709551616*c=r+top/\s<18446744073709551616/\c<=1):=by show _/\_/\_;omega
   have HQ2:=h_ hq;clear ehi elo hl hs hc b0 bt bx hr;by_cases g1:hi<r
   .have t1:decide ((hi:Int)<(r:Int))=true:=decide_eq_true (by omega);have t2:decide (hi<r)=true:=decide_eq_true g1;clear g1;go_wp2_with fail;refine(CM.o _).mono ?_;rintro e w2 ⟨rfl,rfl⟩;go_wp2;go_ret;exact⟨q,rfl,HQ2.o,hG.o.1,hB.o⟩
   .have t1:decide ((hi:Int)<(r:Int))=false:=decide_eq_false (by omega);have t2:decide (hi<r)=false:=decide_eq_false g1;by_cases g2:hi=r
    .have t3:((hi:Int)==(r:Int))=true:=by rw[beq_iff_eq];omega
     have t4:(hi==r)=true:=by rw[beq_iff_eq];exact g2
     by_cases g3:lo'<=u0
     .have t5:decide ((lo':Int)<=(u0:Int))=true:=decide_eq_true (by omega);have t6:decide (lo'<=u0)=true:=decide_eq_true g3;clear g1 g2 g3;go_wp2_with fail;refine(CM.o _).mono ?_;rintro e w2 ⟨rfl,rfl⟩;go_wp2;go_ret;exact⟨q,rfl,HQ2.o,hG.o.1,hB.o⟩
     .have t5:decide ((lo':Int)<=(u0:Int))=false:=decide_eq_false (by omega);have t6:decide (lo'<=u0)=false:=decide_eq_false g3;have HLESS:=h_ (hG.o.1.less hG.o.2 HM.o (by rw[g2];omega));obtain⟨q',hq'⟩:∃q',q=q'+1:=⟨q-1,by have:=HLESS.o.1;omega⟩
      have HG2:Qb (Gd u2 u1 u0 top nx q'):=by have:=HLESS.o.2;rw[hq']at this;exact this
      have HQ':=h_ hq';have hsub:(q:Int)-1=(q':Int):=by omega
      have hsw:IntKind.u64.wrap (q':Int)=(q':Int):=by have:=HQ2.o;rw[IntKind.wrap_u64];omega
      have hsw2:IntKind.u64.wrap ((q:Int)-1)=(q':Int):=by rw[hsub];exact hsw
      clear g1 g2 g3 hq' hq;by_cases g4:c=0
      .have t7:decide (0<(c:Int))=false:=decide_eq_false (by omega);have t8:decide (0<c)=false:=decide_eq_false (by omega);have HI:Qb (s<18446744073709551616/\q'<18446744073709551616/\q'*top+s=u2*18446744073709551616+u1):=by have e1:=HS.o;have e2:=hG.o.2;have e3:=HQ2.o;rw[HQ'.o,Nat.add_mul,Nat.one_mul]at e2;have e4:=HQ'.o;exact⟨e1.2.1,by omega,by rw[g4]at e1;omega⟩
       clear g4;go_wp2_with fail;refine(CM.o _).mono ?_;rintro e w2 ⟨rfl,rfl⟩;go_wp2;go_roundw
       case rel=>exact⟨q',s,rfl,rfl,HI.o.2.1,HI.o.1,⟨HG2.o,HI.o.2.2⟩,hZ,hB⟩
       case measure=>have:=HQ'.o;simp only[intOf];omega
      .have t7:decide (0<(c:Int))=true:=decide_eq_true (by omega);have t8:decide (0<c)=true:=decide_eq_true (by omega);clear g4;go_wp2_with fail;refine(CM.o _).mono ?_;rintro e w2 ⟨rfl,rfl⟩;go_wp2;go_ret;exact⟨q',rfl,by have:=HQ'.o;have:=HQ2.o;omega,HG2.o,hB.o⟩
    .have t3:((hi:Int)==(r:Int))=false:=by rw[beq_eq_false_iff_ne];omega
     have t4:(hi==r)=false:=by rw[beq_eq_false_iff_ne];exact g2
     have HLESS:=h_ (hG.o.1.less hG.o.2 HM.o (by have:=HL.o;omega));obtain⟨q',hq'⟩:∃q',q=q'+1:=⟨q-1,by have:=HLESS.o.1;omega⟩
     have HG2:Qb (Gd u2 u1 u0 top nx q'):=by have:=HLESS.o.2;rw[hq']at this;exact this
     have HQ':=h_ hq';have hsub:(q:Int)-1=(q':Int):=by omega
     have hsw:IntKind.u64.wrap (q':Int)=(q':Int):=by have:=HQ2.o;rw[IntKind.wrap_u64];omega
     have hsw2:IntKind.u64.wrap ((q:Int)-1)=(q':Int):=by rw[hsub];exact hsw
     clear g1 g2 hq' hq;by_cases g4:c=0
     .have t7:decide (0<(c:Int))=false:=decide_eq_false (by omega);have t8:decide (0<c)=false:=decide_eq_false (by omega);have HI:Qb (s<18446744073709551616/\q'<18446744073709551616/\q'*top+s=u2*18446744073709551616+u1):=by have e1:=HS.o;have e2:=hG.o.2;have e3:=HQ2.o;rw[HQ'.o,Nat.add_mul,Nat.one_mul]at e2;have e4:=HQ'.o;exact⟨e1.2.1,by omega,by rw[g4]at e1;omega⟩
      clear g4;go_wp2_with fail;refine(CM.o _).mono ?_;rintro e w2 ⟨rfl,rfl⟩;go_wp2;go_roundw
      case rel=>exact⟨q',s,rfl,rfl,HI.o.2.1,HI.o.1,⟨HG2.o,HI.o.2.2⟩,hZ,hB⟩
      case measure=>have:=HQ'.o;simp only[intOf];omega
     .have t7:decide (0<(c:Int))=true:=decide_eq_true (by omega);have t8:decide (0<c)=true:=decide_eq_true (by omega);clear g4;go_wp2_with fail;refine(CM.o _).mono ?_;rintro e w2 ⟨rfl,rfl⟩;go_wp2;go_ret;exact⟨q',rfl,by have:=HQ'.o;have:=HQ2.o;omega,HG2.o,hB.o⟩
end Go.Proofs.YtobpioceopfkpaaGreatDoor
