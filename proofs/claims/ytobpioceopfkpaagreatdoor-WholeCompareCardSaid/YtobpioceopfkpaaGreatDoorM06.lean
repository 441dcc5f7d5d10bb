/-
  Lemmas for WholeCompare (part 6); without conditions.
-/
import Derived.Test.YtobpioceopfkpaaGreatDoorM05
import Derived.StillTailTactics
import Derived.Deep.RegionHeld3
import Derived.Deep.DeepCutAuto
set_option maxRecDepth 100000
set_option maxHeartbeats 4000000
namespace Go.Proofs.YtobpioceopfkpaaGreatDoor.Rf
open Go.RowKit
open World (setCell alloc drew)
open List (set_cons_zero set_cons_succ setIfInBounds_toArray cons_append nil_append)
def Yf(w:World)(v:Value)(neg:Bool)(m:Nat)(e:Int):Prop:=∃s,v=.agg #[.bool neg,s,.int .i64 e]/\Dg w s m
theorem Yf.below{w w':World}{v:Value}{neg:Bool}{m:Nat}{e:Int}(h:Yf w v neg m e)(hb:Below w.heap.size w w'):Yf w' v neg m e:=by obtain⟨s,rfl,hs⟩:=h;exact⟨s,rfl,hs.below hb⟩
theorem Dg.form{w:World}{v:Value}{n:Nat}(h:Dg w v n):∃a k c,v=.slice a k c/\(n=0↔k=0):=by
 obtain⟨L,hL,hc⟩:=h;obtain⟨a,c,rfl,_⟩:=(Sl.form hL)
 refine⟨a,L.length,c,rfl,?_⟩;constructor
 .rintro rfl;rw[hc.zero];rfl
 .intro h;have:=hc.val;rw[List.eq_nil_of_length_eq_zero h]at this;exact this.symm
theorem Tp{P:Program}{f:FuncId}{args:Array Value}{w:World}{m:Nat}{v:Value}(h:Calls P f args (w.drewN m) fun e w'=>e=.returned v/\w.drewN m=w'):Calls P f args (w.drewN m) fun e w'=>e=.returned v/\∃k,w'=w.drewN k :=
 h.mono fun _ _ ⟨h1,h2⟩=>⟨h1,m,h2.symm⟩
theorem Dg.drewN{w:World}{v:Value}{n:Nat}(h:Dg w v n)(k:Nat):Dg (w.drewN k) v n:=h
theorem Hb(e:Int)(h:-2147483648<=e/\e<=2147483648)(w:World) :
  Calls Tryz.prog 58 #[.int .i64 e] w fun x w'=>x=.returned (.int .i64 e)/\w=w':=by
 obtain⟨h1,h2⟩:=h;go_enter Tryz.func58,Tryz.ntmps58;go_wp2;go_ret;exact⟨rfl,rfl⟩
def Qe(neg:Bool)(m:Nat):Int:=if m=0 then 0 else if neg then -1 else 1
theorem Mj(neg:Bool):Qe neg 0=0:=rfl
theorem K6{m:Nat}(h:m≠0):Qe false m=1:=by unfold Qe;rw[if_neg h];rfl
theorem K7{m:Nat}(h:m≠0):Qe true m=-1:=by unfold Qe;rw[if_neg h];rfl
theorem Pp{v:Value}{neg:Bool}{m:Nat}{e:Int}{w:World}(h:Yf w v neg m e) :
  Calls Tryz.prog 139 #[v] w fun x w'=>x=.returned (.int .i64 (Qe neg m))/\Below w.heap.size w w':=by
 obtain⟨s,rfl,hs⟩:=h;obtain⟨a,k,c,rfl,hk⟩:=hs.form;clear hs;by_cases hm:m=0
 .obtain rfl:k=0:=hk.1 hm;subst hm;have HE:=h_ (Mj neg);clear hk;go_enter Tryz.func139,Tryz.ntmps139;go_wp2;go_ret;exact⟨Jd HE.o.symm,(Below.refl _ _).alloc (Nat.le_refl _) _⟩
 .have hk0:k≠0:=fun h=>hm (hk.2 h);have e1:((k:Int)==0)=false:=by rw[beq_eq_false_iff_ne];omega
  cases neg
  .have HE:=h_ (K6 hm);clear hk hm hk0;go_enter Tryz.func139,Tryz.ntmps139;go_wp2;go_ret;exact⟨Jd HE.o.symm,(Below.refl _ _).alloc (Nat.le_refl _) _⟩
  .have HE:=h_ (K7 hm);clear hk hm hk0;go_enter Tryz.func139,Tryz.ntmps139;go_wp2;go_ret;exact⟨Jd HE.o.symm,(Below.refl _ _).alloc (Nat.le_refl _) _⟩
theorem Af{v:Value}{neg:Bool}{m:Nat}{e:Int}{w:World}(h:Yf w v neg m e)(hs:Sm m)(he:-2147483648<=e/\e<=2147483648) :
  Calls Tryz.prog 140 #[v] w fun x w'=>x=.returned (.int .i64 ((bl m:Int)-1+e))/\Below w.heap.size w w':=by
 obtain⟨s,rfl,hd⟩:=h;obtain⟨he1,he2⟩:=he;have hb:bl m<=1000000:=hs;have HQ:=h_ (fun q=>Tp (Ka ((hd.alloc (.cells #[.bool neg,s,.int .i64 e] 65)).drewN q) hs));clear hs hd;generalize bl m=b at *
 have q1:IntKind.i64.wrap ((b:Int)-1)=(b:Int)-1:=IntWalk.i64_in _ (by omega);have q2:IntKind.i64.wrap ((b:Int)-1+e)=(b:Int)-1+e:=IntWalk.i64_in _ (by omega);go_enter Tryz.func140,Tryz.ntmps140;go_wp2_with fail;go_quiet ((go_at_call 106;exact HQ.o _));go_wp2;go_ret;exact⟨rfl,Qw ((Below.refl _ _).alloc (Nat.le_refl _) _) _⟩
theorem Ky{P:Program}{f:FuncId}{args:Array Value}{w:World}{v:Value}(h:Calls P f args w fun e w'=>e=.returned v/\w=w'):Calls P f args w fun e w'=>e=.returned v/\w'=w :=
 h.mono fun _ _ ⟨h1,h2⟩=>⟨h1,h2.symm⟩
theorem Gx{P:Program}{id:Nat}{Q:Exit->Act->World->Prop}{a:Act}{w:World}{l:List Oper}(n:Nat)(hm:P.follows .mixedOrders=true)(hB:Region.lexTailB .any l.toArray n=true)
  (h:∀w',Qb (w'=w.drew)->wpStill P l.toArray w' (fun a'=>wpList P l.toArray Q (l.drop n) a' w') (l.take n) a):(Code.region id l.toArray true).wp P Q a w :=
 wp_region_still_tail n hm hB (h _ rfl)
theorem Ks{P:Program}{ops:Array Oper}{w:World}{Q:Act->Prop}{a:Act}(h:Q a):wpStill P ops w Q [] a:=h
theorem Dg.keep{w w':World}{v:Value}{n:Nat}(h:Dg w v n)(hk:∀b o z,w.cell? ⟨b,o,none⟩=some (.int .u32 z)->w'.cell? ⟨b,o,none⟩=some (.int .u32 z)):Dg w' v n:=by obtain⟨L,hL,hc⟩:=h;refine⟨L,?_,hc⟩;obtain⟨a,c,rfl,h⟩:=hL;refine⟨a,c,rfl,fun hl=>?_⟩;obtain⟨b,off,rfl,hx⟩:=h hl;refine⟨b,off,rfl,fun i u hu=>?_⟩;have h1:=hx i u hu;rw[Qz,List.getElem?_map]at hu;obtain⟨x,_,rfl⟩:=Option.map_eq_some_iff.1 hu;exact hk _ _ _ h1
def Gk(w:World)(R:Nat):Prop:=∃t b s e,Qi w R t #[.bool b,s,.int .i64 e]/\∃a k c,s=.slice a k c
theorem Gk.ne{w:World}{R b o:Nat}{z:Int}(h:Gk w R)(hc:w.cell? ⟨b,o,none⟩=some (.int .u32 z)):b≠R:=by rintro rfl;obtain⟨t,x,s,e,hb,a,k,c,rfl⟩:=h;rw[hb.cell]at hc;rcases o with _|_|_|o<;>simp at hc
theorem Dg.st3{w:World}{v:Value}{n R:Nat}(h:Dg w v n)(hp:Gk w R)(a b c:Value):Dg (((w.setCell ⟨R,0,none⟩ a).setCell ⟨R,1,none⟩ b).setCell ⟨R,2,none⟩ c) v n:=by refine h.keep fun g o z hz=>?_;have hne:=hp.ne hz;have key:∀i,(⟨R,i,none⟩:Addr)≠⟨g,o,none⟩:=fun i he=>hne (by injection he with h1;exact h1.symm);rw[World.cell?_setCell_other _ _ _ _ (key 2),World.cell?_setCell_other _ _ _ _ (key 1),World.cell?_setCell_other _ _ _ _ (key 0)];exact hz
def Oc(neg:Bool)(x:Nat)(e:Int)(w:World)(q:Ending)(w':World):Prop :=
 ∃v ng m e',q=.returned v/\Yf w' v ng m e'/\Below w.heap.size w w'/\(x=0->m=0/\e'=0)/\(x≠0->ng=neg/\m%2=1/\∃low:Nat,low<64/\e'=e+low/\m*2^low=x)
theorem Zx{w:World}{R:Nat}{a b c:Value}(h:Qi w R 65 #[a,b,c]):w.cell? ⟨R,0,none⟩=some a/\w.cell? ⟨R,1,none⟩=some b/\w.cell? ⟨R,2,none⟩=some c:=⟨h.at 0 a rfl,h.at 1 b rfl,h.at 2 c rfl⟩
theorem Qc5{x low:Nat}(h:x/2^low*2^low=x)(hb:Sb x low=0):x/2^(low+1)*2^(low+1)=x:=by have h1:=Ns x low;unfold Sb at hb;rw[hb]at h1;rw[h1]at h;rw[show x/2^(low+1)*2^(low+1)=x/2^(low+1)*2^low*2 by rw[Nat.pow_succ 2 low,<-Nat.mul_assoc]];rw[Nat.add_zero,Nat.mul_comm 2]at h;rw[Nat.mul_right_comm];exact h
theorem Qio{x low:Nat}(h:x/2^low*2^low=x)(h0:x≠0)(hx:x<18446744073709551616):low<64:=by apply Nat.lt_of_not_le;intro hl;have:x<2^low:=Nat.lt_of_lt_of_le hx (by have:=Nat.pow_le_pow_right (n:=2) (by omega) hl;omega);rw[Nat.div_eq_of_lt this]at h;omega
theorem Zu{x:Nat}{neg:Bool}{e:Int}{s:Value}{w:World}(h:Sl w s [.int .u64 (x:Int)])(hx:x<18446744073709551616)(he:-4000<=e/\e<=4000) :
  Calls Tryz.prog 23 #[.agg #[.bool neg,s,.int .i64 e]] w (Oc neg x e w):=by
 obtain⟨he1,he2⟩:=he;have HS:=h_ h;clear h;go_enter Tryz.func23,Tryz.ntmps23;go_wp2_with fail;refine(Qh0 ((HS.o.alloc _).alloc _) hx).mono ?_;rintro q w1 ⟨u,rfl,hd,hb⟩;obtain⟨k1,k2,B1,z1,-⟩:=Du (Below.refl w.heap.size w) (Nat.le_refl _) hb;obtain⟨a,k,c,rfl,hk⟩:=hd.form;by_cases h0:x=0
 .subst h0;obtain rfl:k=0:=hk.1 rfl;have r0:=k2.at 0 (.bool false) rfl;have r1:=k2.at 1 (.slice none 0 0) rfl;have r2:=k2.at 2 (.int .i64 0) rfl;have f0:=k2.frozen 0;have f1:=k2.frozen 1;have f2:=k2.frozen 2;have K2:=h_ k2;have BB:=h_ B1;clear hk hd k1 k2 B1;go_wp2;obtain⟨q1,q2⟩:=Tx K2.o BB.o (by omega) (.bool false) (.slice none 0 0) (.int .i64 0);generalize (setCell (setCell (setCell _ _ _) _ _) _ _)=W at q1 q2 |-;obtain⟨g0,g1,g2⟩:=Zx q1;exact bodyPost_ret (v:=.agg #[.bool false,.slice none 0 0,.int .i64 0]) (by simp[results,Tryz.results23,go_sem,g0,g1,g2]) rfl ⟨_,false,0,0,rfl,⟨_,rfl,Dg.nil W⟩,q2,fun _=>⟨rfl,rfl⟩,fun h=>absurd rfl h⟩
 .have hk0:k≠0:=fun h=>h0 (hk.2 h);have e1:((k:Int)==0)=false:=by rw[beq_eq_false_iff_ne];omega
  have hsm:Sm x:=Nat.le_trans (Zp (n:=x) (k:=64) hx) (by decide);have HSM:=h_ hsm;have HD:=h_ hd;have H0:=h_ h0;have K1:=h_ k1;have K2:=h_ k2;have BB:=h_ B1;clear hk hk0 h0 hd hsm k1 k2 B1;go_wp2;go_loop [4] (fun i=>∃low:Nat,i=.int .i64 low/\Qb (x/2^low*2^low=x)) (fun i=>64-(intOf i).toNat)
  case atStart=>exact⟨0,rfl,by simp[Qb]⟩
  case round =>
   obtain⟨low,rfl,hh⟩:=hrel;have hlow:=Qio hh.o H0.o hx;go_wp2_with fail;refine(Hf HD.o HSM.o low (by omega)).mono ?_;rintro q w2 ⟨rfl,rfl⟩;by_cases hbit:Sb x low=0
   .have HL:=h_ (Qc5 hh.o hbit);rw[hbit];clear hbit;go_wp2;go_round
    case rel=>exact⟨low+1,by go_num,HL⟩
    case measure=>simp[intOf];omega
   .have hb1:Sb x low=1:=by have:=Eo x low;omega
    rw[hb1];have HO:=h_ hb1;clear hbit hb1;go_wp2_with fail;refine(S8 HD.o low HSM.o (by omega)).mono ?_;rintro q w3 ⟨u,r,rfl,hu,hb⟩;obtain⟨ua,uk,uc,rfl,-⟩:=hu.form;have k1:=K1.o.below hb;have k2:=K2.o.below hb;have BC:=h_ (BB.o.trans (hb.mono BB.o.size));have c0:=k1.at 0 (.bool neg) rfl;have c2:=k1.at 2 (.int .i64 e) rfl;have r0:=k2.at 0 (.bool false) rfl;have r1:=k2.at 1 (.slice none 0 0) rfl;have r2:=k2.at 2 (.int .i64 0) rfl;have f0:=k2.frozen 0;have f1:=k2.frozen 1;have f2:=k2.frozen 2;have KK:=h_ k2;have HU:=h_ hu;have K1':=h_ k1;clear hb k1 k2 hu c0 c2 r0 r1 r2 f0 f1 f2;have q1:IntKind.i64.wrap (e+(low:Int))=e+(low:Int):=IntWalk.i64_in _ (by omega);go_wp2_with fail;refine Gx 9 (by kernel_rfl) (by kernel_rfl) ?_;intro w4 h4;have k1:Qi w4 w.heap.size 67 #[.bool neg,s,.int .i64 e]:=by rw[h4.o];exact K1'.o
    have k2:Qi w4 (w.heap.size+1) 65 #[.bool false,.slice none 0 0,.int .i64 0]:=by rw[h4.o];exact KK.o
    have BD:Qb (Below w.heap.size w w4):=by rw[h4.o];exact Qw BC.o 1
    have HU4:Qb (Dg w4 (.slice ua uk uc) (x/2^low)):=by rw[h4.o];exact HU.o
    have c0:=k1.at 0 (.bool neg) rfl;have c2:=k1.at 2 (.int .i64 e) rfl;have r0:=k2.at 0 (.bool false) rfl;have r1:=k2.at 1 (.slice none 0 0) rfl;have r2:=k2.at 2 (.int .i64 0) rfl;have f0:=k2.frozen 0;have f1:=k2.frozen 1;have f2:=k2.frozen 2;have KK4:=h_ k2;clear k1 k2 K1' KK;simp only[List.take_succ_cons,List.take_zero,List.drop_succ_cons,List.drop_zero]
    repeat still_step
    still_call (Ky (Hb e ⟨by omega,by omega⟩ _))
    repeat still_step
    refine Ks ?_;go_wp2;obtain⟨p1,p2⟩:=Tx KK4.o BD.o (by omega) (.bool neg) (.slice ua uk uc) (.int .i64 (e+low));have p3:=HU4.o.st3 ⟨_,_,_,_,KK4.o,_,_,_,rfl⟩ (.bool neg) (.slice ua uk uc) (.int .i64 (e+low));generalize (setCell (setCell (setCell _ _ _) _ _) _ _)=W at p1 p2 p3 |-;obtain⟨g0,g1,g2⟩:=Zx p1;exact bodyPost_ret (v:=.agg #[.bool neg,.slice ua uk uc,.int .i64 (e+low)]) (by simp[results,Tryz.results23,go_sem,g0,g1,g2]) rfl
     ⟨_,neg,x/2^low,e+low,rfl,⟨_,rfl,p3⟩,p2,fun h=>absurd h H0.o,fun _=>⟨rfl,HO.o,low,hlow,rfl,hh.o⟩⟩
end Go.Proofs.YtobpioceopfkpaaGreatDoor.Rf
set_option exponentiation.threshold 3000
namespace Go.Proofs.YtobpioceopfkpaaGreatDoor.Rf
open Go.RowKit
open World (setCell alloc drew)
open List (set_cons_zero set_cons_succ setIfInBounds_toArray cons_append nil_append)
def nv(neg:Bool)(m:Nat)(e:Int):Int:=sg neg (m*2^(e+6000).toNat)
theorem Do{neg:Bool}{m:Nat}{e low:Int}(h1:-6000<=low)(h2:low<=e):nv neg m e=nv neg (m*2^(e-low).toNat) low:=by unfold nv;rw[Nat.mul_assoc,<-Nat.pow_add,show(e-low).toNat+(low+6000).toNat=(e+6000).toNat by omega]
theorem Pk(neg:Bool)(e:Int):nv neg 0 e=0:=by unfold nv sg;split<;>simp
theorem Ay(neg:Bool)(x y:Nat)(e:Int):nv neg x e+nv neg y e=nv neg (x+y) e:=by unfold nv;rw[Nat.add_mul];unfold sg;split<;>simp<;>omega
theorem Rc{a b:Bool}{x y:Nat}{e:Int}(h:a≠b)(hy:y<=x):nv a x e+nv b y e=nv a (x-y) e:=by
 unfold nv;rw[Nat.sub_mul];have:=Nat.mul_le_mul_right (2^(e+6000).toNat) hy;generalize x*2^(e+6000).toNat=p at *
 generalize y*2^(e+6000).toNat=q at *
 unfold sg;cases a<;>cases b<;>simp at h ⊢<;>omega
theorem Sj(neg:Bool)(m:Nat)(e:Int):(nv neg m e).natAbs=m*2^(e+6000).toNat:=Qas _ _
def Bz(z:Int):Prop:=bl z.natAbs<=100000
theorem Bz.sm{neg:Bool}{m:Nat}{e low:Int}(h:Bz (nv neg m e))(h1:-6000<=low)(h2:low<=e):Sm (m*2^(e-low).toNat):=by rw[Do h1 h2]at h;unfold Bz at h;rw[Sj]at h;have h3:m*2^(e-low).toNat<=m*2^(e-low).toNat*2^(low+6000).toNat:=Nat.le_mul_of_pos_right _ (Nat.two_pow_pos _);have h4:Sm (m*2^(e-low).toNat*2^(low+6000).toNat):=Nat.le_trans h (by decide);exact h4.mono h3
def NZ(w:World)(v:Value)(z lo:Int):Prop:=∃ng m e,Yf w v ng m e/\lo<=e/\e<=6000/\nv ng m e=z
theorem NZ.below{w w':World}{v:Value}{z lo:Int}(h:NZ w v z lo)(hb:Below w.heap.size w w'):NZ w' v z lo:=by obtain⟨ng,m,e,h1,h2⟩:=h;exact⟨ng,m,e,h1.below hb,h2⟩
theorem Yf.alloc{w:World}{v:Value}{neg:Bool}{m:Nat}{e:Int}(h:Yf w v neg m e)(o:Obj):Yf (w.alloc o) v neg m e:=by obtain⟨s,rfl,hs⟩:=h;exact⟨s,rfl,hs.alloc o⟩
theorem NZ.alloc{w:World}{v:Value}{z lo:Int}(h:NZ w v z lo)(o:Obj):NZ (w.alloc o) v z lo:=by obtain⟨ng,m,e,h1,h2⟩:=h;exact⟨ng,m,e,h1.alloc o,h2⟩
def Od(z lo:Int)(w:World)(q:Ending)(w':World):Prop:=∃v,q=.returned v/\NZ w' v z lo/\Below w.heap.size w w'
theorem Dg.drew{w:World}{v:Value}{n:Nat}(h:Dg w v n):Dg w.drew v n:=h
theorem Ph{w:World}{R g o:Nat}{a b c u:Value}(h:R≠g)(hc:w.cell? ⟨g,o,none⟩=some u):(((w.setCell ⟨R,0,none⟩ a).setCell ⟨R,1,none⟩ b).setCell ⟨R,2,none⟩ c).cell? ⟨g,o,none⟩=some u:=by have key:∀i,(⟨R,i,none⟩:Addr)≠⟨g,o,none⟩:=fun i he=>h (by injection he);rw[World.cell?_setCell_other _ _ _ _ (key 2),World.cell?_setCell_other _ _ _ _ (key 1),World.cell?_setCell_other _ _ _ _ (key 0)];exact hc
structure Kr(na nb:Bool)(sa sb:Value)(ea eb:Int)(ma mb:Nat)(w wr:World):Prop where
 x:Qi wr w.heap.size 65 #[.bool na,sa,.int .i64 ea]
 y:Qi wr (w.heap.size+1) 65 #[.bool nb,sb,.int .i64 eb]
 r:Qi wr (w.heap.size+2) 65 #[.bool false,.slice none 0 0,.int .i64 0]
 a:Dg wr sa ma
 c:Dg wr sb mb
 b:Below w.heap.size w wr
theorem Kr.below{na nb:Bool}{sa sb:Value}{ea eb:Int}{ma mb:Nat}{w wr w':World}(h:Kr na nb sa sb ea eb ma mb w wr)(hb:Below wr.heap.size wr w'):Kr na nb sa sb ea eb ma mb w w' :=
 ⟨h.x.below hb,h.y.below hb,h.r.below hb,h.a.below hb,h.c.below hb,h.b.trans (hb.mono h.b.size)⟩
theorem Kr.drew{na nb:Bool}{sa sb:Value}{ea eb:Int}{ma mb:Nat}{w wr:World}(h:Kr na nb sa sb ea eb ma mb w wr):Kr na nb sa sb ea eb ma mb w wr.drew :=
 ⟨h.x,h.y,h.r,h.a,h.c,Qw h.b 1⟩
theorem Kr.start{na nb:Bool}{sa sb:Value}{ea eb:Int}{ma mb:Nat}{w:World}(ha:Dg w sa ma)(hc:Dg w sb mb) :
  Kr na nb sa sb ea eb ma mb w (((w.alloc (.cells #[.bool na,sa,.int .i64 ea] 65)).alloc (.cells #[.bool nb,sb,.int .i64 eb] 65)).alloc (.cells #[.bool false,.slice none 0 0,.int .i64 0] 65)):=by
 refine⟨((Qi.new w 65 _).alloc _).alloc _,?_,?_,((ha.alloc _).alloc _).alloc _,((hc.alloc _).alloc _).alloc _,(((Below.refl _ _).alloc (Nat.le_refl _) _).alloc (by simp) _).alloc (by simp;omega) _⟩
 .have:=Qi.new (w.alloc (.cells #[.bool na,sa,.int .i64 ea] 65)) 65 #[.bool nb,sb,.int .i64 eb];rw[show(w.alloc (.cells #[.bool na,sa,.int .i64 ea] 65)).heap.size=w.heap.size+1 by simp]at this;exact this.alloc _
 .have:=Qi.new ((w.alloc (.cells #[.bool na,sa,.int .i64 ea] 65)).alloc (.cells #[.bool nb,sb,.int .i64 eb] 65)) 65 #[.bool false,.slice none 0 0,.int .i64 0];rw[show((w.alloc (.cells #[.bool na,sa,.int .i64 ea] 65)).alloc (.cells #[.bool nb,sb,.int .i64 eb] 65)).heap.size=w.heap.size+2 by simp]at this;exact this
theorem Kr.cells{na nb:Bool}{sa sb:Value}{ea eb:Int}{ma mb:Nat}{w wr:World}(h:Kr na nb sa sb ea eb ma mb w wr) :
  wr.cell? ⟨w.heap.size,1,none⟩=some sa/\wr.cell? ⟨w.heap.size,2,none⟩=some (.int .i64 ea)/\wr.cell? ⟨w.heap.size+1,1,none⟩=some sb/\wr.cell? ⟨w.heap.size+1,2,none⟩=some (.int .i64 eb) :=
 ⟨h.x.at 1 sa rfl,h.x.at 2 (.int .i64 ea) rfl,h.y.at 1 sb rfl,h.y.at 2 (.int .i64 eb) rfl⟩
theorem Kr.rcells{na nb:Bool}{sa sb:Value}{ea eb:Int}{ma mb:Nat}{w wr:World}(h:Kr na nb sa sb ea eb ma mb w wr) :
  wr.cell? ⟨w.heap.size+2,0,none⟩=some (.bool false)/\wr.cell? ⟨w.heap.size+2,1,none⟩=some (.slice none 0 0)/\wr.cell? ⟨w.heap.size+2,2,none⟩=some (.int .i64 0)/\wr.frozen? ⟨w.heap.size+2,0,none⟩=false/\wr.frozen? ⟨w.heap.size+2,1,none⟩=false/\wr.frozen? ⟨w.heap.size+2,2,none⟩=false :=
 ⟨h.r.at 0 (.bool false) rfl,h.r.at 1 (.slice none 0 0) rfl,h.r.at 2 (.int .i64 0) rfl,h.r.frozen 0,h.r.frozen 1,h.r.frozen 2⟩
theorem Kr.fin{na nb:Bool}{sa sb:Value}{ea eb:Int}{ma mb:Nat}{w wr:World}(h:Kr na nb sa sb ea eb ma mb w wr){ng:Bool}{s:Value}{e:Int}{m:Nat}(hd:Dg wr s m) :
  Qi (((wr.setCell ⟨w.heap.size+2,0,none⟩ (.bool ng)).setCell ⟨w.heap.size+2,1,none⟩ s).setCell ⟨w.heap.size+2,2,none⟩ (.int .i64 e)) (w.heap.size+2) 65 #[.bool ng,s,.int .i64 e] /\
  Below w.heap.size w (((wr.setCell ⟨w.heap.size+2,0,none⟩ (.bool ng)).setCell ⟨w.heap.size+2,1,none⟩ s).setCell ⟨w.heap.size+2,2,none⟩ (.int .i64 e)) /\
  Yf (((wr.setCell ⟨w.heap.size+2,0,none⟩ (.bool ng)).setCell ⟨w.heap.size+2,1,none⟩ s).setCell ⟨w.heap.size+2,2,none⟩ (.int .i64 e)) (.agg #[.bool ng,s,.int .i64 e]) ng m e:=by
 obtain⟨p1,p2⟩:=Tx h.r h.b (by omega) (.bool ng) s (.int .i64 e);exact⟨p1,p2,_,rfl,hd.st3 ⟨_,_,_,_,h.r,_,_,_,rfl⟩ _ _ _⟩
theorem Qb1{na nb:Bool}{sa sb:Value}{ea eb:Int}{mb:Nat}{w:World}(ha:Dg w sa 0)(hc:Dg w sb mb) :
  Calls Tryz.prog 104 #[.agg #[.bool na,sa,.int .i64 ea],.agg #[.bool nb,sb,.int .i64 eb]] w fun q w'=>q=.returned (.agg #[.bool nb,sb,.int .i64 eb])/\Dg w' sb mb/\Below w.heap.size w w':=by
 have HA:=h_ ha;have HB:=h_ hc;obtain⟨a,k,c,rfl,hk⟩:=ha.form;obtain⟨a',k',c',rfl,hk'⟩:=hc.form;obtain rfl:k=0:=hk.1 rfl;clear ha hc hk hk';go_enter Tryz.func104,Tryz.ntmps104;go_wp2;exact bodyPost_ret (v:=.agg #[.bool nb,.slice a' k' c',.int .i64 eb]) (by simp[results,Tryz.results104,go_sem]) rfl
  ⟨rfl,((HB.o.alloc _).alloc _).alloc _,(((Below.refl _ _).alloc (Nat.le_refl _) _).alloc (by simp) _).alloc (by simp;omega) _⟩
theorem Qb0{na nb:Bool}{sa sb:Value}{ea eb:Int}{ma:Nat}{w:World}(ha:Dg w sa ma)(h0:ma≠0)(hc:Dg w sb 0) :
  Calls Tryz.prog 104 #[.agg #[.bool na,sa,.int .i64 ea],.agg #[.bool nb,sb,.int .i64 eb]] w fun q w'=>q=.returned (.agg #[.bool na,sa,.int .i64 ea])/\Dg w' sa ma/\Below w.heap.size w w':=by
 have HA:=h_ ha;obtain⟨a,k,c,rfl,hk⟩:=ha.form;obtain⟨a',k',c',rfl,hk'⟩:=hc.form;obtain rfl:k'=0:=hk'.1 rfl;have hk0:k≠0:=fun h=>h0 (hk.2 h);have e1:((k:Int)==0)=false:=by rw[beq_eq_false_iff_ne];omega
 clear ha hc hk hk' hk0 h0;go_enter Tryz.func104,Tryz.ntmps104;go_wp2;exact bodyPost_ret (v:=.agg #[.bool na,.slice a k c,.int .i64 ea]) (by simp[results,Tryz.results104,go_sem]) rfl
  ⟨rfl,((HA.o.alloc _).alloc _).alloc _,(((Below.refl _ _).alloc (Nat.le_refl _) _).alloc (by simp) _).alloc (by simp;omega) _⟩
structure Sg(na nb:Bool)(sa sb:Value)(ea eb:Int)(ma mb:Nat)(x y:Nat)(w wr:World)(s t:Value):Prop where
 m:Kr na nb sa sb ea eb ma mb w wr
 s:Dg wr s x
 t:Dg wr t y
theorem Sg.below{na nb:Bool}{sa sb:Value}{ea eb:Int}{ma mb x y:Nat}{w wr w':World}{s t:Value}(h:Sg na nb sa sb ea eb ma mb x y w wr s t)(hb:Below wr.heap.size wr w'):Sg na nb sa sb ea eb ma mb x y w w' s t :=
 ⟨h.m.below hb,h.s.below hb,h.t.below hb⟩
theorem Qdu{na nb:Bool}{sa sb:Value}{ea eb:Int}{ma mb:Nat}{w:World}(ha:Dg w sa ma)(hc:Dg w sb mb)(h0:ma≠0)(k0:mb≠0)(hea:-6000<=ea/\ea<=6000)(heb:-6000<=eb/\eb<=6000)
  (la:Sm (ma*2^(ea-min ea eb).toNat)) (lb:Sm (mb*2^(eb-min ea eb).toNat)) :
  Calls Tryz.prog 104 #[.agg #[.bool na,sa,.int .i64 ea],.agg #[.bool nb,sb,.int .i64 eb]] w (Od (nv na ma ea+nv nb mb eb) (min ea eb) w):=by
 have ST:=h_ (Kr.start (na:=na) (nb:=nb) (ea:=ea) (eb:=eb) ha hc);obtain⟨a,k,c,rfl,hk⟩:=ha.form;obtain⟨a',k',c',rfl,hk'⟩:=hc.form;have hk0:k≠0:=fun h=>h0 (hk.2 h);have hk0':k'≠0:=fun h=>k0 (hk'.2 h);have e1:((k:Int)==0)=false:=by rw[beq_eq_false_iff_ne];omega
 have e2:((k':Int)==0)=false:=by rw[beq_eq_false_iff_ne];omega
 obtain⟨ea1,ea2⟩:=hea;obtain⟨eb1,eb2⟩:=heb;clear ha hc hk hk' hk0 hk0' h0 k0;obtain⟨low,hlow,hor⟩:∃low,min ea eb=low/\(low=eb/\eb<ea\/low=ea/\¬eb<ea):=⟨_,rfl,by omega⟩
 rw[hlow]at la lb |-;have hl1:low<=ea:=by omega
 have hl2:low<=eb:=by omega
 have hl3:-6000<=low:=by omega
 obtain⟨p,hp⟩:=Int.eq_ofNat_of_zero_le (a:=ea-low) (by omega);obtain⟨q,hq⟩:=Int.eq_ofNat_of_zero_le (a:=eb-low) (by omega);have hsum:nv na ma ea+nv nb mb eb=nv na (ma*2^p) low+nv nb (mb*2^q) low:=by rw[Do hl3 hl1,Do hl3 hl2,hp,hq];rfl
 rw[hp]at la;rw[hq]at lb;rw[Int.toNat_natCast]at la lb;rw[hsum];have hpb:p<=12000:=by omega
 have hqb:q<=12000:=by omega
 have LA:=h_ la;have LB:=h_ lb;have HP:=h_ hp;have HQ:=h_ hq;clear hlow hsum hl1 hl2 la lb hp hq;go_enter Tryz.func104,Tryz.ntmps104;go_upto_region 1 with(fail)
 generalize (alloc (alloc (alloc _ _) _) _)=w1 at ST |-;have x0:=ST.o.x.at 0 (.bool na) rfl;have x1:=ST.o.x.at 1 (.slice a k c) rfl;have x2:=ST.o.x.at 2 (.int .i64 ea) rfl;have y0:=ST.o.y.at 0 (.bool nb) rfl;have y1:=ST.o.y.at 1 (.slice a' k' c') rfl;have y2:=ST.o.y.at 2 (.int .i64 eb) rfl;have wp:IntKind.i64.wrap (ea-low)=(p:Int):=by rw[HP.o];exact IntWalk.i64_in _ (by omega)
 have wq:IntKind.i64.wrap (eb-low)=(q:Int):=by rw[HQ.o];exact IntWalk.i64_in _ (by omega)
 have zp:ea-low=(p:Int):=HP.o;have zq:eb-low=(q:Int):=HQ.o;rcases hor with⟨hl,hlt⟩|⟨hl,hlt⟩
 .subst hl;obtain rfl:q=0:=by omega
  clear wp wq zp zq;have zp:ea-low=(p:Int):=HP.o;have CA:Qb (∀w (h:Dg w (.slice a k c) ma),Calls Tryz.prog 141 #[(.slice a k c),.int .i64 p] w fun e w'=>∃u,e=.returned u/\Dg w' u (ma*2^p)/\Below w.heap.size w w'):=fun w h=>Pj h p LA.o (by omega);have CB:Qb (∀w (h:Dg w (.slice a' k' c') mb),Calls Tryz.prog 141 #[(.slice a' k' c'),.int .i64 0] w fun e w'=>∃u,e=.returned u/\Dg w' u (mb*2^0)/\Below w.heap.size w w'):=fun w h=>Pj h 0 LB.o (by omega);have w0:IntKind.i64.wrap 0=0:=rfl;have w1':IntKind.i64.wrap (p:Int)=p:=IntWalk.i64_in _ (by omega);go_upto_region 8 with(fail)
  go_cut [6,7] (fun s t wx=>Qb (Sg na nb (.slice a k c) (.slice a' k' c') ea low ma mb (ma*2^p) (mb*2^0) w wx s t))
  case first =>
   go_region_held3 (fun w'=>w'.cell? ⟨w.heap.size,1,none⟩=some (.slice a k c)/\w'.cell? ⟨w.heap.size,2,none⟩=some (.int .i64 ea)/\w'.cell? ⟨w.heap.size+1,1,none⟩=some (.slice a' k' c')/\w'.cell? ⟨w.heap.size+1,2,none⟩=some (.int .i64 low)) (first|exact⟨x1,x2,y1,y2⟩|exact FA.o|exact FB.o|exact FC.o) (first|(go_at_call 141;(with_reducible refine(CB.o _ SA.o.1.c).mono ?_);rintro r w3 ⟨t,rfl,hd,hb⟩;have HL:=h_ (Sg.mk (SA.o.1.below hb) (SA.o.2.below hb) hd);have FC:=h_ (HL.o.m.cells))|(go_at_call 141;(with_reducible refine(CA.o _ SB.o.1.a).mono ?_);rintro r w3 ⟨s,rfl,hd,hb⟩;have HL:=h_ (Sg.mk (SB.o.1.below hb) hd (SB.o.2.below hb));have FC:=h_ (HL.o.m.cells))|(go_at_call 141;(with_reducible refine(CA.o _ ST.o.drew.a).mono ?_);rintro r w2 ⟨s,rfl,hd,hb⟩;have SA:=h_ (And.intro (ST.o.drew.below hb) hd);have FA:=h_ SA.o.1.cells)|(go_at_call 141;(with_reducible refine(CB.o _ ST.o.drew.c).mono ?_);rintro r w2 ⟨t,rfl,hd,hb⟩;have SB:=h_ (And.intro (ST.o.drew.below hb) hd);have FB:=h_ SB.o.1.cells))
   all_goals go_wp2_with fail
   all_goals go_meet
   all_goals exact HL
  case rest =>
   clear x0 x1 x2 y0 y1 y2 CA CB w0 w1' ST;generalize ma*2^p=x at *
   generalize mb*2^0=y at *
   have HC:=hcut;clear hcut;obtain⟨s1,s2,s3,rfl,-⟩:=HC.o.s.form;obtain⟨t1,t2,t3,rfl,-⟩:=HC.o.t.form;have x0:=HC.o.m.x.at 0 (.bool na) rfl;have y0:=HC.o.m.y.at 0 (.bool nb) rfl;by_cases hn:na=nb
   .subst hn;have HADD:Qb (∀w (h:Dg w (.slice s1 s2 s3) x) (k:Dg w (.slice t1 t2 t3) y),Calls Tryz.prog 142 #[.slice s1 s2 s3,.slice t1 t2 t3] w fun e w'=>∃u,e=.returned u/\Dg w' u (x+y)/\Below w.heap.size w w'):=fun w h k=>Rp h k LA.o LB.o;have HF:=h_ (HC.o.m.drew);have f1:=HF.o.x.at 0 (.bool na) rfl;have f2:=HC.o.m.x.at 0 (.bool na) rfl;go_wp2_with fail
    go_region_held3 (fun w'=>w'.cell? ⟨w.heap.size,0,none⟩=some (.bool na)) (first|exact f2|exact f1|exact FD.o|exact Ph (by omega) FD.o) (first|(go_at_call 142;(with_reducible refine(HADD.o _ HC.o.s.drew HC.o.t.drew).mono ?_);rintro r w3 ⟨u,rfl,hd,hb⟩;obtain⟨ua,uk,uc,rfl,-⟩:=hd.form;have HM:=h_ (HF.o.below hb);have HU:=h_ hd;have FD:=h_ (HM.o.x.at 0 (.bool na) rfl);obtain⟨r0,r1,r2,z0,z1,z2⟩:=HM.o.rcells))
    go_wp2;obtain⟨p1,p2,p3⟩:=HM.o.fin (ng:=na) (e:=low) HU.o;generalize (setCell (setCell (setCell _ _ _) _ _) _ _)=W at p1 p2 p3 |-;obtain⟨g0,g1,g2⟩:=Zx p1;exact bodyPost_ret (v:=.agg #[.bool na,.slice ua uk uc,.int .i64 low]) (by simp[results,Tryz.results104,go_sem,g0,g1,g2]) rfl ⟨_,rfl,⟨na,x+y,low,p3,Int.le_refl _,by omega,(Ay _ _ _ _).symm⟩,p2⟩
   .have hne:(na==nb)=false:=by cases na<;>cases nb<;>simp_all
    have HNE:=h_ hn;clear hn;go_wp2_with fail;refine(G6 HC.o.s HC.o.t LA.o).mono ?_;rintro r w4 ⟨rfl,hb4⟩;have HC':=h_ (HC.o.below hb4);clear HC hb4 x0 y0;have HC:=HC';clear HC';have x0:=HC.o.m.x.at 0 (.bool na) rfl;have y0:=HC.o.m.y.at 0 (.bool nb) rfl;by_cases hxy:y<=x
    .have hcm:Qb (Qm x y=0\/Qm x y=1):=by
      rcases Nat.lt_or_eq_of_le hxy with h|h
      .exact .inr (Ug h)
      .exact .inl (G9 h.symm)
     have HSUB:Qb (∀w (h:Dg w (.slice s1 s2 s3) x) (k:Dg w (.slice t1 t2 t3) y),Calls Tryz.prog 144 #[.slice s1 s2 s3,.slice t1 t2 t3] w fun e w'=>∃u,e=.returned u/\Dg w' u (x-y)/\Below w.heap.size w w'):=fun w h k=>Pf h k LA.o hxy;have HEQ:=h_ (Rc (e:=low) HNE.o hxy).symm;clear hxy;rcases hcm.o with h|h
     all_goals
      rw[h];clear h hcm;have HF:=h_ (HC.o.m.drew);have f1:=HF.o.x.at 0 (.bool na) rfl;have f2:=HC.o.m.x.at 0 (.bool na) rfl;go_wp2_with fail
      go_region_held3 (fun w'=>w'.cell? ⟨w.heap.size,0,none⟩=some (.bool na)) (first|exact f2|exact f1|exact FD.o|exact Ph (by omega) FD.o) (first|(go_at_call 144;(with_reducible refine(HSUB.o _ HC.o.s.drew HC.o.t.drew).mono ?_);rintro r w3 ⟨u,rfl,hd,hb⟩;obtain⟨ua,uk,uc,rfl,-⟩:=hd.form;have HM:=h_ (HF.o.below hb);have HU:=h_ hd;have FD:=h_ (HM.o.x.at 0 (.bool na) rfl);obtain⟨r0,r1,r2,z0,z1,z2⟩:=HM.o.rcells))
      go_wp2;obtain⟨p1,p2,p3⟩:=HM.o.fin (ng:=na) (e:=low) HU.o;generalize (setCell (setCell (setCell _ _ _) _ _) _ _)=W at p1 p2 p3 |-;obtain⟨g0,g1,g2⟩:=Zx p1;exact bodyPost_ret (v:=.agg #[.bool na,.slice ua uk uc,.int .i64 low]) (by simp[results,Tryz.results104,go_sem,g0,g1,g2]) rfl ⟨_,rfl,⟨na,x-y,low,p3,Int.le_refl _,by omega,HEQ.o⟩,p2⟩
    .have hcm:Qm x y=-1:=Yc (by omega);have hyx:x<=y:=by omega
     have HSUB:Qb (∀w (h:Dg w (.slice t1 t2 t3) y) (k:Dg w (.slice s1 s2 s3) x),Calls Tryz.prog 144 #[.slice t1 t2 t3,.slice s1 s2 s3] w fun e w'=>∃u,e=.returned u/\Dg w' u (y-x)/\Below w.heap.size w w'):=fun w h k=>Pf h k LB.o hyx;have HEQ:=h_ ((Int.add_comm _ _).trans (Rc (e:=low) (fun h=>HNE.o h.symm) hyx)).symm;clear hxy hyx;rw[hcm];clear hcm;have HF:=h_ (HC.o.m.drew);have f1:=HF.o.y.at 0 (.bool nb) rfl;have f2:=HC.o.m.y.at 0 (.bool nb) rfl;go_wp2_with fail
     go_region_held3 (fun w'=>w'.cell? ⟨w.heap.size+1,0,none⟩=some (.bool nb)) (first|exact f2|exact f1|exact FD.o|exact Ph (by omega) FD.o) (first|(go_at_call 144;(with_reducible refine(HSUB.o _ HC.o.t.drew HC.o.s.drew).mono ?_);rintro r w3 ⟨u,rfl,hd,hb⟩;obtain⟨ua,uk,uc,rfl,-⟩:=hd.form;have HM:=h_ (HF.o.below hb);have HU:=h_ hd;have FD:=h_ (HM.o.y.at 0 (.bool nb) rfl);obtain⟨r0,r1,r2,z0,z1,z2⟩:=HM.o.rcells))
     go_wp2;obtain⟨p1,p2,p3⟩:=HM.o.fin (ng:=nb) (e:=low) HU.o;generalize (setCell (setCell (setCell _ _ _) _ _) _ _)=W at p1 p2 p3 |-;obtain⟨g0,g1,g2⟩:=Zx p1;exact bodyPost_ret (v:=.agg #[.bool nb,.slice ua uk uc,.int .i64 low]) (by simp[results,Tryz.results104,go_sem,g0,g1,g2]) rfl ⟨_,rfl,⟨nb,y-x,low,p3,Int.le_refl _,by omega,HEQ.o⟩,p2⟩
 .subst hl;obtain rfl:p=0:=by omega
  clear wp wq zp zq;have zq:eb-low=(q:Int):=HQ.o;have CA:Qb (∀w (h:Dg w (.slice a k c) ma),Calls Tryz.prog 141 #[(.slice a k c),.int .i64 0] w fun e w'=>∃u,e=.returned u/\Dg w' u (ma*2^0)/\Below w.heap.size w w'):=fun w h=>Pj h 0 LA.o (by omega);have CB:Qb (∀w (h:Dg w (.slice a' k' c') mb),Calls Tryz.prog 141 #[(.slice a' k' c'),.int .i64 q] w fun e w'=>∃u,e=.returned u/\Dg w' u (mb*2^q)/\Below w.heap.size w w'):=fun w h=>Pj h q LB.o (by omega);have w0:IntKind.i64.wrap 0=0:=rfl;have w1':IntKind.i64.wrap (q:Int)=q:=IntWalk.i64_in _ (by omega);go_upto_region 8 with(fail)
  go_cut [6,7] (fun s t wx=>Qb (Sg na nb (.slice a k c) (.slice a' k' c') low eb ma mb (ma*2^0) (mb*2^q) w wx s t))
  case first =>
   go_region_held3 (fun w'=>w'.cell? ⟨w.heap.size,1,none⟩=some (.slice a k c)/\w'.cell? ⟨w.heap.size,2,none⟩=some (.int .i64 low)/\w'.cell? ⟨w.heap.size+1,1,none⟩=some (.slice a' k' c')/\w'.cell? ⟨w.heap.size+1,2,none⟩=some (.int .i64 eb)) (first|exact⟨x1,x2,y1,y2⟩|exact FA.o|exact FB.o|exact FC.o) (first|(go_at_call 141;(with_reducible refine(CB.o _ SA.o.1.c).mono ?_);rintro r w3 ⟨t,rfl,hd,hb⟩;have HL:=h_ (Sg.mk (SA.o.1.below hb) (SA.o.2.below hb) hd);have FC:=h_ (HL.o.m.cells))|(go_at_call 141;(with_reducible refine(CA.o _ SB.o.1.a).mono ?_);rintro r w3 ⟨s,rfl,hd,hb⟩;have HL:=h_ (Sg.mk (SB.o.1.below hb) hd (SB.o.2.below hb));have FC:=h_ (HL.o.m.cells))|(go_at_call 141;(with_reducible refine(CA.o _ ST.o.drew.a).mono ?_);rintro r w2 ⟨s,rfl,hd,hb⟩;have SA:=h_ (And.intro (ST.o.drew.below hb) hd);have FA:=h_ SA.o.1.cells)|(go_at_call 141;(with_reducible refine(CB.o _ ST.o.drew.c).mono ?_);rintro r w2 ⟨t,rfl,hd,hb⟩;have SB:=h_ (And.intro (ST.o.drew.below hb) hd);have FB:=h_ SB.o.1.cells))
   all_goals go_wp2_with fail
   all_goals go_meet
   all_goals exact HL
  case rest =>
   clear x0 x1 x2 y0 y1 y2 CA CB w0 w1' ST;generalize ma*2^0=x at *
   generalize mb*2^q=y at *
   have HC:=hcut;clear hcut;obtain⟨s1,s2,s3,rfl,-⟩:=HC.o.s.form;obtain⟨t1,t2,t3,rfl,-⟩:=HC.o.t.form;have x0:=HC.o.m.x.at 0 (.bool na) rfl;have y0:=HC.o.m.y.at 0 (.bool nb) rfl;by_cases hn:na=nb
   .subst hn;have HADD:Qb (∀w (h:Dg w (.slice s1 s2 s3) x) (k:Dg w (.slice t1 t2 t3) y),Calls Tryz.prog 142 #[.slice s1 s2 s3,.slice t1 t2 t3] w fun e w'=>∃u,e=.returned u/\Dg w' u (x+y)/\Below w.heap.size w w'):=fun w h k=>Rp h k LA.o LB.o;have HF:=h_ (HC.o.m.drew);have f1:=HF.o.x.at 0 (.bool na) rfl;have f2:=HC.o.m.x.at 0 (.bool na) rfl;go_wp2_with fail
    go_region_held3 (fun w'=>w'.cell? ⟨w.heap.size,0,none⟩=some (.bool na)) (first|exact f2|exact f1|exact FD.o|exact Ph (by omega) FD.o) (first|(go_at_call 142;(with_reducible refine(HADD.o _ HC.o.s.drew HC.o.t.drew).mono ?_);rintro r w3 ⟨u,rfl,hd,hb⟩;obtain⟨ua,uk,uc,rfl,-⟩:=hd.form;have HM:=h_ (HF.o.below hb);have HU:=h_ hd;have FD:=h_ (HM.o.x.at 0 (.bool na) rfl);obtain⟨r0,r1,r2,z0,z1,z2⟩:=HM.o.rcells))
    go_wp2;obtain⟨p1,p2,p3⟩:=HM.o.fin (ng:=na) (e:=low) HU.o;generalize (setCell (setCell (setCell _ _ _) _ _) _ _)=W at p1 p2 p3 |-;obtain⟨g0,g1,g2⟩:=Zx p1;exact bodyPost_ret (v:=.agg #[.bool na,.slice ua uk uc,.int .i64 low]) (by simp[results,Tryz.results104,go_sem,g0,g1,g2]) rfl ⟨_,rfl,⟨na,x+y,low,p3,Int.le_refl _,by omega,(Ay _ _ _ _).symm⟩,p2⟩
   .have hne:(na==nb)=false:=by cases na<;>cases nb<;>simp_all
    have HNE:=h_ hn;clear hn;go_wp2_with fail;refine(G6 HC.o.s HC.o.t LA.o).mono ?_;rintro r w4 ⟨rfl,hb4⟩;have HC':=h_ (HC.o.below hb4);clear HC hb4 x0 y0;have HC:=HC';clear HC';have x0:=HC.o.m.x.at 0 (.bool na) rfl;have y0:=HC.o.m.y.at 0 (.bool nb) rfl;by_cases hxy:y<=x
    .have hcm:Qb (Qm x y=0\/Qm x y=1):=by
      rcases Nat.lt_or_eq_of_le hxy with h|h
      .exact .inr (Ug h)
      .exact .inl (G9 h.symm)
     have HSUB:Qb (∀w (h:Dg w (.slice s1 s2 s3) x) (k:Dg w (.slice t1 t2 t3) y),Calls Tryz.prog 144 #[.slice s1 s2 s3,.slice t1 t2 t3] w fun e w'=>∃u,e=.returned u/\Dg w' u (x-y)/\Below w.heap.size w w'):=fun w h k=>Pf h k LA.o hxy;have HEQ:=h_ (Rc (e:=low) HNE.o hxy).symm;clear hxy;rcases hcm.o with h|h
     all_goals
      rw[h];clear h hcm;have HF:=h_ (HC.o.m.drew);have f1:=HF.o.x.at 0 (.bool na) rfl;have f2:=HC.o.m.x.at 0 (.bool na) rfl;go_wp2_with fail
      go_region_held3 (fun w'=>w'.cell? ⟨w.heap.size,0,none⟩=some (.bool na)) (first|exact f2|exact f1|exact FD.o|exact Ph (by omega) FD.o) (first|(go_at_call 144;(with_reducible refine(HSUB.o _ HC.o.s.drew HC.o.t.drew).mono ?_);rintro r w3 ⟨u,rfl,hd,hb⟩;obtain⟨ua,uk,uc,rfl,-⟩:=hd.form;have HM:=h_ (HF.o.below hb);have HU:=h_ hd;have FD:=h_ (HM.o.x.at 0 (.bool na) rfl);obtain⟨r0,r1,r2,z0,z1,z2⟩:=HM.o.rcells))
      go_wp2;obtain⟨p1,p2,p3⟩:=HM.o.fin (ng:=na) (e:=low) HU.o;generalize (setCell (setCell (setCell _ _ _) _ _) _ _)=W at p1 p2 p3 |-;obtain⟨g0,g1,g2⟩:=Zx p1;exact bodyPost_ret (v:=.agg #[.bool na,.slice ua uk uc,.int .i64 low]) (by simp[results,Tryz.results104,go_sem,g0,g1,g2]) rfl ⟨_,rfl,⟨na,x-y,low,p3,Int.le_refl _,by omega,HEQ.o⟩,p2⟩
    .have hcm:Qm x y=-1:=Yc (by omega);have hyx:x<=y:=by omega
     have HSUB:Qb (∀w (h:Dg w (.slice t1 t2 t3) y) (k:Dg w (.slice s1 s2 s3) x),Calls Tryz.prog 144 #[.slice t1 t2 t3,.slice s1 s2 s3] w fun e w'=>∃u,e=.returned u/\Dg w' u (y-x)/\Below w.heap.size w w'):=fun w h k=>Pf h k LB.o hyx;have HEQ:=h_ ((Int.add_comm _ _).trans (Rc (e:=low) (fun h=>HNE.o h.symm) hyx)).symm;clear hxy hyx;rw[hcm];clear hcm;have HF:=h_ (HC.o.m.drew);have f1:=HF.o.y.at 0 (.bool nb) rfl;have f2:=HC.o.m.y.at 0 (.bool nb) rfl;go_wp2_with fail
     go_region_held3 (fun w'=>w'.cell? ⟨w.heap.size+1,0,none⟩=some (.bool nb)) (first|exact f2|exact f1|exact FD.o|exact Ph (by omega) FD.o) (first|(go_at_call 144;(with_reducible refine(HSUB.o _ HC.o.t.drew HC.o.s.drew).mono ?_);rintro r w3 ⟨u,rfl,hd,hb⟩;obtain⟨ua,uk,uc,rfl,-⟩:=hd.form;have HM:=h_ (HF.o.below hb);have HU:=h_ hd;have FD:=h_ (HM.o.y.at 0 (.bool nb) rfl);obtain⟨r0,r1,r2,z0,z1,z2⟩:=HM.o.rcells))
     go_wp2;obtain⟨p1,p2,p3⟩:=HM.o.fin (ng:=nb) (e:=low) HU.o;generalize (setCell (setCell (setCell _ _ _) _ _) _ _)=W at p1 p2 p3 |-;obtain⟨g0,g1,g2⟩:=Zx p1;exact bodyPost_ret (v:=.agg #[.bool nb,.slice ua uk uc,.int .i64 low]) (by simp[results,Tryz.results104,go_sem,g0,g1,g2]) rfl ⟨_,rfl,⟨nb,y-x,low,p3,Int.le_refl _,by omega,HEQ.o⟩,p2⟩
end Go.Proofs.YtobpioceopfkpaaGreatDoor.Rf
set_option exponentiation.threshold 3000
namespace Go.Proofs.YtobpioceopfkpaaGreatDoor.Rf
open Go.RowKit
open World (setCell alloc drew)
open List (set_cons_zero set_cons_succ setIfInBounds_toArray cons_append nil_append)
theorem Qj8{neg:Bool}{m:Nat}{e:Int}:nv neg m e=0↔m=0:=by
 constructor
 .intro h;have h1:=Sj neg m e;rw[h]at h1;have:=Nat.two_pow_pos (e+6000).toNat
  rcases Nat.eq_zero_or_pos m with h2|h2
  .exact h2
  .have:=Nat.mul_pos h2 this;simp at h1;omega
 .rintro rfl;exact Pk _ _
theorem An{m:Nat}{neg:Bool}{e:Int}(h:Bz (nv neg m e))(he:-6000<=e):Sm m:=by have:=h.sm (low:=e) he (Int.le_refl _);simpa using this
theorem Qdv{u v:Value}{w:World}{za zb lo:Int}(h:NZ w u za lo)(k:NZ w v zb lo)(hlo:-6000<=lo)(ha:Bz za)(hb:Bz zb) :
  Calls Tryz.prog 104 #[u,v] w (Od (za+zb) lo w):=by
 obtain⟨na,ma,ea,⟨sa,rfl,da⟩,h1,h2,rfl⟩:=h;obtain⟨nb,mb,eb,⟨sb,rfl,db⟩,k1,k2,rfl⟩:=k;by_cases h0:ma=0
 .subst h0;refine(Qb1 da db).mono ?_;rintro q w' ⟨rfl,hd,hb⟩;exact⟨_,rfl,⟨nb,mb,eb,⟨_,rfl,hd⟩,k1,k2,by rw[Pk];omega⟩,hb⟩
 by_cases k0:mb=0
 .subst k0;refine(Qb0 da h0 db).mono ?_;rintro q w' ⟨rfl,hd,hb⟩;exact⟨_,rfl,⟨na,ma,ea,⟨_,rfl,hd⟩,h1,h2,by rw[Pk];omega⟩,hb⟩
 .refine(Qdu da db h0 k0 (by omega) (by omega) (ha.sm (by omega) (by omega)) (hb.sm (by omega) (by omega))).mono ?_;rintro q w' ⟨v,rfl,⟨ng,m,e,hn,e1,e2,e3⟩,hb⟩;exact⟨_,rfl,⟨ng,m,e,hn,by omega,e2,e3⟩,hb⟩
def Wd(a b:Int):Int:=if a<b then -1 else if b<a then 1 else 0
theorem G7{a b:Int}(h:a<b):Wd a b=-1:=by unfold Wd;rw[if_pos h]
theorem G8{a b:Int}(h:b<a):Wd a b=1:=by unfold Wd;rw[if_neg (by omega),if_pos h]
theorem Rk{a b:Int}(h:a=b):Wd a b=0:=by unfold Wd;rw[if_neg (by omega),if_neg (by omega)]
theorem Lt{neg:Bool}{m:Nat}{e:Int}:(Qe neg m=0↔nv neg m e=0)/\(Qe neg m=1↔0<nv neg m e)/\(Qe neg m=-1↔nv neg m e<0):=by
 by_cases h:m=0
 .subst h;rw[Pk,Mj];simp
 .have h1:nv neg m e≠0:=fun h2=>h (Qj8.1 h2);cases neg
  .rw[K6 h];have:0<=nv false m e:=by unfold nv sg;rw[if_neg (by decide)];exact Int.natCast_nonneg _
   refine⟨?_,?_,?_⟩<;>constructor<;>intro<;>omega
  .rw[K7 h];have:nv true m e<=0:=by unfold nv sg;rw[if_pos rfl];have:=Int.natCast_nonneg (m*2^(e+6000).toNat);omega
   refine⟨?_,?_,?_⟩<;>constructor<;>intro<;>omega
structure Zz(na nb:Bool)(sa sb:Value)(ea eb:Int)(ma mb:Nat)(w wr:World):Prop where
 x:Qi wr w.heap.size 65 #[.bool na,sa,.int .i64 ea]
 y:Qi wr (w.heap.size+1) 65 #[.bool nb,sb,.int .i64 eb]
 a:Dg wr sa ma
 c:Dg wr sb mb
 b:Below w.heap.size w wr
theorem Zz.below{na nb:Bool}{sa sb:Value}{ea eb:Int}{ma mb:Nat}{w wr w':World}(h:Zz na nb sa sb ea eb ma mb w wr)(hb:Below wr.heap.size wr w'):Zz na nb sa sb ea eb ma mb w w' :=
 ⟨h.x.below hb,h.y.below hb,h.a.below hb,h.c.below hb,h.b.trans (hb.mono h.b.size)⟩
theorem Zz.drew{na nb:Bool}{sa sb:Value}{ea eb:Int}{ma mb:Nat}{w wr:World}(h:Zz na nb sa sb ea eb ma mb w wr):Zz na nb sa sb ea eb ma mb w wr.drew :=
 ⟨h.x,h.y,h.a,h.c,Qw h.b 1⟩
theorem Zz.ha{na nb:Bool}{sa sb:Value}{ea eb:Int}{ma mb:Nat}{w wr:World}(h:Zz na nb sa sb ea eb ma mb w wr):Yf wr (.agg #[.bool na,sa,.int .i64 ea]) na ma ea:=⟨_,rfl,h.a⟩
theorem Zz.hc{na nb:Bool}{sa sb:Value}{ea eb:Int}{ma mb:Nat}{w wr:World}(h:Zz na nb sa sb ea eb ma mb w wr):Yf wr (.agg #[.bool nb,sb,.int .i64 eb]) nb mb eb:=⟨_,rfl,h.c⟩
theorem Zz.cells{na nb:Bool}{sa sb:Value}{ea eb:Int}{ma mb:Nat}{w wr:World}(h:Zz na nb sa sb ea eb ma mb w wr) :
  wr.cell? ⟨w.heap.size,0,none⟩=some (.bool na)/\wr.cell? ⟨w.heap.size,1,none⟩=some sa/\wr.cell? ⟨w.heap.size,2,none⟩=some (.int .i64 ea)/\wr.cell? ⟨w.heap.size+1,0,none⟩=some (.bool nb)/\wr.cell? ⟨w.heap.size+1,1,none⟩=some sb/\wr.cell? ⟨w.heap.size+1,2,none⟩=some (.int .i64 eb) :=
 ⟨h.x.at 0 (.bool na) rfl,h.x.at 1 sa rfl,h.x.at 2 (.int .i64 ea) rfl,h.y.at 0 (.bool nb) rfl,h.y.at 1 sb rfl,h.y.at 2 (.int .i64 eb) rfl⟩
theorem Zz.flip{na nb:Bool}{sa sb:Value}{ea eb:Int}{ma mb:Nat}{w wr:World}(h:Zz na nb sa sb ea eb ma mb w wr):Zz na (!nb) sa sb ea eb ma mb w (wr.setCell ⟨w.heap.size+1,0,none⟩ (.bool (!nb))):=by
 refine⟨h.x.far (by simp) _,h.y.set 0 _,h.a.keep ?_,h.c.keep ?_,h.b.setCell (by simp) _⟩
 all_goals
  intro g o z hz;have hne:=Gk.ne (R:=w.heap.size+1) ⟨_,_,_,_,h.y,by obtain⟨a,k,c,e,_⟩:=h.c.form;exact⟨a,k,c,e⟩⟩ hz;rw[World.cell?_setCell_other _ _ _ _ (fun he=>hne (by injection he with h1;exact h1.symm))];exact hz
theorem Zz.start{na nb:Bool}{sa sb:Value}{ea eb:Int}{ma mb:Nat}{w:World}(ha:Dg w sa ma)(hc:Dg w sb mb) :
  Zz na nb sa sb ea eb ma mb w ((w.alloc (.cells #[.bool na,sa,.int .i64 ea] 65)).alloc (.cells #[.bool nb,sb,.int .i64 eb] 65)):=by
 refine⟨(Qi.new w 65 _).alloc _,?_,(ha.alloc _).alloc _,(hc.alloc _).alloc _,((Below.refl _ _).alloc (Nat.le_refl _) _).alloc (by simp) _⟩;have:=Qi.new (w.alloc (.cells #[.bool na,sa,.int .i64 ea] 65)) 65 #[.bool nb,sb,.int .i64 eb];rwa[show(w.alloc (.cells #[.bool na,sa,.int .i64 ea] 65)).heap.size=w.heap.size+1 by simp]at this
theorem Qbs{na nb:Bool}{sa sb:Value}{ea eb:Int}{ma mb:Nat}{w:World}(ha:Dg w sa ma)(hc:Dg w sb mb)(hST:Qe na ma≠Qe nb mb\/Qe na ma=0) :
  Calls Tryz.prog 102 #[.agg #[.bool na,sa,.int .i64 ea],.agg #[.bool nb,sb,.int .i64 eb]] w fun q w'=>q=.returned (.int .i64 (Wd (nv na ma ea) (nv nb mb eb)))/\Below w.heap.size w w':=by
 have ST:=h_ (Zz.start (na:=na) (nb:=nb) (ea:=ea) (eb:=eb) ha hc);obtain⟨a,k,c,rfl,-⟩:=ha.form;obtain⟨a',k',c',rfl,-⟩:=hc.form;clear ha hc;obtain⟨a1,a2,a3⟩:=Lt (neg:=na) (m:=ma) (e:=ea);obtain⟨b1,b2,b3⟩:=Lt (neg:=nb) (m:=mb) (e:=eb);have hS:Qe na ma=0\/Qe na ma=1\/Qe na ma=-1:=by unfold Qe;split<;>(try split)<;>simp
 have hT:Qe nb mb=0\/Qe nb mb=1\/Qe nb mb=-1:=by unfold Qe;split<;>(try split)<;>simp
 have CA:Qb (∀w (h:Yf w (.agg #[.bool na,.slice a k c,.int .i64 ea]) na ma ea),Calls Tryz.prog 139 #[.agg #[.bool na,.slice a k c,.int .i64 ea]] w fun x w'=>x=.returned (.int .i64 (Qe na ma))/\Below w.heap.size w w'):=fun w h=>Pp h;have CB:Qb (∀w (h:Yf w (.agg #[.bool nb,.slice a' k' c',.int .i64 eb]) nb mb eb),Calls Tryz.prog 139 #[.agg #[.bool nb,.slice a' k' c',.int .i64 eb]] w fun x w'=>x=.returned (.int .i64 (Qe nb mb))/\Below w.heap.size w w'):=fun w h=>Pp h;generalize nv na ma ea=za at *
 generalize nv nb mb eb=zb at *
 generalize Qe na ma=S at *
 generalize Qe nb mb=T at *
 have hor:(S<T/\Qb (Wd za zb=-1))\/(T<S/\Qb (Wd za zb=1))\/((S=0/\T=0)/\Qb (Wd za zb=0)):=by
  rcases Int.lt_trichotomy S T with h|h|h
  .exact .inl ⟨h,G7 (by omega)⟩
  .exact .inr (.inr ⟨by omega,Rk (by omega)⟩)
  .exact .inr (.inl ⟨h,G8 (by omega)⟩)
 clear hST a1 a2 a3 b1 b2 b3 hS hT;generalize Wd za zb=R at *
 have HOR:=h_ hor;clear hor;go_enter Tryz.func102,Tryz.ntmps102;go_upto_region 1 with(fail)
 generalize (alloc (alloc _ _) _)=w1 at ST |-;go_cut [5,6] (fun s t wx=>s=.int .i64 S/\t=.int .i64 T/\Qb (Zz na nb (.slice a k c) (.slice a' k' c') ea eb ma mb w wx))
 case first =>
  have F0:=h_ ST.o.cells;have F1:=h_ ST.o.drew.cells;obtain⟨x0,x1,x2,y0,y1,y2⟩:=F0.o
  go_region_held3 (fun w'=>w'.cell? ⟨w.heap.size,0,none⟩=some (.bool na)/\w'.cell? ⟨w.heap.size,1,none⟩=some (.slice a k c)/\w'.cell? ⟨w.heap.size,2,none⟩=some (.int .i64 ea)/\w'.cell? ⟨w.heap.size+1,0,none⟩=some (.bool nb)/\w'.cell? ⟨w.heap.size+1,1,none⟩=some (.slice a' k' c')/\w'.cell? ⟨w.heap.size+1,2,none⟩=some (.int .i64 eb)) (first|exact F0.o|exact F1.o|exact FA.o|exact FB.o|exact FC.o) (first|(go_at_call 139;(with_reducible refine(CB.o _ SA.o.hc).mono ?_);rintro r w3 ⟨rfl,hb⟩;have HL:=h_ (SA.o.below hb);have FC:=h_ HL.o.cells)|(go_at_call 139;(with_reducible refine(CA.o _ SB.o.ha).mono ?_);rintro r w3 ⟨rfl,hb⟩;have HL:=h_ (SB.o.below hb);have FC:=h_ HL.o.cells)|(go_at_call 139;(with_reducible refine(CA.o _ ST.o.drew.ha).mono ?_);rintro r w2 ⟨rfl,hb⟩;have SA:=h_ (ST.o.drew.below hb);have FA:=h_ SA.o.cells)|(go_at_call 139;(with_reducible refine(CB.o _ ST.o.drew.hc).mono ?_);rintro r w2 ⟨rfl,hb⟩;have SB:=h_ (ST.o.drew.below hb);have FB:=h_ SB.o.cells))
  all_goals go_wp2_with fail
  all_goals go_meet
  all_goals exact⟨rfl,rfl,HL⟩
 case rest =>
  obtain⟨rfl,rfl,HC⟩:=hcut;rcases HOR.o with⟨h,hr⟩|⟨h,hr⟩|⟨⟨h1,h2⟩,hr⟩
  .have t1:(S != T)=true:=by rw[bne_iff_ne];omega
   have HB:=h_ HC.o.b;clear HOR CA CB ST;go_wp2;go_ret;exact⟨Jd hr.o.symm,HB.o⟩
  .have t1:(S != T)=true:=by rw[bne_iff_ne];omega
   have t2:decide (S<T)=false:=decide_eq_false (by omega);have HB:=h_ HC.o.b;clear HOR CA CB ST;go_wp2;go_ret;exact⟨Jd hr.o.symm,HB.o⟩
  .subst h1 h2;have HB:=h_ HC.o.b;clear HOR CA CB ST;go_wp2;go_ret;exact⟨Jd hr.o.symm,HB.o⟩
theorem Qew{neg:Bool}{m:Nat}{e:Int}(h:m≠0)(he:-6000<=e):(bl (nv neg m e).natAbs:Int)=bl m+(e+6000):=by rw[Sj,Zi (Nat.mul_ne_zero h (Nat.ne_of_gt (Nat.two_pow_pos _))),Cd _ _ h,Zi h];omega
theorem Qex{m n:Nat}(h:bl m<bl n):m<n:=by apply Nat.lt_of_not_le;intro hle;have h1:=Zb m;have h2:=Zp (n:=n) (k:=bl m) (by omega);omega
theorem Qdm{n0:Bool}{sa sb:Value}{ea eb:Int}{ma mb:Nat}{w:World}(ha:Dg w sa ma)(hc:Dg w sb mb)(h0:ma≠0)(k0:mb≠0)(hea:-6000<=ea/\ea<=6000)(heb:-6000<=eb/\eb<=6000)(hza:Bz (nv n0 ma ea))(hzb:Bz (nv n0 mb eb)) :
  Calls Tryz.prog 102 #[.agg #[.bool n0,sa,.int .i64 ea],.agg #[.bool n0,sb,.int .i64 eb]] w fun q w'=>q=.returned (.int .i64 (Wd (nv n0 ma ea) (nv n0 mb eb)))/\Below w.heap.size w w':=by
 have ST:=h_ (Zz.start (na:=n0) (nb:=n0) (ea:=ea) (eb:=eb) ha hc);obtain⟨a,k,c,rfl,-⟩:=ha.form;obtain⟨a',k',c',rfl,-⟩:=hc.form;clear ha hc;have hS:Qe n0 ma=Qe n0 mb/\Qe n0 ma≠0:=by cases n0<;>simp only[K6 h0,K6 k0,K7 h0,K7 k0]<;>decide
 obtain⟨hS1,hS2⟩:=hS;have CA:Qb (∀w (h:Yf w (.agg #[.bool n0,.slice a k c,.int .i64 ea]) n0 ma ea),Calls Tryz.prog 139 #[.agg #[.bool n0,.slice a k c,.int .i64 ea]] w fun x w'=>x=.returned (.int .i64 (Qe n0 ma))/\Below w.heap.size w w'):=fun w h=>Pp h;have CB:Qb (∀w (h:Yf w (.agg #[.bool n0,.slice a' k' c',.int .i64 eb]) n0 mb eb),Calls Tryz.prog 139 #[.agg #[.bool n0,.slice a' k' c',.int .i64 eb]] w fun x w'=>x=.returned (.int .i64 (Qe n0 ma))/\Below w.heap.size w w'):=fun w h=>hS1▸Pp h;have TA:Qb (∀w (h:Yf w (.agg #[.bool n0,.slice a k c,.int .i64 ea]) n0 ma ea),Calls Tryz.prog 140 #[.agg #[.bool n0,.slice a k c,.int .i64 ea]] w fun x w'=>x=.returned (.int .i64 ((bl ma:Int)-1+ea))/\Below w.heap.size w w'):=fun w h=>Af h (An hza hea.1) (by omega);have TB:Qb (∀w (h:Yf w (.agg #[.bool n0,.slice a' k' c',.int .i64 eb]) n0 mb eb),Calls Tryz.prog 140 #[.agg #[.bool n0,.slice a' k' c',.int .i64 eb]] w fun x w'=>x=.returned (.int .i64 ((bl mb:Int)-1+eb))/\Below w.heap.size w w'):=fun w h=>Af h (An hzb heb.1) (by omega);have t1:=Qew (neg:=n0) h0 hea.1;have t2:=Qew (neg:=n0) k0 heb.1;have t3:=Sj n0 ma ea;have hsg:(n0=false/\0<=nv n0 ma ea/\0<=nv n0 mb eb)\/(n0=true/\nv n0 ma ea<=0/\nv n0 mb eb<=0):=by
  cases n0
  .left;unfold nv sg;exact⟨rfl,by rw[if_neg (by decide)];exact Int.natCast_nonneg _,by rw[if_neg (by decide)];exact Int.natCast_nonneg _⟩
  .right;unfold nv sg;have h1:=Int.natCast_nonneg (ma*2^(ea+6000).toNat);have h2:=Int.natCast_nonneg (mb*2^(eb+6000).toNat);exact⟨rfl,by rw[if_pos rfl];omega,by rw[if_pos rfl];omega⟩
 obtain⟨U,hU⟩:∃U,(bl ma:Int)-1+ea=U:=⟨_,rfl⟩
 obtain⟨V,hV⟩:∃V,(bl mb:Int)-1+eb=V:=⟨_,rfl⟩
 rw[hU]at TA;rw[hV]at TB;have ht:(U<V->Qb (Wd (nv n0 ma ea) (nv n0 mb eb)=if n0 then 1 else -1))/\(V<U->Qb (Wd (nv n0 ma ea) (nv n0 mb eb)=if n0 then -1 else 1)):=by
  constructor
  .intro h;have h1:=Qex (m:=(nv n0 ma ea).natAbs) (n:=(nv n0 mb eb).natAbs) (by omega);rcases hsg with⟨rfl,s1,s2⟩|⟨rfl,s1,s2⟩
   .exact G7 (by omega)
   .exact G8 (by omega)
  .intro h;have h1:=Qex (m:=(nv n0 mb eb).natAbs) (n:=(nv n0 ma ea).natAbs) (by omega);rcases hsg with⟨rfl,s1,s2⟩|⟨rfl,s1,s2⟩
   .exact G8 (by omega)
   .exact G7 (by omega)
 have HT:=h_ ht;have NA:NZ w (.agg #[.bool n0,.slice a k c,.int .i64 ea]) (nv n0 ma ea) (-6000)->True:=fun _=>trivial;have hsum:nv n0 ma ea+nv (!n0) mb eb=nv n0 ma ea-nv n0 mb eb:=by unfold nv sg;cases n0<;>simp<;>omega
 have hneg:Bz (nv (!n0) mb eb):=by unfold Bz at *;rw[Sj]at *;exact hzb
 have CADD:Qb (∀w (h:Dg w (.slice a k c) ma) (h':Dg w (.slice a' k' c') mb),Calls Tryz.prog 104 #[.agg #[.bool n0,.slice a k c,.int .i64 ea],.agg #[.bool (!n0),.slice a' k' c',.int .i64 eb]] w (Od (nv n0 ma ea-nv n0 mb eb) (-6000) w)):=fun w h h'=>by rw[<-hsum];exact Qdv ⟨n0,ma,ea,⟨_,rfl,h⟩,hea.1,hea.2,rfl⟩ ⟨!n0,mb,eb,⟨_,rfl,h'⟩,heb.1,heb.2,rfl⟩ (Int.le_refl _) hza hneg
 have HD:Qb (∀D,nv n0 ma ea-nv n0 mb eb=D->(D=0->Wd (nv n0 ma ea) (nv n0 mb eb)=0)/\(0<D->Wd (nv n0 ma ea) (nv n0 mb eb)=1)/\(D<0->Wd (nv n0 ma ea) (nv n0 mb eb)=-1)):=fun D h=>⟨fun _=>Rk (by omega),fun _=>G8 (by omega),fun _=>G7 (by omega)⟩
 generalize Qe n0 ma=S at *
 have e1:(S==0)=false:=by rw[beq_eq_false_iff_ne];exact hS2
 generalize Wd (nv n0 ma ea) (nv n0 mb eb)=R at *
 obtain⟨D,hD⟩:∃D,nv n0 ma ea-nv n0 mb eb=D:=⟨_,rfl⟩
 have HD2:=h_ (HD.o D hD);rw[hD]at CADD;clear hS1 hS2 t1 t2 t3 hsg hU hV ht NA hsum hneg HD hD hza hzb h0 k0 hea heb;have hse:(S != S)=false:=by simp
 go_enter Tryz.func102,Tryz.ntmps102;go_upto_region 1 with(fail)
 generalize (alloc (alloc _ _) _)=w1 at ST |-;go_cut [5,6] (fun s t wx=>s=.int .i64 S/\t=.int .i64 S/\Qb (Zz n0 n0 (.slice a k c) (.slice a' k' c') ea eb ma mb w wx))
 case first =>
  have F0:=h_ ST.o.cells;have F1:=h_ ST.o.drew.cells;obtain⟨x0,x1,x2,y0,y1,y2⟩:=F0.o
  go_region_held3 (fun w'=>w'.cell? ⟨w.heap.size,0,none⟩=some (.bool n0)/\w'.cell? ⟨w.heap.size,1,none⟩=some (.slice a k c)/\w'.cell? ⟨w.heap.size,2,none⟩=some (.int .i64 ea)/\w'.cell? ⟨w.heap.size+1,0,none⟩=some (.bool n0)/\w'.cell? ⟨w.heap.size+1,1,none⟩=some (.slice a' k' c')/\w'.cell? ⟨w.heap.size+1,2,none⟩=some (.int .i64 eb)) (first|exact F0.o|exact F1.o|exact FA.o|exact FB.o|exact FC.o) (first|(go_at_call 139;(with_reducible refine(CB.o _ SA.o.hc).mono ?_);rintro r w3 ⟨rfl,hb⟩;have HL:=h_ (SA.o.below hb);have FC:=h_ HL.o.cells)|(go_at_call 139;(with_reducible refine(CA.o _ SB.o.ha).mono ?_);rintro r w3 ⟨rfl,hb⟩;have HL:=h_ (SB.o.below hb);have FC:=h_ HL.o.cells)|(go_at_call 139;(with_reducible refine(CA.o _ ST.o.drew.ha).mono ?_);rintro r w2 ⟨rfl,hb⟩;have SA:=h_ (ST.o.drew.below hb);have FA:=h_ SA.o.cells)|(go_at_call 139;(with_reducible refine(CB.o _ ST.o.drew.hc).mono ?_);rintro r w2 ⟨rfl,hb⟩;have SB:=h_ (ST.o.drew.below hb);have FB:=h_ SB.o.cells))
  all_goals go_wp2_with fail
  all_goals go_meet
  all_goals exact⟨rfl,rfl,HL⟩
 case rest =>
  obtain⟨rfl,rfl,HC⟩:=hcut;go_upto_region 8 with(fail)
  go_cut [28] (fun s wx=>s=.bool (U != V)/\Qb (Zz n0 n0 (.slice a k c) (.slice a' k' c') ea eb ma mb w wx))
  case first =>
   have F0:=h_ HC.o.cells;have F1:=h_ HC.o.drew.cells;obtain⟨x0,x1,x2,y0,y1,y2⟩:=F0.o
   go_region_held3 (fun w'=>w'.cell? ⟨w.heap.size,0,none⟩=some (.bool n0)/\w'.cell? ⟨w.heap.size,1,none⟩=some (.slice a k c)/\w'.cell? ⟨w.heap.size,2,none⟩=some (.int .i64 ea)/\w'.cell? ⟨w.heap.size+1,0,none⟩=some (.bool n0)/\w'.cell? ⟨w.heap.size+1,1,none⟩=some (.slice a' k' c')/\w'.cell? ⟨w.heap.size+1,2,none⟩=some (.int .i64 eb)) (first|exact F0.o|exact F1.o|exact FA.o|exact FB.o|exact FC.o) (first|(go_at_call 140;(with_reducible refine(TB.o _ SA.o.hc).mono ?_);rintro r w3 ⟨rfl,hb⟩;have HL:=h_ (SA.o.below hb);have FC:=h_ HL.o.cells)|(go_at_call 140;(with_reducible refine(TA.o _ SB.o.ha).mono ?_);rintro r w3 ⟨rfl,hb⟩;have HL:=h_ (SB.o.below hb);have FC:=h_ HL.o.cells)|(go_at_call 140;(with_reducible refine(TA.o _ HC.o.drew.ha).mono ?_);rintro r w2 ⟨rfl,hb⟩;have SA:=h_ (HC.o.drew.below hb);have FA:=h_ SA.o.cells)|(go_at_call 140;(with_reducible refine(TB.o _ HC.o.drew.hc).mono ?_);rintro r w2 ⟨rfl,hb⟩;have SB:=h_ (HC.o.drew.below hb);have FB:=h_ SB.o.cells))
   all_goals go_wp2_with fail
   all_goals go_meet
   all_goals exact⟨rfl,HL⟩
  case rest =>
   obtain⟨rfl,HC2⟩:=hcut;rcases Int.lt_trichotomy U V with huv|huv|huv
   .have HR:=h_ (HT.o.1 huv).o;have q1:(U != V)=true:=by rw[bne_iff_ne];omega
    have q2:decide (U<V)=true:=decide_eq_true huv;clear CADD HD2 HT;rw[q1];go_upto_region 9 with(fail)
    go_cut [36] (fun s wx=>s=.bool (!n0)/\Qb (Zz n0 n0 (.slice a k c) (.slice a' k' c') ea eb ma mb w wx))
    case first =>
     have F0:=h_ HC2.o.cells;have F1:=h_ HC2.o.drew.cells;obtain⟨x0,x1,x2,y0,y1,y2⟩:=F0.o
     go_region_held3 (fun w'=>w'.cell? ⟨w.heap.size,0,none⟩=some (.bool n0)/\w'.cell? ⟨w.heap.size,1,none⟩=some (.slice a k c)/\w'.cell? ⟨w.heap.size,2,none⟩=some (.int .i64 ea)/\w'.cell? ⟨w.heap.size+1,0,none⟩=some (.bool n0)/\w'.cell? ⟨w.heap.size+1,1,none⟩=some (.slice a' k' c')/\w'.cell? ⟨w.heap.size+1,2,none⟩=some (.int .i64 eb)) (first|exact F0.o|exact F1.o|exact FA.o|exact FB.o|exact FC.o) (first|(go_at_call 140;(with_reducible refine(TB.o _ SA.o.hc).mono ?_);rintro r w3 ⟨rfl,hb⟩;have HL:=h_ (SA.o.below hb);have FC:=h_ HL.o.cells)|(go_at_call 140;(with_reducible refine(TA.o _ SB.o.ha).mono ?_);rintro r w3 ⟨rfl,hb⟩;have HL:=h_ (SB.o.below hb);have FC:=h_ HL.o.cells)|(go_at_call 140;(with_reducible refine(TA.o _ HC2.o.drew.ha).mono ?_);rintro r w2 ⟨rfl,hb⟩;have SA:=h_ (HC2.o.drew.below hb);have FA:=h_ SA.o.cells)|(go_at_call 140;(with_reducible refine(TB.o _ HC2.o.drew.hc).mono ?_);rintro r w2 ⟨rfl,hb⟩;have SB:=h_ (HC2.o.drew.below hb);have FB:=h_ SB.o.cells))
     all_goals go_wp2_with fail
     all_goals go_meet
     all_goals exact⟨rfl,HL⟩
    case rest =>
     obtain⟨rfl,HC3⟩:=hcut;have HB:=h_ HC3.o.b;clear HC2 HC3 TA TB huv;cases n0
     .go_wp2;go_ret;exact⟨Jd HR.o.symm,HB.o⟩
     .go_wp2;go_ret;exact⟨Jd HR.o.symm,HB.o⟩
   .subst huv;have q1:(U != U)=false:=by simp
    rw[q1];obtain⟨x0,x1,x2,y0,y1,y2⟩:=HC2.o.cells;have f0:=HC2.o.y.frozen 0;have HN:=h_ HC2.o.flip;go_wp2_with fail;refine(CADD.o _ HN.o.a HN.o.c).mono ?_;rintro r w4 ⟨v,rfl,⟨ng,m,e,hn,e1',e2',hv⟩,hb⟩;have HB:=h_ (HN.o.b.trans (hb.mono HN.o.b.size));have HN4:=h_ hn;have hsg:=Lt (neg:=ng) (m:=m) (e:=e);rw[hv]at hsg;have HR:Qb (Qe ng m=R):=by
     have h1:=HD2.o;rcases Int.lt_trichotomy D 0 with h|h|h
     .rw[Qb,h1.2.2 h];exact hsg.2.2.2 h
     .rw[Qb,h1.1 h];exact hsg.1.2 h
     .rw[Qb,h1.2.1 h];exact hsg.2.1.2 h
    clear hn hb hv hsg HN CADD HC2 HD2 x0 x1 x2 y0 y1 y2 f0 e1' e2';go_wp2_with fail;refine(Pp HN4.o).mono ?_;rintro r w5 ⟨rfl,hb⟩;have HB5:=h_ (HB.o.trans (hb.mono HB.o.size));go_wp2;go_ret;exact⟨Jd HR.o,HB5.o⟩
   .have HR:=h_ (HT.o.2 huv).o;have q1:(U != V)=true:=by rw[bne_iff_ne];omega
    have q2:decide (U<V)=false:=decide_eq_false (by omega);clear CADD HD2 HT;rw[q1];go_upto_region 9 with(fail)
    go_cut [36] (fun s wx=>s=.bool n0/\Qb (Zz n0 n0 (.slice a k c) (.slice a' k' c') ea eb ma mb w wx))
    case first =>
     have F0:=h_ HC2.o.cells;have F1:=h_ HC2.o.drew.cells;obtain⟨x0,x1,x2,y0,y1,y2⟩:=F0.o
     go_region_held3 (fun w'=>w'.cell? ⟨w.heap.size,0,none⟩=some (.bool n0)/\w'.cell? ⟨w.heap.size,1,none⟩=some (.slice a k c)/\w'.cell? ⟨w.heap.size,2,none⟩=some (.int .i64 ea)/\w'.cell? ⟨w.heap.size+1,0,none⟩=some (.bool n0)/\w'.cell? ⟨w.heap.size+1,1,none⟩=some (.slice a' k' c')/\w'.cell? ⟨w.heap.size+1,2,none⟩=some (.int .i64 eb)) (first|exact F0.o|exact F1.o|exact FA.o|exact FB.o|exact FC.o) (first|(go_at_call 140;(with_reducible refine(TB.o _ SA.o.hc).mono ?_);rintro r w3 ⟨rfl,hb⟩;have HL:=h_ (SA.o.below hb);have FC:=h_ HL.o.cells)|(go_at_call 140;(with_reducible refine(TA.o _ SB.o.ha).mono ?_);rintro r w3 ⟨rfl,hb⟩;have HL:=h_ (SB.o.below hb);have FC:=h_ HL.o.cells)|(go_at_call 140;(with_reducible refine(TA.o _ HC2.o.drew.ha).mono ?_);rintro r w2 ⟨rfl,hb⟩;have SA:=h_ (HC2.o.drew.below hb);have FA:=h_ SA.o.cells)|(go_at_call 140;(with_reducible refine(TB.o _ HC2.o.drew.hc).mono ?_);rintro r w2 ⟨rfl,hb⟩;have SB:=h_ (HC2.o.drew.below hb);have FB:=h_ SB.o.cells))
     all_goals go_wp2_with fail
     all_goals go_meet
     all_goals exact⟨rfl,HL⟩
    case rest =>
     obtain⟨rfl,HC3⟩:=hcut;have HB:=h_ HC3.o.b;clear HC2 HC3 TA TB huv;cases n0
     .go_wp2;go_ret;exact⟨Jd HR.o.symm,HB.o⟩
     .go_wp2;go_ret;exact⟨Jd HR.o.symm,HB.o⟩
theorem Cl{u v:Value}{w:World}{za zb lo:Int}(h:NZ w u za lo)(k:NZ w v zb lo)(hlo:-6000<=lo)(ha:Bz za)(hb:Bz zb) :
  Calls Tryz.prog 102 #[u,v] w fun q w'=>q=.returned (.int .i64 (Wd za zb))/\Below w.heap.size w w':=by
 obtain⟨na,ma,ea,⟨sa,rfl,da⟩,h1,h2,rfl⟩:=h;obtain⟨nb,mb,eb,⟨sb,rfl,db⟩,k1,k2,rfl⟩:=k;by_cases hST:Qe na ma≠Qe nb mb\/Qe na ma=0
 .exact Qbs da db hST
 .have h3:Qe na ma=Qe nb mb/\Qe na ma≠0:=by
   constructor
   .apply Decidable.byContradiction;intro h;exact hST (.inl h)
   .intro h;exact hST (.inr h)
  obtain⟨h4,h5⟩:=h3;have m0:ma≠0:=fun h=>h5 (by subst h;rfl);have n0:mb≠0:=fun h=>h5 (by rw[h4];subst h;rfl);have hn:na=nb:=by cases na<;>cases nb<;>simp only[K6 m0,K6 n0,K7 m0,K7 n0]at h4<;>first|rfl|(exact absurd h4 (by decide))
  subst hn;exact Qdm da db m0 n0 (by omega) (by omega) ha hb
end Go.Proofs.YtobpioceopfkpaaGreatDoor.Rf
