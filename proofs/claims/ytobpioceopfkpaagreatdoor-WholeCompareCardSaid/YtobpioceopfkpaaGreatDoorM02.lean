/-
  Lemmas for WholeCompare (part 2); without conditions.
-/
import Derived.Test.YtobpioceopfkpaaGreatDoorM01
import Derived.StillTailTactics
import Derived.Deep.DeepCutAuto
import Derived.Deep.CutBlock
set_option maxRecDepth 100000
set_option maxHeartbeats 4000000
namespace Go.Proofs.YtobpioceopfkpaaGreatDoor
open Go.RowKit
open World (setCell alloc drew)
open List (set_cons_zero set_cons_succ setIfInBounds_toArray cons_append nil_append)
theorem Ky{P:Program}{f:FuncId}{args:Array Value}{w:World}{v:Value}(h:Calls P f args w fun e w'=>e=.returned v/\w=w'):Calls P f args w fun e w'=>e=.returned v/\w'=w :=
 h.mono fun _ _ ⟨h1,h2⟩=>⟨h1,h2.symm⟩
theorem Gx{P:Program}{id:Nat}{Q:Exit->Act->World->Prop}{a:Act}{w:World}{l:List Oper}(n:Nat)(hm:P.follows .mixedOrders=true)(hB:Region.lexTailB .any l.toArray n=true)
  (h:∀w',Qb (w'=w.drew)->wpStill P l.toArray w' (fun a'=>wpList P l.toArray Q (l.drop n) a' w') (l.take n) a):(Code.region id l.toArray true).wp P Q a w :=
 wp_region_still_tail n hm hB (h _ rfl)
theorem Ks{P:Program}{ops:Array Oper}{w:World}{Q:Act->Prop}{a:Act}(h:Q a):wpStill P ops w Q [] a:=h
theorem Qke{m n:Nat}(h:m≠0):lo m<n↔m%2^n≠0:=by
 obtain⟨k,hk⟩:=Pl h;constructor
 .intro hl h0;obtain⟨c,hc⟩:=Nat.dvd_of_mod_eq_zero h0;obtain⟨d,rfl⟩:∃d,n=lo m+(d+1):=⟨n-lo m-1,by omega⟩
  rw[Nat.pow_add,Nat.mul_assoc]at hc;have:=Nat.eq_of_mul_eq_mul_left (Nat.two_pow_pos (lo m)) (hk.symm.trans hc);rw[Nat.pow_succ,Nat.mul_comm (2^d) 2,Nat.mul_assoc]at this;omega
 .intro h0;apply Nat.lt_of_not_le;intro hle;apply h0;obtain⟨d,hd⟩:∃d,lo m=n+d:=⟨lo m-n,by omega⟩
  rw[hk,hd,Nat.pow_add,Nat.mul_assoc];exact Nat.mul_mod_right _ _
theorem Xq.drew{n:Nat}{w wr:World}{out:Value}{O:List Nat}{k:Nat}(h:Xq n w wr out O k):Xq n w wr.drew out O k:=⟨h.own,h.digs,h.zero,Qw h.b 1⟩
theorem Qif{x y p r:Nat}(hx:x<18446744073709551616)(hpr:r+p=64):bits .or .u64 ((x:Int)/2^p) (IntKind.u64.wrap ((y:Int)*2^r))=((x/2^p+y*2^r%18446744073709551616:Nat):Int):=by
 have hR:(18446744073709551616:Nat)=2^r*2^p:=by rw[<-Nat.pow_add,hpr]
 have h1:x/2^p<2^r:=Nat.div_lt_of_lt_mul (by rw[Nat.mul_comm,<-hR];exact hx);have h2:y*2^r%18446744073709551616=2^r*(y%2^p):=by rw[hR,Nat.mul_comm y,Nat.mul_mod_mul_left]
 have h3:y*2^r%18446744073709551616<18446744073709551616:=Nat.mod_lt _ (Nat.zero_lt_succ _);have h4:x/2^p<=x:=Nat.div_le_self _ _;have e1:(x:Int)/2^p=((x/2^p:Nat):Int):=by rw[Int.natCast_ediv];simp
 have e2:IntKind.u64.wrap ((y:Int)*2^r)=((y*2^r%18446744073709551616:Nat):Int):=by rw[IntKind.wrap_u64,Int.natCast_emod,Int.natCast_mul];simp
 rw[e1,e2];rw[u64_or _ _ (Int.natCast_nonneg _) (by omega) (Int.natCast_nonneg _) (by omega),Int.toNat_natCast,Int.toNat_natCast,h2,Nat.or_comm,Gz h1,Nat.add_comm]
def Qb5(n:Nat)(b:Bool)(w:World)(e:Ending)(w':World):Prop:=∃u,e=.returned (.tuple #[u,.bool b])/\Dg w' u n/\Below w.heap.size w w'
theorem S8{L:List Nat}{v:Value}{w:World}(h:Qr w v L)(hl:L.length<=100000)(n:Nat)(hn:n<=1000000000) :
  Calls Tryz.prog 76 #[v,.int .i64 (n:Int)] w (Qb5 (Qc L/2^n) (decide (Qc L%2^n≠0)) w):=by
 have HB:=h_ (Xp h (by omega));have LA:Qb (∀A,Zf A (Qc L)->A.length<=100000):=by intro A hA;refine Nat.le_trans ?_ hl;apply Nat.le_of_not_lt;intro hlt;have h1:=hA.top (by intro he;subst he;simp at hlt);have h3:=Vc (show L.length<=A.length-1 by omega);exact Nat.lt_irrefl _ (Nat.lt_of_lt_of_le (J0 h.digs) (Nat.le_trans h3 h1))
 clear h;generalize Qc L=m at *
 have hmx:max (n:Int) 0=n:=by omega
 go_enter Tryz.func76,Tryz.ntmps76;go_wp2_with fail;refine HB.o.mono ?_;rintro e w1 ⟨u,rfl,hu,hb1⟩;obtain⟨A,hA,cA⟩:=hu;have hAl:=LA.o A cA;have HBits:=h_ (Ka hA (by omega));rw[cA.val]at HBits;obtain⟨a,c,rfl,-⟩:=hA.sl.form;have HA:=h_ hA;have CA:=h_ cA;have HB1:=h_ hb1;clear hb1 hA HB LA;go_wp2_with fail;refine HBits.o.mono ?_;rintro e w2 ⟨rfl,hb2⟩;have HA2:=h_ (HA.o.below hb2);have HB2:=h_ (HB1.o.trans (hb2.mono HB1.o.size));clear hb2 HA HB1 HBits;by_cases hnb:bl m<=n
 .have h1:m<2^n:=Nat.lt_of_lt_of_le (Zb m) (Nat.pow_le_pow_right (by omega) hnb);have hq:Qb (m/2^n=0):=Nat.div_eq_of_lt h1;have hr:Qb (decide (0<A.length)=decide (m%2^n≠0)):=by
   rw[Qb,Nat.mod_eq_of_lt h1,Bool.eq_iff_iff,decide_eq_true_iff,decide_eq_true_iff];constructor
   .intro hp h0;subst h0;rw[CA.o.zero]at hp;simp at hp
   .exact CA.o.pos
  obtain⟨rb,hrb⟩:∃rb,rb=decide (0<A.length):=⟨_,rfl⟩
  rw[<-hrb]at hr;have g1:decide ((0:Int)<(A.length:Int))=rb:=by rw[hrb,Bool.eq_iff_iff,decide_eq_true_iff,decide_eq_true_iff];omega
  have g2:decide (0<A.length)=rb:=hrb.symm;clear h1 hrb;generalize bl m=b at *
  go_wp2;go_ret2;refine⟨.slice none 0 0,?_,?_,HB2.o⟩
  .rw[<-hr.o];rfl
  .rw[hq.o];exact Dg.nil HA2.o.tab
 .have hm0:m≠0:=by rintro rfl;rw[Tc]at hnb;omega
  have hp:=CA.o.pos hm0;have hbl:=CA.o.bits_len hm0;have hd64:=Zs (Qy CA.o.digs (A.length-1));obtain⟨q,hq⟩:∃q,q=n/64:=⟨_,rfl⟩
  obtain⟨p,hpp⟩:∃p,p=n%64:=⟨_,rfl⟩
  have hn64:n=64*q+p:=by omega
  have hp64:p<64:=by omega
  have hqA:q<A.length:=by omega
  have e1:((n:Int)/64)=q:=by omega
  have e2:((n:Int)%64)=p:=by omega
  obtain⟨len,hlen⟩:∃len,len=A.length-q:=⟨_,rfl⟩
  have e3:(A.length:Int)-q=len:=by omega
  have hnb':n<bl m:=by omega
  have hll:len<=100000:=by omega
  have HLO:=h_ (Qke (n:=n) hm0);have HEND:Qb (∀X,X=m/2^n%18446744073709551616^len->X=m/2^n):=by intro X hX;rw[hX];apply Nat.mod_eq_of_lt;have h1:=CA.o.lt;rw[show A.length=q+len by omega,Nat.pow_add]at h1;refine Nat.lt_of_le_of_lt (Nat.div_le_div_left (c:=2^(64*q)) (Nat.pow_le_pow_right (by omega) (by omega)) (Nat.two_pow_pos _)) ?_;rw[<-Wf];exact Nat.div_lt_of_lt_mul h1
  have HDIG:Qb (∀i,m/2^n/18446744073709551616^i%18446744073709551616=dg A (q+i)/2^p+dg A (q+i+1)*2^(64-p)%18446744073709551616):=by intro i;rw[hn64,<-CA.o.val];exact Qaq CA.o.digs (by omega)
  have HLN:Qb (A.length=q+len):=by rw[Qb];omega
  obtain⟨r,hr⟩:∃r,r=64-p:=⟨_,rfl⟩
  rw[<-hr]at HDIG;have hr64:r<=64:=by omega
  have hwr:IntKind.i64.wrap (64-(p:Int))=(r:Int):=(IntWalk.i64_in _ (by omega)).trans (by omega);have HPR:Qb (r+p=64):=by rw[Qb];omega
  clear hr;clear hq hpp hlen hbl hd64 hnb hm0 hn64;generalize bl m=b at *
  have g0:(b:Int)<=n->False:=by omega
  have g1:decide ((b:Int)<=(n:Int))=false:=decide_eq_false (by omega);have g2:decide (b<=n)=false:=decide_eq_false (by omega);clear g0;go_wp2_with (refine Jb (w0:=w2) rfl (.tmp 29) 40 rfl w2.heap.size 22 (.int .u64 0) 8 Tryz.underlying40 Tryz.info22 rfl (by decide) _ _ len rfl (by have:=HLN.o;omega) (by omega) (Below.refl _ _) (Nat.le_refl _) ?_)
  intro w3 ho1 hb1 hB1;have hS:Qb (Xq len w2 w3 _ (List.replicate len 0) 0/\Qc (List.replicate len 0)=m/2^n%18446744073709551616^0):=⟨Xq.start ho1 hb1,by rw[Js,Nat.pow_zero,Nat.mod_one]⟩
  clear ho1 hb1 hB1;go_wp2
  go_loopw [33] (fun i wr=>∃(k:Nat) (O:List Nat),i=.int .i64 k/\k<=len/\Qb (Xq len w2 wr (.slice (some ⟨w2.heap.size,0,none⟩) len len) O k/\Qc O=m/2^n%18446744073709551616^k)) (fun i _=>len-(intOf i).toNat)
  case atStart=>exact⟨0,_,rfl,by omega,hS⟩
  case round =>
   obtain⟨k,O,rfl,hk,hh⟩:=hrel;by_cases hkl:k<len
   .have hfz:=hh.o.1.own.frozenAt k;have hx:wr.cell? ⟨w2.heap.size,k,none⟩=some (.int .u64 (dg O k:Nat)):=by rw[hh.o.1.own.cellAt k (by omega)];exact Jj (Qu (by rw[hh.o.1.len];exact hkl))
    have HRa:=h_ (HA2.o.below hh.o.1.b);have x1:=Qy CA.o.digs (q+k);have x2:=Qy CA.o.digs (q+k+1);have C1:Qb (∀w' z,z=((q+k:Nat):Int)->Qr w' (.slice a A.length c) A->Calls Tryz.prog 108 #[.slice a A.length c,.int .i64 z] w' fun e w''=>e=.returned (.int .u64 (dg A (q+k):Nat))/\w'=w''):=by rintro w' z rfl hw';have:=Vw hw' ((q+k:Nat):Int);rwa[Vg]at this
    have C2:Qb (∀w' z,z=((q+k+1:Nat):Int)->Qr w' (.slice a A.length c) A->Calls Tryz.prog 108 #[.slice a A.length c,.int .i64 z] w' fun e w''=>e=.returned (.int .u64 (dg A (q+k+1):Nat))/\w'=w''):=by rintro w' z rfl hw';have:=Vw hw' ((q+k+1:Nat):Int);rwa[Vg]at this
    have HST:Qb (∀u w',Qb (w'=wr.drew)->u=.int .u64 ((dg A (q+k)/2^p+dg A (q+k+1)*2^r%18446744073709551616:Nat):Int)->∃O',Qb (Xq len w2 (w'.setCell ⟨w2.heap.size,k,none⟩ u) (.slice (some ⟨w2.heap.size,0,none⟩) len len) O' (k+1)/\Qc O'=m/2^n%18446744073709551616^(k+1))):=by intro u w' hw' hu;have hm:=hh.o.1.mod hkl hh.o.2;have hlt:m/2^n/18446744073709551616^k%18446744073709551616<18446744073709551616:=Nat.mod_lt _ (Nat.zero_lt_succ _);rw[<-HDIG.o k]at hu;rw[hw'.o];exact⟨_,(Xq.drew hh.o.1).step (Nat.le_refl _) _ u hlt hu,hm⟩
    generalize dg A (q+k)=x at *
    generalize dg A (q+k+1)=y at *
    have hkq:(k:Int)+q<=200000:=by omega
    go_wp2_with fail;refine Gx 16 (by kernel_rfl) (by kernel_rfl) ?_;intro w4 h4;have HR4:Qb (Qr w4 (.slice a A.length c) A):=by rw[h4.o];exact⟨HRa.o.tab,HRa.o.sl,HRa.o.digs,HRa.o.cap⟩
    have hx4:w4.cell? ⟨w2.heap.size,k,none⟩=some (.int .u64 (dg O k:Nat)):=by rw[h4.o];exact hx
    have hf4:w4.frozen? ⟨w2.heap.size,k,none⟩=false:=by rw[h4.o];exact hfz
    simp only[List.take_succ_cons,List.take_zero,List.drop_succ_cons,List.drop_zero]
    repeat still_step
    still_call (Ky (C1.o _ _ (by omega) HR4.o))
    repeat still_step
    still_call (Ky (C2.o _ _ (by first|omega|(rw[IntWalk.i64_in _ (by omega)];omega)) HR4.o))
    repeat still_step
    have HV:=h_ (Qif (y:=y) x1 HPR.o);refine Ks ?_;go_wp2;obtain⟨O',HO⟩:=HST.o _ w4 h4 (congrArg (Value.int .u64) HV.o);go_roundw
    case rel=>exact⟨k+1,O',by go_num,by omega,HO⟩
    case measure=>simp[intOf];omega
   .obtain rfl:k=len:=by omega
    have HF:=h_ (HEND.o _ hh.o.2);have hlow:=h_ (fun w' (hw':Qr w' (.slice a A.length c) A)=>Ec hw' (by omega));rw[CA.o.val]at hlow;have hrr:Qb (decide ((lo m:Int)<(n:Int))=decide (m%2^n≠0)):=by rw[Qb,Bool.eq_iff_iff,decide_eq_true_iff,decide_eq_true_iff,<-HLO.o];omega
    obtain⟨rb,hrb⟩:∃rb,rb=decide (m%2^n≠0):=⟨_,rfl⟩
    rw[<-hrb]at hrr;have g3:decide ((lo m:Int)<(n:Int))=rb:=hrr.o;have g4:decide (lo m<n)=rb:=by rw[<-g3,Bool.eq_iff_iff,decide_eq_true_iff,decide_eq_true_iff];omega
    have HRB:=h_ hrb;clear hrb hrr;generalize lo m=lm at *
    go_wp2_with fail;refine(Xp (hh.o.1.raw HA2.o.tab) (by rw[hh.o.1.len];omega)).mono ?_;rintro e w4 ⟨u,rfl,hu,hb3⟩;have HU:Qb (Dg w4 u (m/2^n)):=by rw[<-HF.o];exact hu
    have HB4:=h_ (hh.o.1.b.trans (hb3.mono hh.o.1.b.size));have HA4:=h_ (HA2.o.below HB4.o);clear hu hb3;go_wp2_with fail;refine(hlow.o _ HA4.o).mono ?_;rintro e w5 ⟨rfl,rfl⟩;go_wp2;go_ret2;refine⟨u,?_,HU.o,HB2.o.trans (HB4.o.mono HB2.o.size)⟩;rw[<-HRB.o];rfl
def Kp(w w':World):Prop:=∀b o k z,(k=.u8\/k=.u64)->w.cell? ⟨b,o,none⟩=some (.int k z)->w'.cell? ⟨b,o,none⟩=some (.int k z)
theorem Kp.trans{a b c:World}(h:Kp a b)(k:Kp b c):Kp a c:=fun p o q z hq hc=>k p o q z hq (h p o q z hq hc)
theorem Kp.alloc(w:World)(o:Obj):Kp w (w.alloc o):=fun _ _ _ _ _ hc=>(World.cell?_alloc_lt w o _ (Wu hc)).trans hc
theorem Kp.drew(w:World):Kp w w.drew:=fun _ _ _ _ _ hc=>hc
theorem Qq.kp{w w':World}(h:Qq w)(K:Kp w w'):Qq w':=fun j hj=>K _ _ _ _ (.inl rfl) (h j hj)
theorem Qr.kp{w w':World}{v:Value}{L:List Nat}(h:Qr w v L)(K:Kp w w'):Qr w' v L:=by refine⟨h.tab.kp K,?_,h.digs,h.cap⟩;obtain⟨a,c,rfl,hc⟩:=h.sl;refine⟨a,c,rfl,fun hl=>?_⟩;obtain⟨b,off,rfl,hc2⟩:=hc hl;refine⟨b,off,rfl,fun i y hy=>?_⟩;have h1:=hc2 i y hy;rw[Qz,List.getElem?_map]at hy;obtain⟨d,_,rfl⟩:=Option.map_eq_some_iff.1 hy;exact K _ _ _ _ (.inr rfl) h1
theorem Dg.kp{w w':World}{v:Value}{n:Nat}(h:Dg w v n)(K:Kp w w'):Dg w' v n:=by obtain⟨L,h1,h2⟩:=h;exact⟨L,h1.kp K,h2⟩
def Nl(u:Value):Prop:=∀z,u≠.int .u8 z/\u≠.int .u64 z
theorem Nl.bool(b:Bool):Nl (.bool b):=fun _=>⟨nofun,nofun⟩
theorem Nl.i64(z:Int):Nl (.int .i64 z):=fun _=>⟨nofun,nofun⟩
theorem Nl.sl(a:Option Addr)(n c:Nat):Nl (.slice a n c):=fun _=>⟨nofun,nofun⟩
theorem Qr.nl{w:World}{v:Value}{L:List Nat}(h:Qr w v L):Nl v:=by obtain⟨a,c,rfl,_⟩:=h.sl;exact Nl.sl _ _ _
theorem Dg.nl{w:World}{v:Value}{n:Nat}(h:Dg w v n):Nl v:=by obtain⟨L,h1,_⟩:=h;exact h1.nl
theorem Kp.set{w:World}{g i:Nat}{t:TypeId}{cs:Array Value}{x:Value}(h:Qi w g t cs)(hx:cs[i]?=some x)(hn:Nl x)(u:Value):Kp w (w.setCell ⟨g,i,none⟩ u):=by
 intro b o k z hk hc;rw[World.cell?_setCell_other]
 .exact hc
 .intro he;injection he with e1 e2;subst e1 e2;have:=h.at i x hx;rw[hc]at this;have hz:=Option.some.inj this;rcases hk with rfl|rfl
  .exact(hn z).1 hz.symm
  .exact(hn z).2 hz.symm
structure Fr(w0 w:World)(bs:List (TypeId×Array Value)):Prop where
 b:Below w0.heap.size w0 w
 box:∀i t cs,bs[i]?=some (t,cs)->Qi w (w0.heap.size+i) t cs
 sz:w0.heap.size+bs.length<=w.heap.size
theorem Fr.nil(w:World):Fr w w []:=⟨Below.refl _ _,fun i t cs h=>by simp at h,Nat.le_refl _⟩
theorem Fr.fresh{w0 w:World}{bs:List (TypeId×Array Value)}(h:Fr w0 w bs)(hs:w.heap.size=w0.heap.size+bs.length)(t:TypeId)(cs:Array Value) :
  Fr w0 (w.alloc (.cells cs t)) (bs++[(t,cs)])/\(w.alloc (.cells cs t)).heap.size=w0.heap.size+(bs++[(t,cs)]).length:=by
 have h2:(w.alloc (.cells cs t)).heap.size=w0.heap.size+(bs++[(t,cs)]).length:=by simp[hs];omega
 refine⟨⟨h.b.alloc h.b.size _,?_,by rw[h2];exact Nat.le_refl _⟩,h2⟩;intro i t' cs' hi;by_cases hl:i<bs.length
 .rw[List.getElem?_append_left hl]at hi;exact(h.box i t' cs' hi).alloc _
 .rw[List.getElem?_append_right (by omega)]at hi;obtain rfl:i=bs.length:=by have:=(List.getElem?_eq_some_iff.1 hi).1;simp at this;omega
  simp at hi;obtain⟨rfl,rfl⟩:=hi;rw[<-hs];exact Qi.new w _ _
theorem Fr.one(w:World)(t:TypeId)(cs:Array Value):Fr w (w.alloc (.cells cs t)) [(t,cs)]:=((Fr.nil w).fresh rfl t cs).1
theorem Fr.two(w:World)(t:TypeId)(cs:Array Value)(t':TypeId)(cs':Array Value):Fr w ((w.alloc (.cells cs t)).alloc (.cells cs' t')) [(t,cs),(t',cs')]:=by obtain⟨a,b⟩:=(Fr.nil w).fresh rfl t cs;exact(a.fresh b t' cs').1
theorem Fr.three(w:World)(t:TypeId)(cs:Array Value)(t':TypeId)(cs':Array Value)(t'':TypeId)(cs'':Array Value):Fr w (((w.alloc (.cells cs t)).alloc (.cells cs' t')).alloc (.cells cs'' t'')) [(t,cs),(t',cs'),(t'',cs'')]:=by obtain⟨a,b⟩:=(Fr.nil w).fresh rfl t cs;obtain⟨c,d⟩:=a.fresh b t' cs';exact(c.fresh d t'' cs'').1
theorem Fr.call{w0 w w':World}{bs:List (TypeId×Array Value)}(h:Fr w0 w bs)(hb:Below w.heap.size w w'):Fr w0 w' bs :=
 ⟨h.b.trans (hb.mono h.b.size),fun i t cs hi=>(h.box i t cs hi).below hb,Nat.le_trans h.sz hb.size⟩
theorem Fr.drewN{w0 w:World}{bs:List (TypeId×Array Value)}(h:Fr w0 w bs)(n:Nat):Fr w0 (w.drewN n) bs:=⟨Qw h.b n,h.box,h.sz⟩
theorem Fr.drew{w0 w:World}{bs:List (TypeId×Array Value)}(h:Fr w0 w bs):Fr w0 w.drew bs:=h.drewN 1
theorem Fr.drewE{w0 w w':World}{bs:List (TypeId×Array Value)}(h:Fr w0 w bs)(e:w'=w.drew):Fr w0 w' bs:=e▸h.drew
theorem Kp.drewE{w w':World}(e:w'=w.drew):Kp w w':=e▸Kp.drew w
theorem Fr.set{w0 w:World}{bs:List (TypeId×Array Value)}(h:Fr w0 w bs)(i j:Nat){t:TypeId}{cs:Array Value}(hi:bs[i]?=some (t,cs))(u:Value) :
  Fr w0 (w.setCell ⟨w0.heap.size+i,j,none⟩ u) (bs.set i (t,cs.setIfInBounds j u)):=by
 refine⟨h.b.setCell (Nat.le_add_right _ _) _,?_,by simpa using h.sz⟩;intro k t' cs' hk;by_cases hik:k=i
 .subst hik;rw[List.getElem?_set_self (List.getElem?_eq_some_iff.1 hi).1]at hk;simp at hk;obtain⟨rfl,rfl⟩:=hk;exact(h.box k t cs hi).set j u
 .rw[List.getElem?_set_ne (Ne.symm hik)]at hk;exact(h.box k t' cs' hk).far (by simp;omega) u
theorem Fr.set3{w0 w:World}{bs:List (TypeId×Array Value)}(h:Fr w0 w bs)(i:Nat){t:TypeId}{x y z:Value}(hi:bs[i]?=some (t,#[x,y,z]))(hn:Nl x/\Nl y/\Nl z)(a b c:Value) :
  Fr w0 (((w.setCell ⟨w0.heap.size+i,0,none⟩ a).setCell ⟨w0.heap.size+i,1,none⟩ b).setCell ⟨w0.heap.size+i,2,none⟩ c) (bs.set i (t,#[a,b,c])) /\
  Kp w (((w.setCell ⟨w0.heap.size+i,0,none⟩ a).setCell ⟨w0.heap.size+i,1,none⟩ b).setCell ⟨w0.heap.size+i,2,none⟩ c):=by
 have hl:=(List.getElem?_eq_some_iff.1 hi).1;have h1:=h.set i 0 hi a;have h2:=h1.set i 1 (by rw[List.getElem?_set_self hl]) b;have h3:=h2.set i 2 (by rw[List.getElem?_set_self (by simpa using hl)]) c;rw[List.set_set,List.set_set]at h3;refine⟨h3,((Kp.set (i:=0) (x:=x) (h.box i _ _ hi) rfl hn.1 a).trans ?_)⟩;have k1:=h1.box i _ _ (by rw[List.getElem?_set_self hl]);have k2:=h2.box i _ _ (by rw[List.getElem?_set_self (by simpa using hl)]);exact(Kp.set (i:=1) (x:=y) k1 rfl hn.2.1 b).trans (Kp.set (i:=2) (x:=z) k2 rfl hn.2.2 c)
theorem Fr.st{w0 w:World}{bs:List (TypeId×Array Value)}(h:Fr w0 w bs)(i:Nat){t:TypeId}{x:Bool}{ya:Option Addr}{yn yc:Nat}{z:Int}(hi:bs[i]?=some (t,#[.bool x,.slice ya yn yc,.int .i64 z]))(a b c:Value) :
  Fr w0 (((w.setCell ⟨w0.heap.size+i,0,none⟩ a).setCell ⟨w0.heap.size+i,1,none⟩ b).setCell ⟨w0.heap.size+i,2,none⟩ c) (bs.set i (t,#[a,b,c])) /\
  Kp w (((w.setCell ⟨w0.heap.size+i,0,none⟩ a).setCell ⟨w0.heap.size+i,1,none⟩ b).setCell ⟨w0.heap.size+i,2,none⟩ c):=h.set3 i hi ⟨Nl.bool _,Nl.sl _ _ _,Nl.i64 _⟩ a b c
theorem Fr.c3{w0 w:World}{bs:List (TypeId×Array Value)}(h:Fr w0 w bs)(i:Nat){t:TypeId}{x y z:Value}(hi:bs[i]?=some (t,#[x,y,z])) :
  (w.cell? ⟨w0.heap.size+i,0,none⟩=some x/\w.cell? ⟨w0.heap.size+i,1,none⟩=some y/\w.cell? ⟨w0.heap.size+i,2,none⟩=some z) /\
  w.frozen? ⟨w0.heap.size+i,0,none⟩=false/\w.frozen? ⟨w0.heap.size+i,1,none⟩=false/\w.frozen? ⟨w0.heap.size+i,2,none⟩=false:=by
 have k:=h.box i _ _ hi;exact⟨⟨k.at 0 x rfl,k.at 1 y rfl,k.at 2 z rfl⟩,k.frozen 0,k.frozen 1,k.frozen 2⟩
theorem Fr.z3{w0 w:World}{bs:List (TypeId×Array Value)}(h:Fr w0 w bs){t:TypeId}{x y z:Value}(hi:bs[0]?=some (t,#[x,y,z])) :
  (w.cell? ⟨w0.heap.size,0,none⟩=some x/\w.cell? ⟨w0.heap.size,1,none⟩=some y/\w.cell? ⟨w0.heap.size,2,none⟩=some z) /\
  w.frozen? ⟨w0.heap.size,0,none⟩=false/\w.frozen? ⟨w0.heap.size,1,none⟩=false/\w.frozen? ⟨w0.heap.size,2,none⟩=false:=h.c3 0 hi
theorem Ax{x y p r:Nat}(hy:y<18446744073709551616)(hpr:r+p=64):bits .or .u64 (IntKind.u64.wrap ((x:Int)*2^p)) ((y:Int)/2^r)=((y/2^r+x*2^p%18446744073709551616:Nat):Int):=by
 have hR:(18446744073709551616:Nat)=2^p*2^r:=by rw[<-Nat.pow_add,Nat.add_comm,hpr]
 have h1:y/2^r<2^p:=Nat.div_lt_of_lt_mul (by rw[Nat.mul_comm,<-hR];exact hy);have h2:x*2^p%18446744073709551616=2^p*(x%2^r):=by rw[hR,Nat.mul_comm x,Nat.mul_mod_mul_left]
 have h3:x*2^p%18446744073709551616<18446744073709551616:=Nat.mod_lt _ (Nat.zero_lt_succ _);have h4:y/2^r<=y:=Nat.div_le_self _ _;have e1:(y:Int)/2^r=((y/2^r:Nat):Int):=by rw[Int.natCast_ediv];simp
 have e2:IntKind.u64.wrap ((x:Int)*2^p)=((x*2^p%18446744073709551616:Nat):Int):=by rw[IntKind.wrap_u64,Int.natCast_emod,Int.natCast_mul];simp
 rw[e1,e2];rw[u64_or _ _ (Int.natCast_nonneg _) (by omega) (Int.natCast_nonneg _) (by omega),Int.toNat_natCast,Int.toNat_natCast,h2,Gz h1,Nat.add_comm]
theorem Zf.len_le'{A L:List Nat}(h:Zf A (Qc L))(d:Ql L):A.length<=L.length:=by apply Nat.le_of_not_lt;intro hlt;have h1:=h.top (by intro he;subst he;simp at hlt);have h3:=Vc (show L.length<=A.length-1 by omega);exact Nat.lt_irrefl _ (Nat.lt_of_lt_of_le (J0 d) (Nat.le_trans h3 h1))
def Jp(n:Nat)(x:Int)(w:World)(e:Ending)(w':World):Prop:=∃u,e=.returned (.tuple #[u,.int .i64 x])/\Dg w' u n/\Below w.heap.size w w'
def Ni(m n:Nat):Int:=if m=0 then 0 else if 65536<n+bl m then 2 else 0
def Nh(m n:Nat):Nat:=if m=0 then 0 else if 65536<n+bl m then 0 else m*2^n
theorem Pj{L:List Nat}{v:Value}{w:World}(h:Qr w v L)(hl:L.length<=100000)(n:Nat)(hn:n<=1000000000) :
  Calls Tryz.prog 125 #[v,.int .i64 (n:Int)] w (Jp (Nh (Qc L) n) (Ni (Qc L) n) w):=by
 have HB:=h_ (Xp h (by omega));have LA:Qb (∀A,Zf A (Qc L)->A.length<=100000):=fun A hA=>Nat.le_trans (hA.len_le' h.digs) hl;clear h;generalize Qc L=m at *
 obtain⟨SN,hSN⟩:∃SN,SN=Nh m n:=⟨_,rfl⟩
 obtain⟨SE,hSE⟩:∃SE,SE=Ni m n:=⟨_,rfl⟩
 rw[<-hSN,<-hSE];have HSN:=h_ hSN;have HSE:=h_ hSE;clear hSN hSE;go_enter Tryz.func125,Tryz.ntmps125;go_wp2_with fail;refine HB.o.mono ?_;rintro e w1 ⟨u,rfl,hu,hb1⟩;obtain⟨A,hA,cA⟩:=hu;have hAl:=LA.o A cA;have HBits:=h_ (Ka hA (by omega));rw[cA.val]at HBits;obtain⟨a,c,rfl,-⟩:=hA.sl.form;have HA:=h_ hA;have CA:=h_ cA;have HB1:=h_ hb1;clear hb1 hA HB LA;by_cases hm0:m=0
 .subst hm0;have hA0:=cA.zero;have e1:Qb (SN=0):=HSN.o;have e2:Qb (SE=0):=HSE.o;subst hA0;clear HBits cA;go_wp2;go_ret2;refine⟨.slice none 0 0,?_,?_,HB1.o⟩
  .rw[e2.o];rfl
  .rw[e1.o];exact Dg.nil HA.o.tab
 .have hp:=cA.pos hm0;have e0:((A.length:Int)==0)=false:=by rw[beq_eq_false_iff_ne];omega
  have hbl:=cA.bits_len hm0;have hd64:=Zs (Qy cA.digs (A.length-1));have HM0:=h_ hm0;have hbm:bl m<=6400000:=by omega
  clear cA;go_wp2_with fail;refine HBits.o.mono ?_;rintro e w2 ⟨rfl,hb2⟩;have HA2:=h_ (HA.o.below hb2);have HB2:=h_ (HB1.o.trans (hb2.mono HB1.o.size));clear hb2 HA HB1 HBits hm0;by_cases hnb:65536<n+bl m
  .have e1:Qb (SN=0):=by rw[Qb,HSN.o];unfold Nh;rw[if_neg HM0.o,if_pos hnb]
   have e2:Qb (SE=2):=by rw[Qb,HSE.o];unfold Ni;rw[if_neg HM0.o,if_pos hnb]
   have g1:decide ((65536:Int)-(bl m:Int)<(n:Int))=true:=decide_eq_true (by omega);have g2:(65536:Int)-(bl m:Int)<(n:Int):=by omega
   clear hbl hd64;generalize bl m=b at *
   go_wp2;go_ret2;refine⟨.slice none 0 0,?_,?_,HB2.o⟩
   .rw[e2.o];rfl
   .rw[e1.o];exact Dg.nil HA2.o.tab
  .have e1:Qb (SN=m*2^n):=by rw[Qb,HSN.o];unfold Nh;rw[if_neg HM0.o,if_neg hnb]
   have e2:Qb (SE=0):=by rw[Qb,HSE.o];unfold Ni;rw[if_neg HM0.o,if_neg hnb]
   have g1:decide ((65536:Int)-(bl m:Int)<(n:Int))=false:=decide_eq_false (by omega);have hn65:n<=65536:=by omega
   obtain⟨q,hq⟩:∃q,q=n/64:=⟨_,rfl⟩
   obtain⟨p,hpp⟩:∃p,p=n%64:=⟨_,rfl⟩
   have hn64:n=64*q+p:=by omega
   have hp64:p<64:=by omega
   have e3:((n:Int)/64)=q:=by omega
   have e4:((n:Int)%64)=p:=by omega
   obtain⟨len,hlen⟩:∃len,len=A.length+q+1:=⟨_,rfl⟩
   have hll:len<=200000:=by omega
   have hqq:q<=1024:=by omega
   have HEND:Qb (∀X,X=m*2^n%18446744073709551616^len->X=SN):=by intro X hX;rw[hX,e1.o];apply Nat.mod_eq_of_lt;have h1:=CA.o.lt;rw[hlen,Wf,show 64*(A.length+q+1)=64*A.length+(64*q+64)by omega,Nat.pow_add,<-Wf];exact Nat.mul_lt_mul_of_lt_of_le h1 (Nat.pow_le_pow_right (by omega) (by omega)) (Nat.two_pow_pos _)
   have HDIG:Qb (∀i:Nat,m*2^n/18446744073709551616^i%18446744073709551616=Ws A ((i:Int)-q-1)/2^(64-p)+Ws A ((i:Int)-q)*2^p%18446744073709551616):=by intro i;rw[hn64,<-CA.o.val];exact Qar CA.o.digs (by omega)
   have HLN:Qb (len=A.length+q+1):=hlen;obtain⟨r,hr⟩:∃r,r=64-p:=⟨_,rfl⟩
   rw[<-hr]at HDIG;have hr64:r<=64:=by omega
   have hwr:IntKind.i64.wrap (64-(p:Int))=(r:Int):=(IntWalk.i64_in _ (by omega)).trans (by omega);have HPR:Qb (r+p=64):=by rw[Qb];omega
   clear hr hq hpp hlen hbl hd64 hnb hn64;generalize bl m=b at *
   go_wp2_with (refine Jb (w0:=w2) rfl (.tmp 34) 40 rfl w2.heap.size 22 (.int .u64 0) 8 Tryz.underlying40 Tryz.info22 rfl (by decide) _ _ len rfl (by have:=HLN.o;omega) (by omega) (Below.refl _ _) (Nat.le_refl _) ?_)
   intro w3 ho1 hb1 hB1;have hS:Qb (Xq len w2 w3 _ (List.replicate len 0) 0/\Qc (List.replicate len 0)=m*2^n%18446744073709551616^0):=⟨Xq.start ho1 hb1,by rw[Js,Nat.pow_zero,Nat.mod_one]⟩
   clear ho1 hb1 hB1;go_wp2
   go_loopw [38] (fun i wr=>∃(k:Nat) (O:List Nat),i=.int .i64 k/\k<=len/\Qb (Xq len w2 wr (.slice (some ⟨w2.heap.size,0,none⟩) len len) O k/\Qc O=m*2^n%18446744073709551616^k)) (fun i _=>len-(intOf i).toNat)
   case atStart=>exact⟨0,_,rfl,by omega,hS⟩
   case round =>
    obtain⟨k,O,rfl,hk,hh⟩:=hrel;by_cases hkl:k<len
    .have hfz:=hh.o.1.own.frozenAt k;have hx:wr.cell? ⟨w2.heap.size,k,none⟩=some (.int .u64 (dg O k:Nat)):=by rw[hh.o.1.own.cellAt k (by omega)];exact Jj (Qu (by rw[hh.o.1.len];exact hkl))
     have HRa:=h_ (HA2.o.below hh.o.1.b);have x1:=Qa7 CA.o.digs ((k:Int)-q);have x2:=Qa7 CA.o.digs ((k:Int)-q-1);have C1:Qb (∀w' z,z=(k:Int)-q->Qr w' (.slice a A.length c) A->Calls Tryz.prog 108 #[.slice a A.length c,.int .i64 z] w' fun e w''=>e=.returned (.int .u64 (Ws A ((k:Int)-q):Nat))/\w'=w''):=by rintro w' z rfl hw';exact Vw hw' _
     have C2:Qb (∀w' z,z=(k:Int)-q-1->Qr w' (.slice a A.length c) A->Calls Tryz.prog 108 #[.slice a A.length c,.int .i64 z] w' fun e w''=>e=.returned (.int .u64 (Ws A ((k:Int)-q-1):Nat))/\w'=w''):=by rintro w' z rfl hw';exact Vw hw' _
     have HST:Qb (∀u w',Qb (w'=wr.drew)->u=.int .u64 ((Ws A ((k:Int)-q-1)/2^r+Ws A ((k:Int)-q)*2^p%18446744073709551616:Nat):Int)->∃O',Qb (Xq len w2 (w'.setCell ⟨w2.heap.size,k,none⟩ u) (.slice (some ⟨w2.heap.size,0,none⟩) len len) O' (k+1)/\Qc O'=m*2^n%18446744073709551616^(k+1))):=by intro u w' hw' hu;have hm:=hh.o.1.mod hkl hh.o.2;have hlt:m*2^n/18446744073709551616^k%18446744073709551616<18446744073709551616:=Nat.mod_lt _ (Nat.zero_lt_succ _);rw[<-HDIG.o k]at hu;rw[hw'.o];exact⟨_,(Xq.drew hh.o.1).step (Nat.le_refl _) _ u hlt hu,hm⟩
     generalize Ws A ((k:Int)-q)=x at *
     generalize Ws A ((k:Int)-q-1)=y at *
     go_wp2_with fail;refine Gx 16 (by kernel_rfl) (by kernel_rfl) ?_;intro w4 h4;have HR4:Qb (Qr w4 (.slice a A.length c) A):=by rw[h4.o];exact⟨HRa.o.tab,HRa.o.sl,HRa.o.digs,HRa.o.cap⟩
     have hx4:w4.cell? ⟨w2.heap.size,k,none⟩=some (.int .u64 (dg O k:Nat)):=by rw[h4.o];exact hx
     have hf4:w4.frozen? ⟨w2.heap.size,k,none⟩=false:=by rw[h4.o];exact hfz
     simp only[List.take_succ_cons,List.take_zero,List.drop_succ_cons,List.drop_zero]
     repeat still_step
     still_call (Ky (C1.o _ _ (by first|omega|(rw[IntWalk.i64_in _ (by omega)])) HR4.o))
     repeat still_step
     still_call (Ky (C2.o _ _ (by first|omega|(rw[IntWalk.i64_in _ (by omega)])) HR4.o))
     repeat still_step
     have HV:=h_ (Ax (x:=x) x2 HPR.o);refine Ks ?_;go_wp2;obtain⟨O',HO⟩:=HST.o _ w4 h4 (congrArg (Value.int .u64) HV.o);go_roundw
     case rel=>exact⟨k+1,O',by go_num,by omega,HO⟩
     case measure=>simp[intOf];omega
    .obtain rfl:k=len:=by omega
     have HF:=h_ (HEND.o _ hh.o.2);go_wp2_with fail;refine(Xp (hh.o.1.raw HA2.o.tab) (by rw[hh.o.1.len];omega)).mono ?_;rintro e w4 ⟨u,rfl,hu,hb3⟩;have HU:Qb (Dg w4 u SN):=by rw[<-HF.o];exact hu
     have HB4:=h_ (hh.o.1.b.trans (hb3.mono hh.o.1.b.size));clear hu hb3;go_wp2;go_ret2;refine⟨u,?_,HU.o,HB2.o.trans (HB4.o.mono HB2.o.size)⟩;rw[e2.o];rfl
theorem Qfu{o x n c R hi lo l2 c1 l3 c2:Nat}(hR:R=18446744073709551616)(hx:x<R)(hn:n<R)(ho:o<R)(hc:c<R)(h1:hi=x*n/R)(h2:lo=x*n%R)(h3:l2=(lo+c+0)%R)(h4:c1=(lo+c+0)/R)(h5:l3=(o+l2+0)%R)(h6:c2=(o+l2+0)/R) :
  hi+c1<R/\hi+c1+c2<R/\l3+R*(hi+c1+c2)=o+(x*n+c)/\c1<=1/\c2<=1/\l3<R/\l2<R/\lo<R:=by
 have h7:x*n<=(R-1)*(R-1):=Nat.mul_le_mul (by omega) (by omega);have h8:R*hi+lo=x*n:=by rw[h1,h2];exact Nat.div_add_mod _ _
 have h9:lo<R:=by rw[h2];exact Nat.mod_lt _ (by omega)
 have h10:R*c1+l2=lo+c:=by rw[h3,h4];have:=Nat.div_add_mod (lo+c+0) R;omega
 have h11:R*c2+l3=o+l2:=by rw[h5,h6];have:=Nat.div_add_mod (o+l2+0) R;omega
 have h12:l2<R:=by rw[h3];exact Nat.mod_lt _ (by omega)
 have h13:l3<R:=by rw[h5];exact Nat.mod_lt _ (by omega)
 generalize x*n=y at *
 clear h1 h2 h3 h4 h5 h6;subst hR;omega
structure C9(base g N cap i:Nat)(L O0:List Nat)(x:Nat)(w0 wr:World)(O:List Nat)(j c:Nat):Prop where
 own:wr.ownsRow base 22 1 (.slice (some ⟨g,0,none⟩) N cap) N (Qz O)
 digs:Ql O
 sum:Qc O+18446744073709551616^(i+j)*c=Qc O0+18446744073709551616^i*(Qc (L.take j)*x)
 rest:∀t,i+j<=t->dg O t=dg O0 t
 b:Below base w0 wr
theorem C9.step{base g N cap i:Nat}{L O0:List Nat}{x:Nat}{w0 wr:World}{O:List Nat}{j c:Nat}(h:C9 base g N cap i L O0 x w0 wr O j c)(hg:base<=g)(hj:i+j<N)(l3 c':Nat)(hs:l3+18446744073709551616*c'=dg O (i+j)+(dg L j*x+c))(hl:l3<18446744073709551616)(u:Value)(hu:u=.int .u64 (l3:Int)) :
  C9 base g N cap i L O0 x w0 (wr.setCell ⟨g,i+j,none⟩ u) (O.set (i+j) l3) (j+1) c':=by
 subst hu;have hlen:O.length=N:=Zn h.own;refine⟨?_,h.digs.set hl,?_,fun t ht=>?_,h.b.setCell hg _⟩
 .rw[<-Wi];exact(h.own.stored (i+j) _).1
 .have h1:=Jw O (i+j) l3 (by omega);have h2:=h.sum;rw[Xc,Nat.add_mul,Nat.mul_add,show i+(j+1)=i+j+1 by omega,Nat.pow_succ,Nat.mul_assoc (18446744073709551616^j),<-Nat.mul_assoc (18446744073709551616^i) (18446744073709551616^j),<-Nat.pow_add];have h3:18446744073709551616^(i+j)*(l3+18446744073709551616*c')=18446744073709551616^(i+j)*(dg O (i+j)+(dg L j*x+c)):=by rw[hs]
  rw[Nat.mul_add,Nat.mul_add,Nat.mul_add,<-Nat.mul_assoc]at h3;omega
 .rw[Wc _ _ _ _ (by omega)];exact h.rest t (by omega)
theorem Rq(x y:Nat)(w:World) :
  (callFunc 145 #[.int .u64 (x:Int),.int .u64 (y:Int),.int .u64 0]).run Tryz.prog w =
   .ok (.value (.tuple #[.int .u64 (((x+y+0)%18446744073709551616:Nat):Int),.int .u64 (((x+y+0)/18446744073709551616:Nat):Int)])) w:=I0 x y 0 (by omega) w
def Qjd(base g N cap i:Nat)(L O0:List Nat)(x:Nat)(w0:World)(e:Ending)(w':World):Prop :=
 (∃v,e=.returned v)/\∃O,w'.ownsRow base 22 1 (.slice (some ⟨g,0,none⟩) N cap) N (Qz O)/\Ql O/\Qc O=Qc O0+18446744073709551616^i*(Qc L*x)/\(∀t,i+L.length<t->dg O t=dg O0 t)/\Below base w0 w'
theorem Qfv{g N cap i x M cc:Nat}{O0 L:List Nat}{v:Value}{w0 w:World}(own:w.ownsRow w0.heap.size 22 1 (.slice (some ⟨g,0,none⟩) N cap) N (Qz O0))(hd:Ql O0)(hB:Below w0.heap.size w0 w)(h:Qr w0 v L)(hg:w0.heap.size<=g)
  (hM:i+M=N) (hiN:L.length<M) (hN:N<=300000) (hz:dg O0 (i+L.length)=0) (hx:x<18446744073709551616) :
  Calls Tryz.prog 110 #[.slice (some ⟨g,i,none⟩) M cc,v,.int .u64 (x:Int)] w (Qjd w0.heap.size g N cap i L O0 x w0):=by
 have HI:Qb (C9 w0.heap.size g N cap i L O0 x w0 w O0 0 0):=⟨own,hd,by simp[Qc],fun t _=>rfl,hB⟩
 have HD:=h_ h.digs;have HZ:=h_ hz;obtain⟨a,c,rfl,hcell⟩:=h.sl.form;have HC:=h_ hcell;clear own hd hB h hcell hz;go_enter Tryz.func110,Tryz.ntmps110;go_wp2
 go_loopw [6,14] (fun cy ix wr=>∃(j c:Nat) (O:List Nat),ix=.int .i64 j/\cy=.int .u64 c/\j<=L.length/\c<18446744073709551616/\Qb (C9 w0.heap.size g N cap i L O0 x w0 wr O j c)) (fun _ ix _=>L.length-(intOf ix).toNat)
 case atStart=>exact⟨0,0,O0,rfl,rfl,by omega,by omega,HI⟩
 case round =>
  obtain⟨j,cy,O,rfl,rfl,hj,hcy,hh⟩:=hrel;have hfz:wr.frozen? ⟨g,i+j,none⟩=false:=hh.o.own.frozenAt (i+j);have hxo:wr.cell? ⟨g,i+j,none⟩=some (.int .u64 (dg O (i+j):Nat)):=by rw[hh.o.own.cellAt (i+j) (by omega)];exact Jj (Qu (by rw[Zn hh.o.own];omega))
  by_cases hlt:j<L.length
  .obtain⟨b,off,rfl,hc2⟩:=HC.o (by omega);have hxa:wr.cell? ⟨b,off+j,none⟩=some (.int .u64 (dg L j:Nat)):=Qj hh.o.b (Nat.le_refl _) (hc2 j _ (Qu hlt));have d1:=Qy HD.o j;have d2:=Qy hh.o.digs (i+j);have HST:=h_ (fun l3 c' h1 h2 u h3=>hh.o.step hg (by omega) l3 c' h1 h2 u h3);generalize dg L j=y at *
   generalize dg O (i+j)=o at *
   obtain⟨hi,ehi⟩:∃hi,hi=y*x/18446744073709551616:=⟨_,rfl⟩
   obtain⟨lo',elo⟩:∃lo',lo'=y*x%18446744073709551616:=⟨_,rfl⟩
   obtain⟨l2,el2⟩:∃l2,l2=(lo'+cy+0)%18446744073709551616:=⟨_,rfl⟩
   obtain⟨c1,ec1⟩:∃c1,c1=(lo'+cy+0)/18446744073709551616:=⟨_,rfl⟩
   obtain⟨l3,el3⟩:∃l3,l3=(o+l2+0)%18446744073709551616:=⟨_,rfl⟩
   obtain⟨c2',ec2⟩:∃c2,c2=(o+l2+0)/18446744073709551616:=⟨_,rfl⟩
   obtain⟨k1,k2,k3,k4,k5,k6,k7,k8⟩:=Qfu rfl d1 hx d2 hcy ehi elo el2 ec1 el3 ec2;have M1:=h_ (fun w=>Mw y x d1 hx w);rw[<-ehi,<-elo]at M1;have A1:=fun w=>Rq lo' cy w;rw[<-el2,<-ec1]at A1;have A2:=fun w=>Rq o l2 w;rw[<-el3,<-ec2]at A2;have W1:IntKind.u64.wrap ((hi:Int)+c1)=((hi+c1:Nat):Int):=by rw[IntKind.wrap_u64];omega
   have W2:IntKind.u64.wrap (((hi+c1:Nat):Int)+c2')=((hi+c1+c2':Nat):Int):=by rw[IntKind.wrap_u64];omega
   have HO:=h_ (HST.o l3 (hi+c1+c2') k3 k6 _ rfl);have K2:=k2;obtain⟨hs,ehs⟩:∃hs,hs=hi+c1:=⟨_,rfl⟩
   rw[<-ehs]at W1 W2 HO K2;obtain⟨ht,eht⟩:∃ht,ht=hs+c2':=⟨_,rfl⟩
   rw[<-eht]at W2 HO K2;clear ehi elo el2 ec1 el3 ec2 k1 k2 k3 k4 k5 HST ehs eht hc2;go_wp2_with fail;refine(M1.o _).mono ?_;rintro e w2 ⟨rfl,rfl⟩;go_wp2;go_roundw
   case rel=>exact⟨j+1,ht,_,by go_num,rfl,by omega,K2,HO⟩
   case measure=>simp[intOf];omega
  .obtain rfl:j=L.length:=by omega
   have hiL:L.length<M:=hiN;have HE:Qb (∀u,u=.int .u64 (cy:Int)->Qjd w0.heap.size g N cap i L O0 x w0 (.returned (.tuple #[])) (wr.setCell ⟨g,i+L.length,none⟩ u)):=by
    rintro u rfl;have hlen:O.length=N:=Zn hh.o.own;refine⟨⟨_,rfl⟩,O.set (i+L.length) cy,?_,hh.o.digs.set hcy,?_,fun t ht=>?_,hh.o.b.setCell hg _⟩
    .rw[<-Wi];exact(hh.o.own.stored (i+L.length) _).1
    .have h1:=Jw O (i+L.length) cy (by omega);have h2:=hh.o.sum;rw[Xu (Nat.le_refl _)]at h2;rw[hh.o.rest _ (Nat.le_refl _),HZ.o,Nat.mul_zero]at h1;omega
    .rw[Wc _ _ _ _ (by omega)];exact hh.o.rest t (by omega)
   go_wp2;obtain⟨_,hE⟩:=HE.o _ rfl;refine bodyPost_ret (results_none rfl _ _ _) rfl ⟨⟨_,rfl⟩,hE⟩
def Zt:Value->Bool
 | .int .u8 _=>false
 | .int .u64 _=>false
 | _=>true
theorem Ih{u:Value}(h:Zt u=true):Nl u:=by
 intro z;constructor
 .rintro rfl;cases h
 .rintro rfl;cases h
def Vt(cs:Array Value):Bool:=cs.toList.all Zt
theorem Qa2{cs:Array Value}(h:Vt cs=true){k:Nat}{x:Value}(hx:cs[k]?=some x):Zt x=true:=by unfold Vt at h;rw[List.all_eq_true]at h;apply h;rw[<-Array.getElem?_toList]at hx;exact List.mem_of_getElem? hx
theorem Qf4{cs:Array Value}(h:Vt cs=true)(k:Nat){u:Value}(hu:Zt u=true):Vt (cs.setIfInBounds k u)=true:=by
 unfold Vt at *
 rw[List.all_eq_true]at *
 intro x hx;rw[Array.toList_setIfInBounds]at hx;rcases List.mem_or_eq_of_mem_set hx with h1|h1
 .exact h x h1
 .exact h1▸hu
structure Fx(w0 w:World)(bs:List (Nat×TypeId×Array Value)):Prop where
 b:Below w0.heap.size w0 w
 box:∀(i g:Nat) t cs,bs[i]?=some (g,t,cs)->Qi w g t cs
 low:∀(i g:Nat) t cs,bs[i]?=some (g,t,cs)->w0.heap.size<=g
 asc:∀(i j g:Nat) t cs (g':Nat) t' cs',i<j->bs[i]?=some (g,t,cs)->bs[j]?=some (g',t',cs')->g<g'
 nl:∀(i g:Nat) t cs,bs[i]?=some (g,t,cs)->Vt cs=true
theorem Fx.nil(w:World):Fx w w []:=⟨Below.refl _ _,fun i g t cs h=>by simp at h,fun i g t cs h=>by simp at h,fun i j g t cs g' t' cs' _ h=>by simp at h,fun i g t cs h=>by simp at h⟩
theorem Jz{α:Type}{l:List α}{a x:α}{i:Nat}(h:(l++[a])[i]?=some x):l[i]?=some x\/i=l.length/\x=a:=by
 by_cases hl:i<l.length
 .rw[List.getElem?_append_left hl]at h;exact .inl h
 .rw[List.getElem?_append_right (by omega)]at h;have h1:=(List.getElem?_eq_some_iff.1 h).1;simp at h1;have h2:i=l.length:=by omega
  subst h2;simp at h;exact .inr ⟨rfl,h.symm⟩
theorem Fx.new{w0 w:World}{bs:List (Nat×TypeId×Array Value)}(h:Fx w0 w bs)(t:TypeId)(cs:Array Value)(hn:Vt cs=true) :
  Fx w0 (w.alloc (.cells cs t)) (bs++[(w.heap.size,t,cs)]):=by
 refine⟨h.b.alloc h.b.size _,?_,?_,?_,?_⟩
 .intro i g t' cs' hi;rcases Jz hi with hi|⟨rfl,hi⟩
  .exact(h.box i g t' cs' hi).alloc _
  .simp at hi;obtain⟨rfl,rfl,rfl⟩:=hi;exact Qi.new w _ _
 .intro i g t' cs' hi;rcases Jz hi with hi|⟨rfl,hi⟩
  .exact h.low i g t' cs' hi
  .simp at hi;obtain⟨rfl,rfl,rfl⟩:=hi;exact h.b.size
 .intro i j g t1 cs1 g' t' cs' hij hi hj;rcases Jz hj with hj|⟨rfl,hj⟩
  .rcases Jz hi with hi|⟨rfl,hi⟩
   .exact h.asc i j g t1 cs1 g' t' cs' hij hi hj
   .have:=(List.getElem?_eq_some_iff.1 hj).1;omega
  .simp at hj;obtain⟨rfl,rfl,rfl⟩:=hj;rcases Jz hi with hi|⟨rfl,hi⟩
   .exact(h.box i g t1 cs1 hi).lt
   .omega
 .intro i g t' cs' hi;rcases Jz hi with hi|⟨rfl,hi⟩
  .exact h.nl i g t' cs' hi
  .simp at hi;obtain⟨rfl,rfl,rfl⟩:=hi;exact hn
theorem Fx.lt2{w0 w:World}{bs:List (Nat×TypeId×Array Value)}(h:Fx w0 w bs)(i j:Nat)(hij:i<j){g g':Nat}{t t':TypeId}{cs cs':Array Value}(hi:bs[i]?=some (g,t,cs))(hj:bs[j]?=some (g',t',cs')):¬g=g'/\¬g'=g:=by have:=h.asc i j _ _ _ _ _ _ hij hi hj;omega
theorem Fx.call{w0 w w':World}{bs:List (Nat×TypeId×Array Value)}(h:Fx w0 w bs)(hb:Below w.heap.size w w'):Fx w0 w' bs :=
 ⟨h.b.trans (hb.mono h.b.size),fun i g t cs hi=>(h.box i g t cs hi).below hb,h.low,h.asc,h.nl⟩
theorem Fx.alloc{w0 w:World}{bs:List (Nat×TypeId×Array Value)}(h:Fx w0 w bs)(o:Obj):Fx w0 (w.alloc o) bs :=
 ⟨h.b.alloc h.b.size _,fun i g t cs hi=>(h.box i g t cs hi).alloc _,h.low,h.asc,h.nl⟩
theorem Fx.drewN{w0 w:World}{bs:List (Nat×TypeId×Array Value)}(h:Fx w0 w bs)(n:Nat):Fx w0 (w.drewN n) bs:=⟨Qw h.b n,h.box,h.low,h.asc,h.nl⟩
theorem Fx.drew{w0 w:World}{bs:List (Nat×TypeId×Array Value)}(h:Fx w0 w bs):Fx w0 w.drew bs:=h.drewN 1
theorem Fx.one(w:World)(t:TypeId)(cs:Array Value)(hn:Vt cs=true):Fx w (w.alloc (.cells cs t)) [(w.heap.size,t,cs)]:=(Fx.nil w).new t cs hn
theorem Fx.two(w:World)(t:TypeId)(cs:Array Value)(t':TypeId)(cs':Array Value)(hn:Vt cs=true)(hn':Vt cs'=true):Fx w ((w.alloc (.cells cs t)).alloc (.cells cs' t')) [(w.heap.size,t,cs),(w.heap.size+1,t',cs')]:=by have:=((Fx.nil w).new t cs hn).new t' cs' hn';simpa using this
theorem Fx.three(w:World)(t:TypeId)(cs:Array Value)(t':TypeId)(cs':Array Value)(t'':TypeId)(cs'':Array Value)(hn:Vt cs=true)(hn':Vt cs'=true)(hn'':Vt cs''=true) :
  Fx w (((w.alloc (.cells cs t)).alloc (.cells cs' t')).alloc (.cells cs'' t'')) [(w.heap.size,t,cs),(w.heap.size+1,t',cs'),(w.heap.size+1+1,t'',cs'')]:=by
 have:=(((Fx.nil w).new t cs hn).new t' cs' hn').new t'' cs'' hn'';simpa using this
theorem Fx.set{w0 w:World}{bs:List (Nat×TypeId×Array Value)}(h:Fx w0 w bs)(i j:Nat){g:Nat}{t:TypeId}{cs:Array Value}(hi:bs[i]?=some (g,t,cs)){x:Value}(hx:cs[j]?=some x){u:Value}(hu:Zt u=true) :
  Fx w0 (w.setCell ⟨g,j,none⟩ u) (bs.set i (g,t,cs.setIfInBounds j u))/\Kp w (w.setCell ⟨g,j,none⟩ u):=by
 have hl:=(List.getElem?_eq_some_iff.1 hi).1;have key:∀(k g':Nat) t' cs',(bs.set i (g,t,cs.setIfInBounds j u))[k]?=some (g',t',cs')->k=i/\g'=g/\t'=t/\cs'=cs.setIfInBounds j u\/k≠i/\bs[k]?=some (g',t',cs'):=by
  intro k g' t' cs' hk;by_cases hki:k=i
  .subst hki;rw[List.getElem?_set_self hl]at hk;simp at hk;obtain⟨rfl,rfl,rfl⟩:=hk;exact .inl ⟨rfl,rfl,rfl,rfl⟩
  .rw[List.getElem?_set_ne (Ne.symm hki)]at hk;exact .inr ⟨hki,hk⟩
 refine⟨⟨h.b.setCell (h.low i g t cs hi) _,?_,?_,?_,?_⟩,Kp.set (h.box i g t cs hi) hx (Ih (Qa2 (h.nl i g t cs hi) hx)) u⟩
 .intro k g' t' cs' hk;rcases key k g' t' cs' hk with⟨rfl,rfl,rfl,rfl⟩|⟨hki,hk⟩
  .exact(h.box k _ _ cs hi).set j u
  .refine(h.box k g' t' cs' hk).far ?_ u;rcases Nat.lt_or_gt_of_ne hki with hlt|hgt
   .have:=h.asc k i g' t' cs' g t cs hlt hk hi;simp;omega
   .have:=h.asc i k g t cs g' t' cs' hgt hi hk;simp;omega
 .intro k g' t' cs' hk;rcases key k g' t' cs' hk with⟨rfl,rfl,rfl,rfl⟩|⟨hki,hk⟩
  .exact h.low k _ _ cs hi
  .exact h.low k g' t' cs' hk
 .intro a c g1 t1 cs1 g2 t2 cs2 hac ha hc;have e1:∃t3 cs3,bs[a]?=some (g1,t3,cs3):=by
   rcases key a g1 t1 cs1 ha with⟨rfl,rfl,rfl,rfl⟩|⟨_,hk⟩
   .exact⟨_,_,hi⟩
   .exact⟨_,_,hk⟩
  have e2:∃t3 cs3,bs[c]?=some (g2,t3,cs3):=by
   rcases key c g2 t2 cs2 hc with⟨rfl,rfl,rfl,rfl⟩|⟨_,hk⟩
   .exact⟨_,_,hi⟩
   .exact⟨_,_,hk⟩
  obtain⟨_,_,e1⟩:=e1;obtain⟨_,_,e2⟩:=e2;exact h.asc a c _ _ _ _ _ _ hac e1 e2
 .intro k g' t' cs' hk;rcases key k g' t' cs' hk with⟨rfl,rfl,rfl,rfl⟩|⟨hki,hk⟩
  .exact Qf4 (h.nl k _ _ cs hi) j hu
  .exact h.nl k g' t' cs' hk
theorem Fx.s2{w0 w:World}{bs:List (Nat×TypeId×Array Value)}(h:Fx w0 w bs)(i:Nat){g:Nat}{t:TypeId}{x0 x1:Value}(hi:bs[i]?=some (g,t,#[x0,x1]))(a b:Value)(ha:Zt a=true)(hb:Zt b=true) :
  Fx w0 ((w.setCell ⟨g,0,none⟩ a).setCell ⟨g,1,none⟩ b) (bs.set i (g,t,#[a,b]))/\Kp w ((w.setCell ⟨g,0,none⟩ a).setCell ⟨g,1,none⟩ b):=by
 have hl:=(List.getElem?_eq_some_iff.1 hi).1;have q0:=h.set i 0 hi (x:=x0) rfl ha;have hi0:(bs.set i (g,t,#[a,x1]))[i]?=some (g,t,#[a,x1]):=List.getElem?_set_self hl;have r0:Fx w0 _ (bs.set i (g,t,#[a,x1])):=q0.1;have q1:=r0.set i 1 hi0 (x:=x1) rfl hb;rw[List.set_set]at q1;have hi1:(bs.set i (g,t,#[a,b]))[i]?=some (g,t,#[a,b]):=List.getElem?_set_self hl;have r1:Fx w0 _ (bs.set i (g,t,#[a,b])):=q1.1;exact⟨r1,(q0.2).trans q1.2⟩
theorem Fx.s2_0{w0 w:World}{bs:List (Nat×TypeId×Array Value)}(h:Fx w0 w bs)(i:Nat){g:Nat}{t:TypeId}{x0 x1:Value}(hi:bs[i]?=some (g,t,#[x0,x1]))(a:Value)(ha:Zt a=true) :
  Fx w0 (w.setCell ⟨g,0,none⟩ a) (bs.set i (g,t,#[a,x1]))/\Kp w (w.setCell ⟨g,0,none⟩ a):=by
 have hl:=(List.getElem?_eq_some_iff.1 hi).1;have q0:=h.set i 0 hi (x:=x0) rfl ha;have hi0:(bs.set i (g,t,#[a,x1]))[i]?=some (g,t,#[a,x1]):=List.getElem?_set_self hl;have r0:Fx w0 _ (bs.set i (g,t,#[a,x1])):=q0.1;exact⟨r0,q0.2⟩
theorem Fx.s3{w0 w:World}{bs:List (Nat×TypeId×Array Value)}(h:Fx w0 w bs)(i:Nat){g:Nat}{t:TypeId}{x0 x1 x2:Value}(hi:bs[i]?=some (g,t,#[x0,x1,x2]))(a b c:Value)(ha:Zt a=true)(hb:Zt b=true)(hc:Zt c=true) :
  Fx w0 (((w.setCell ⟨g,0,none⟩ a).setCell ⟨g,1,none⟩ b).setCell ⟨g,2,none⟩ c) (bs.set i (g,t,#[a,b,c]))/\Kp w (((w.setCell ⟨g,0,none⟩ a).setCell ⟨g,1,none⟩ b).setCell ⟨g,2,none⟩ c):=by
 have hl:=(List.getElem?_eq_some_iff.1 hi).1;have q0:=h.set i 0 hi (x:=x0) rfl ha;have hi0:(bs.set i (g,t,#[a,x1,x2]))[i]?=some (g,t,#[a,x1,x2]):=List.getElem?_set_self hl;have r0:Fx w0 _ (bs.set i (g,t,#[a,x1,x2])):=q0.1;have q1:=r0.set i 1 hi0 (x:=x1) rfl hb;rw[List.set_set]at q1;have hi1:(bs.set i (g,t,#[a,b,x2]))[i]?=some (g,t,#[a,b,x2]):=List.getElem?_set_self hl;have r1:Fx w0 _ (bs.set i (g,t,#[a,b,x2])):=q1.1;have q2:=r1.set i 2 hi1 (x:=x2) rfl hc;rw[List.set_set]at q2;have hi2:(bs.set i (g,t,#[a,b,c]))[i]?=some (g,t,#[a,b,c]):=List.getElem?_set_self hl;have r2:Fx w0 _ (bs.set i (g,t,#[a,b,c])):=q2.1;exact⟨r2,((q0.2).trans q1.2).trans q2.2⟩
theorem Fx.s3_0{w0 w:World}{bs:List (Nat×TypeId×Array Value)}(h:Fx w0 w bs)(i:Nat){g:Nat}{t:TypeId}{x0 x1 x2:Value}(hi:bs[i]?=some (g,t,#[x0,x1,x2]))(a:Value)(ha:Zt a=true) :
  Fx w0 (w.setCell ⟨g,0,none⟩ a) (bs.set i (g,t,#[a,x1,x2]))/\Kp w (w.setCell ⟨g,0,none⟩ a):=by
 have hl:=(List.getElem?_eq_some_iff.1 hi).1;have q0:=h.set i 0 hi (x:=x0) rfl ha;have hi0:(bs.set i (g,t,#[a,x1,x2]))[i]?=some (g,t,#[a,x1,x2]):=List.getElem?_set_self hl;have r0:Fx w0 _ (bs.set i (g,t,#[a,x1,x2])):=q0.1;exact⟨r0,q0.2⟩
theorem Fx.s3_1{w0 w:World}{bs:List (Nat×TypeId×Array Value)}(h:Fx w0 w bs)(i:Nat){g:Nat}{t:TypeId}{x0 x1 x2:Value}(hi:bs[i]?=some (g,t,#[x0,x1,x2]))(a:Value)(ha:Zt a=true) :
  Fx w0 (w.setCell ⟨g,1,none⟩ a) (bs.set i (g,t,#[x0,a,x2]))/\Kp w (w.setCell ⟨g,1,none⟩ a):=by
 have hl:=(List.getElem?_eq_some_iff.1 hi).1;have q0:=h.set i 1 hi (x:=x1) rfl ha;have hi0:(bs.set i (g,t,#[x0,a,x2]))[i]?=some (g,t,#[x0,a,x2]):=List.getElem?_set_self hl;have r0:Fx w0 _ (bs.set i (g,t,#[x0,a,x2])):=q0.1;exact⟨r0,q0.2⟩
theorem Fx.s6{w0 w:World}{bs:List (Nat×TypeId×Array Value)}(h:Fx w0 w bs)(i:Nat){g:Nat}{t:TypeId}{x0 x1 x2 x3 x4 x5:Value}(hi:bs[i]?=some (g,t,#[x0,x1,x2,x3,x4,x5]))(a b c d e f:Value)(ha:Zt a=true)(hb:Zt b=true)(hc:Zt c=true)(hd:Zt d=true)(he:Zt e=true)(hf:Zt f=true) :
  Fx w0 ((((((w.setCell ⟨g,0,none⟩ a).setCell ⟨g,1,none⟩ b).setCell ⟨g,2,none⟩ c).setCell ⟨g,3,none⟩ d).setCell ⟨g,4,none⟩ e).setCell ⟨g,5,none⟩ f) (bs.set i (g,t,#[a,b,c,d,e,f]))/\Kp w ((((((w.setCell ⟨g,0,none⟩ a).setCell ⟨g,1,none⟩ b).setCell ⟨g,2,none⟩ c).setCell ⟨g,3,none⟩ d).setCell ⟨g,4,none⟩ e).setCell ⟨g,5,none⟩ f):=by
 have hl:=(List.getElem?_eq_some_iff.1 hi).1;have q0:=h.set i 0 hi (x:=x0) rfl ha;have hi0:(bs.set i (g,t,#[a,x1,x2,x3,x4,x5]))[i]?=some (g,t,#[a,x1,x2,x3,x4,x5]):=List.getElem?_set_self hl;have r0:Fx w0 _ (bs.set i (g,t,#[a,x1,x2,x3,x4,x5])):=q0.1;have q1:=r0.set i 1 hi0 (x:=x1) rfl hb;rw[List.set_set]at q1;have hi1:(bs.set i (g,t,#[a,b,x2,x3,x4,x5]))[i]?=some (g,t,#[a,b,x2,x3,x4,x5]):=List.getElem?_set_self hl;have r1:Fx w0 _ (bs.set i (g,t,#[a,b,x2,x3,x4,x5])):=q1.1;have q2:=r1.set i 2 hi1 (x:=x2) rfl hc;rw[List.set_set]at q2;have hi2:(bs.set i (g,t,#[a,b,c,x3,x4,x5]))[i]?=some (g,t,#[a,b,c,x3,x4,x5]):=List.getElem?_set_self hl;have r2:Fx w0 _ (bs.set i (g,t,#[a,b,c,x3,x4,x5])):=q2.1;have q3:=r2.set i 3 hi2 (x:=x3) rfl hd;rw[List.set_set]at q3;have hi3:(bs.set i (g,t,#[a,b,c,d,x4,x5]))[i]?=some (g,t,#[a,b,c,d,x4,x5]):=List.getElem?_set_self hl;have r3:Fx w0 _ (bs.set i (g,t,#[a,b,c,d,x4,x5])):=q3.1;have q4:=r3.set i 4 hi3 (x:=x4) rfl he;rw[List.set_set]at q4;have hi4:(bs.set i (g,t,#[a,b,c,d,e,x5]))[i]?=some (g,t,#[a,b,c,d,e,x5]):=List.getElem?_set_self hl;have r4:Fx w0 _ (bs.set i (g,t,#[a,b,c,d,e,x5])):=q4.1;have q5:=r4.set i 5 hi4 (x:=x5) rfl hf;rw[List.set_set]at q5;have hi5:(bs.set i (g,t,#[a,b,c,d,e,f]))[i]?=some (g,t,#[a,b,c,d,e,f]):=List.getElem?_set_self hl;have r5:Fx w0 _ (bs.set i (g,t,#[a,b,c,d,e,f])):=q5.1;exact⟨r5,(((((q0.2).trans q1.2).trans q2.2).trans q3.2).trans q4.2).trans q5.2⟩
theorem Fx.s6_0{w0 w:World}{bs:List (Nat×TypeId×Array Value)}(h:Fx w0 w bs)(i:Nat){g:Nat}{t:TypeId}{x0 x1 x2 x3 x4 x5:Value}(hi:bs[i]?=some (g,t,#[x0,x1,x2,x3,x4,x5]))(a b c:Value)(ha:Zt a=true)(hb:Zt b=true)(hc:Zt c=true) :
  Fx w0 (((w.setCell ⟨g,0,none⟩ a).setCell ⟨g,1,none⟩ b).setCell ⟨g,2,none⟩ c) (bs.set i (g,t,#[a,b,c,x3,x4,x5]))/\Kp w (((w.setCell ⟨g,0,none⟩ a).setCell ⟨g,1,none⟩ b).setCell ⟨g,2,none⟩ c):=by
 have hl:=(List.getElem?_eq_some_iff.1 hi).1;have q0:=h.set i 0 hi (x:=x0) rfl ha;have hi0:(bs.set i (g,t,#[a,x1,x2,x3,x4,x5]))[i]?=some (g,t,#[a,x1,x2,x3,x4,x5]):=List.getElem?_set_self hl;have r0:Fx w0 _ (bs.set i (g,t,#[a,x1,x2,x3,x4,x5])):=q0.1;have q1:=r0.set i 1 hi0 (x:=x1) rfl hb;rw[List.set_set]at q1;have hi1:(bs.set i (g,t,#[a,b,x2,x3,x4,x5]))[i]?=some (g,t,#[a,b,x2,x3,x4,x5]):=List.getElem?_set_self hl;have r1:Fx w0 _ (bs.set i (g,t,#[a,b,x2,x3,x4,x5])):=q1.1;have q2:=r1.set i 2 hi1 (x:=x2) rfl hc;rw[List.set_set]at q2;have hi2:(bs.set i (g,t,#[a,b,c,x3,x4,x5]))[i]?=some (g,t,#[a,b,c,x3,x4,x5]):=List.getElem?_set_self hl;have r2:Fx w0 _ (bs.set i (g,t,#[a,b,c,x3,x4,x5])):=q2.1;exact⟨r2,((q0.2).trans q1.2).trans q2.2⟩
theorem Fx.s6_3{w0 w:World}{bs:List (Nat×TypeId×Array Value)}(h:Fx w0 w bs)(i:Nat){g:Nat}{t:TypeId}{x0 x1 x2 x3 x4 x5:Value}(hi:bs[i]?=some (g,t,#[x0,x1,x2,x3,x4,x5]))(a b c:Value)(ha:Zt a=true)(hb:Zt b=true)(hc:Zt c=true) :
  Fx w0 (((w.setCell ⟨g,3,none⟩ a).setCell ⟨g,4,none⟩ b).setCell ⟨g,5,none⟩ c) (bs.set i (g,t,#[x0,x1,x2,a,b,c]))/\Kp w (((w.setCell ⟨g,3,none⟩ a).setCell ⟨g,4,none⟩ b).setCell ⟨g,5,none⟩ c):=by
 have hl:=(List.getElem?_eq_some_iff.1 hi).1;have q0:=h.set i 3 hi (x:=x3) rfl ha;have hi0:(bs.set i (g,t,#[x0,x1,x2,a,x4,x5]))[i]?=some (g,t,#[x0,x1,x2,a,x4,x5]):=List.getElem?_set_self hl;have r0:Fx w0 _ (bs.set i (g,t,#[x0,x1,x2,a,x4,x5])):=q0.1;have q1:=r0.set i 4 hi0 (x:=x4) rfl hb;rw[List.set_set]at q1;have hi1:(bs.set i (g,t,#[x0,x1,x2,a,b,x5]))[i]?=some (g,t,#[x0,x1,x2,a,b,x5]):=List.getElem?_set_self hl;have r1:Fx w0 _ (bs.set i (g,t,#[x0,x1,x2,a,b,x5])):=q1.1;have q2:=r1.set i 5 hi1 (x:=x5) rfl hc;rw[List.set_set]at q2;have hi2:(bs.set i (g,t,#[x0,x1,x2,a,b,c]))[i]?=some (g,t,#[x0,x1,x2,a,b,c]):=List.getElem?_set_self hl;have r2:Fx w0 _ (bs.set i (g,t,#[x0,x1,x2,a,b,c])):=q2.1;exact⟨r2,((q0.2).trans q1.2).trans q2.2⟩
theorem Fx.c2{w0 w:World}{bs:List (Nat×TypeId×Array Value)}(h:Fx w0 w bs)(i:Nat){g:Nat}{t:TypeId}{x0 x1:Value}(hi:bs[i]?=some (g,t,#[x0,x1])) :
  (w.cell? ⟨g,0,none⟩=some x0/\w.cell? ⟨g,1,none⟩=some x1)/\w.frozen? ⟨g,0,none⟩=false/\w.frozen? ⟨g,1,none⟩=false:=by
 have k:=h.box i _ _ _ hi;exact⟨⟨k.at 0 x0 rfl,k.at 1 x1 rfl⟩,k.frozen 0,k.frozen 1⟩
theorem Fx.c3{w0 w:World}{bs:List (Nat×TypeId×Array Value)}(h:Fx w0 w bs)(i:Nat){g:Nat}{t:TypeId}{x0 x1 x2:Value}(hi:bs[i]?=some (g,t,#[x0,x1,x2])) :
  (w.cell? ⟨g,0,none⟩=some x0/\w.cell? ⟨g,1,none⟩=some x1/\w.cell? ⟨g,2,none⟩=some x2)/\w.frozen? ⟨g,0,none⟩=false/\w.frozen? ⟨g,1,none⟩=false/\w.frozen? ⟨g,2,none⟩=false:=by
 have k:=h.box i _ _ _ hi;exact⟨⟨k.at 0 x0 rfl,k.at 1 x1 rfl,k.at 2 x2 rfl⟩,k.frozen 0,k.frozen 1,k.frozen 2⟩
theorem Fx.c6{w0 w:World}{bs:List (Nat×TypeId×Array Value)}(h:Fx w0 w bs)(i:Nat){g:Nat}{t:TypeId}{x0 x1 x2 x3 x4 x5:Value}(hi:bs[i]?=some (g,t,#[x0,x1,x2,x3,x4,x5])) :
  (w.cell? ⟨g,0,none⟩=some x0/\w.cell? ⟨g,1,none⟩=some x1/\w.cell? ⟨g,2,none⟩=some x2/\w.cell? ⟨g,3,none⟩=some x3/\w.cell? ⟨g,4,none⟩=some x4/\w.cell? ⟨g,5,none⟩=some x5)/\w.frozen? ⟨g,0,none⟩=false/\w.frozen? ⟨g,1,none⟩=false/\w.frozen? ⟨g,2,none⟩=false/\w.frozen? ⟨g,3,none⟩=false/\w.frozen? ⟨g,4,none⟩=false/\w.frozen? ⟨g,5,none⟩=false:=by
 have k:=h.box i _ _ _ hi;exact⟨⟨k.at 0 x0 rfl,k.at 1 x1 rfl,k.at 2 x2 rfl,k.at 3 x3 rfl,k.at 4 x4 rfl,k.at 5 x5 rfl⟩,k.frozen 0,k.frozen 1,k.frozen 2,k.frozen 3,k.frozen 4,k.frozen 5⟩
structure Gs(U u y1 y0 q r:Nat):Prop where
 eq:q*y1+r=U
 hi:(U*4294967296+u)/(y1*4294967296+y0)<=q
theorem Gt{U u y1 y0:Nat}(hu:u<4294967296)(hU:U<y1*4294967296+y0):(U*4294967296+u)/(y1*4294967296+y0)<4294967296:=by refine Nat.div_lt_of_lt_mul ?_;have:(U+1)*4294967296<=(y1*4294967296+y0)*4294967296:=Nat.mul_le_mul_right _ hU;omega
theorem Nb{U u y1 y0:Nat}(hu:u<4294967296)(h1:2147483648<=y1)(hU:U<y1*4294967296+y0):Gs U u y1 y0 (U/y1) (U-U/y1*y1)/\U-U/y1*y1<y1/\U/y1*y1<=U:=by
 have hd:=Nat.div_add_mod U y1;have hm:U%y1<y1:=Nat.mod_lt _ (by omega);rw[Nat.mul_comm]at hd;refine⟨⟨by omega,?_⟩,by omega,by omega⟩;apply Nat.le_of_lt_succ;rw[Nat.div_lt_iff_lt_mul (by omega)];have h3:U+1<=(U/y1+1)*y1:=by rw[Nat.add_mul];omega
 have h4:(U+1)*4294967296<=(U/y1+1)*y1*4294967296:=Nat.mul_le_mul_right _ h3;have h5:(U/y1+1)*(y1*4294967296+y0)=(U/y1+1)*y1*4294967296+(U/y1+1)*y0:=by rw[Nat.mul_add,Nat.mul_assoc]
 rw[Nat.succ_eq_add_one,h5];omega
theorem Im{U u y1 y0 q r:Nat}(h:Gs U u y1 y0 q r)(hu:u<4294967296)(hU:U<y1*4294967296+y0)(hc:4294967296<=q\/4294967296*r+u<q*y0):0<q/\Gs U u y1 y0 (q-1) (r+y1):=by
 have hs:=Gt hu hU;have hlt:(U*4294967296+u)/(y1*4294967296+y0)<q:=by
  rcases hc with hc|hc
  .omega
  .rw[Nat.div_lt_iff_lt_mul (by omega),Nat.mul_add,<-Nat.mul_assoc];have h2:U*4294967296=q*y1*4294967296+r*4294967296:=by rw[<-h.eq,Nat.add_mul]
   omega
 have hq:0<q:=Nat.lt_of_le_of_lt (Nat.zero_le _) hlt;refine⟨hq,?_,Nat.le_sub_one_of_lt hlt⟩;obtain⟨k,rfl⟩:∃k,q=k+1:=⟨q-1,by omega⟩
 have:=h.eq;rw[Nat.add_mul]at this;rw[Nat.add_sub_cancel];omega
theorem So{U u y1 y0 q r:Nat}(h:Gs U u y1 y0 q r)(hy:0<y1)(hc:q*y0<=4294967296*r+u):q=(U*4294967296+u)/(y1*4294967296+y0):=by
 apply Nat.le_antisymm _ h.hi;rw[Nat.le_div_iff_mul_le (by omega),Nat.mul_add,<-Nat.mul_assoc];have h2:U*4294967296=q*y1*4294967296+r*4294967296:=by rw[<-h.eq,Nat.add_mul]
 omega
theorem Bu{U u y1 y0 q r:Nat}(h:Gs U u y1 y0 q r)(hy0:y0<4294967296)(hU:U<y1*4294967296+y0)(hr:4294967296<=r):q*y0<=4294967296*r+u:=by
 have hq:q<=4294967296:=by apply Nat.le_of_not_lt;intro hq;have h1:(4294967296+1)*y1<=q*y1:=Nat.mul_le_mul_right _ hq;have:=h.eq;rw[Nat.add_mul]at h1;omega
 have h2:q*y0<=4294967296*(4294967296-1):=Nat.mul_le_mul hq (by omega);have h3:4294967296*4294967296<=4294967296*r:=Nat.mul_le_mul_left _ hr;omega
theorem Qgc{a b r1 r0 U v1 v0:Nat}(e1:a+r1=U*4294967296+v1)(e2:b+r0=r1*4294967296+v0):U*18446744073709551616+(v1*4294967296+v0)=a*4294967296+b+r0:=by omega
theorem Qgs{N P y Y q1 q0 r0 S B:Nat}(hY:Y=y*P)(hy:0<y)(hp:0<P)(hN:N*P=S)(hS:S=Y*q1*B+Y*q0+r0)(l2:r0<Y):N/y=q1*B+q0/\N%y=r0/P:=by
 have h3:Y*q1*B+Y*q0=y*(q1*B+q0)*P:=by rw[hY,Nat.mul_assoc (y*P),<-Nat.mul_add,Nat.mul_right_comm]
 rw[hS,h3]at hN;have hd:P∣r0:=by
  have h1:P∣y*(q1*B+q0)*P+r0:=by rw[<-hN];exact Nat.dvd_mul_left _ _
  exact(Nat.dvd_add_iff_right (Nat.dvd_mul_left _ _)).2 h1
 obtain⟨t,ht⟩:=hd;rw[ht,Nat.mul_comm P t,<-Nat.add_mul]at hN;have h4:=Nat.eq_of_mul_eq_mul_right hp hN;have h5:t<y:=by rw[hY,ht,Nat.mul_comm P t]at l2;exact Nat.lt_of_mul_lt_mul_right l2
 rw[h4,ht,Nat.mul_div_cancel_left _ hp];constructor
 .rw[Nat.mul_add_div hy,Nat.div_eq_of_lt h5,Nat.add_zero]
 .rw[Nat.mul_add_mod,Nat.mod_eq_of_lt h5]
theorem Qgr{N y P Y U v1 v0:Nat}(hY:Y=y*P)(hy:0<y)(hp:0<P)(hN:N*P=U*18446744073709551616+(v1*4294967296+v0)) :
  N/y=(U*4294967296+v1)/Y*4294967296+((U*4294967296+v1)%Y*4294967296+v0)/Y/\N%y=((U*4294967296+v1)%Y*4294967296+v0)%Y/P:=by
 have hYp:0<Y:=by rw[hY];exact Nat.mul_pos hy hp
 exact Qgs hY hy hp hN (Qgc (Nat.div_add_mod (U*4294967296+v1) Y) (Nat.div_add_mod ((U*4294967296+v1)%Y*4294967296+v0) Y)) (Nat.mod_lt _ hYp)
theorem norm{hi lo y s r:Nat}(hlt:hi<y)(hy:y<18446744073709551616)(hl:lo<18446744073709551616)(hs:s=64-bl y)(hr:r=64-s) :
  9223372036854775808<=y*2^s/\y*2^s<18446744073709551616/\hi*2^s+lo/2^r<y*2^s/\(hi*18446744073709551616+lo)*2^s=(hi*2^s+lo/2^r)*18446744073709551616+lo*2^s%18446744073709551616/\s<=63:=by
 have hb:=Zs hy;have hy0:y≠0:=by omega
 have hbl:=Zi hy0;have h1:=Zb y;have h2:2^(bl y-1)<=y:=by rw[hbl,Nat.add_sub_cancel];exact Nat.log2_self_le hy0
 have hR:(18446744073709551616:Nat)=2^r*2^s:=by rw[<-Nat.pow_add,hr];rw[show 64-s+s=64 by omega]
 have hrb:r=bl y:=by omega
 have e1:2^r=2*2^(bl y-1):=by rw[hrb,<-Nat.pow_succ',show(bl y-1).succ=bl y by omega]
 have hp:0<2^s:=Nat.two_pow_pos s;have g1:y*2^s<2^r*2^s:=Nat.mul_lt_mul_of_pos_right (by rw[hrb];exact h1) hp;have g2:2^(bl y-1)*2^s<=y*2^s:=Nat.mul_le_mul_right _ h2;have g3:lo/2^r<2^s:=Nat.div_lt_of_lt_mul (by rw[<-hR];exact hl);have g4:(hi+1)*2^s<=y*2^s:=Nat.mul_le_mul_right _ hlt;have g5:lo*2^s%18446744073709551616=(lo%2^r)*2^s:=by rw[hR,Nat.mul_mod_mul_right]
 have g6:=Nat.div_add_mod lo (2^r);refine⟨?_,by omega,?_,?_,by omega⟩
 .rw[e1,Nat.mul_assoc]at hR;omega
 .rw[Nat.add_mul]at g4;omega
 .rw[g5,Nat.add_mul,Nat.add_mul];have g7:lo*2^s=lo/2^r*18446744073709551616+(lo%2^r)*2^s:=by
   conv=>lhs;rw[<-g6]
   rw[Nat.add_mul];congr 1;rw[Nat.mul_comm (2^r),Nat.mul_assoc,<-hR]
  rw[g7,Nat.mul_right_comm];omega
theorem Jy{x:Int}{n:Nat}(h:x=n)(hn:n<18446744073709551616):IntKind.u64.wrap x=n:=by rw[IntKind.wrap_u64];omega
theorem Qci{x:Int}{n:Nat}(h:x=n):IntKind.u64.wrap x=(n%18446744073709551616:Nat):=by rw[IntKind.wrap_u64,h];omega
theorem Fk{a b c:Int}{n:Nat}(h:a+b-c=n)(hn:n<18446744073709551616):IntKind.u64.wrap (IntKind.u64.wrap (IntKind.u64.wrap a+b)-IntKind.u64.wrap c)=n:=by simp only[IntKind.wrap_u64];omega
theorem Hh{a c:Int}{n:Nat}(h:a-c=n)(hn:n<18446744073709551616):IntKind.u64.wrap (a-IntKind.u64.wrap c)=n:=by simp only[IntKind.wrap_u64];omega
end Go.Proofs.YtobpioceopfkpaaGreatDoor
