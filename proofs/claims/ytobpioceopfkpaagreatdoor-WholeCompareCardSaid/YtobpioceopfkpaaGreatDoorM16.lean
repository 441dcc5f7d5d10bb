/-
  Lemmas for WholeCompare (part 16); without conditions.
-/
import Derived.Test.YtobpioceopfkpaaGreatDoorM15
import Derived.Test.YtobpioceopfkpaaGreatDoorM12
import Derived.Test.YtobpioceopfkpaaGreatDoorM14
set_option maxRecDepth 100000
set_option maxHeartbeats 4000000
namespace Go.Proofs.YtobpioceopfkpaaGreatDoor
open Go.RowKit
open World (setCell alloc drew)
open List (set_cons_zero set_cons_succ setIfInBounds_toArray cons_append nil_append)
theorem Fz.one_fx{w0 w:World}{bs:List (Nat×TypeId×Array Value)}(h:Fz w0 w bs)(i:Nat){g:Nat}{t:TypeId}{cs:Array Value}(hi:bs[i]?=some (g,t,cs))(hn:Vt cs=true):Fx w0 w [(g,t,cs)]:=by
 refine⟨h.b,?_,?_,?_,?_⟩
 .intro j g' t' cs' hj
  match j with
  | 0=>simp at hj;obtain⟨rfl,rfl,rfl⟩:=hj;exact h.box i _ _ _ hi
  | j+1=>simp at hj
 .intro j g' t' cs' hj
  match j with
  | 0=>simp at hj;obtain⟨rfl,rfl,rfl⟩:=hj;exact h.low i _ _ _ hi
  | j+1=>simp at hj
 .intro j k g' t' cs' g2 t2 cs2 hjk h1 h2;have:=(List.getElem?_eq_some_iff.1 h2).1;simp at this;omega
 .intro j g' t' cs' hj
  match j with
  | 0=>simp at hj;obtain⟨rfl,rfl,rfl⟩:=hj;exact hn
  | j+1=>simp at hj
theorem Qkt(x:Nat)(h:x<9223372036854775808)(w:World):Calls Tryz.prog 174 #[.int .u64 (x:Int)] w fun e w'=>e=.returned (.int .i64 (bl x:Nat))/\w=w':=by
 have H:=h_ (fun w=>Ij x (by omega) w);generalize bl x=b at *
 go_enter Tryz.func174,Tryz.ntmps174;go_wp2_with fail;refine(H.o _).mono ?_;rintro e w' ⟨rfl,rfl⟩;go_wp2;go_ret;exact⟨rfl,rfl⟩
theorem Qgd{x:Nat}(hx:x<4294967296):bits .and .i64 (x:Int) 1=((x%2:Nat):Int):=by show IntKind.i64.wrap ((BitVec.ofInt 64 (x:Int) &&& BitVec.ofInt 64 ((1:Nat):Int)).toNat:Int)=_;rw[BitVec.toNat_and,ofInt_u64 x (by omega),ofInt_u64 1 (by decide),Nat.and_one_is_mod];exact IntWalk.i64_in _ (by omega)
theorem Hn{w:World}{u v:Value}{m n:Nat}(h:Rd w u m)(k:Rd w v n):Calls Tryz.prog 71 #[u,v] w (J2 (m*n) w):=by obtain⟨L,h1,rfl,h2⟩:=h;obtain⟨K,k1,rfl,k2⟩:=k;exact Rv h1 k1 (by omega) (by omega)
theorem Uo(n k:Nat):bl (n^k)<=k*bl n+1:=by
 induction k with
 | zero=>simp;decide
 | succ k ih=>rw[Nat.pow_succ,Nat.succ_mul];have:=Wv (n^k) n;omega
theorem Oe{w:World}{v:Value}{n k:Nat}(h:Rd w v n)(hk:k*bl n<=60000)(hk2:k<=60000)(hn:n<18446744073709551616):Calls Tryz.prog 137 #[v,.int .i64 (k:Int)] w (Jp (n^k) 0 w):=by
 have bn:=Zs hn;have H:=h_ h;have CA:=h_ (fun w v (h:Rd w v n)=>Kt h);have CB:=h_ (fun w v (h:Dg w v n)=>Gy (h.rd (by omega)));rw[decide_eq_true hn,if_pos hn]at CB;have CL:=h_ (fun w v (h:Dg w v n)=>Xh (h.rd (by omega)));have C1:=h_ (fun w (t:Qq w)=>Zu (n:=1) (by decide) t);have CN:=h_ (fun w=>Qkt k (by omega) w);have F0:=h_ (Fz.nil w);have z0:decide ((k:Int)<0)=false:=decide_eq_false (by omega);have z0':decide (k<0)=false:=decide_eq_false (by omega);have HS:=h_ (And.intro hk hk2);have HN:=h_ hn;clear h;go_enter Tryz.func137,Tryz.ntmps137;go_wp2_with fail;refine(CA.o _ _ H.o).mono ?_;rintro q w1 ⟨a,rfl,hu,hb⟩;have F1:=h_ (F0.o.call hb);have A1:=h_ (hu);clear hb;go_wp2_with fail;refine(CB.o _ _ A1.o).mono ?_;rintro q w2 ⟨rfl,hb⟩;have F2:=h_ (F1.o.call hb);have A2:=h_ (A1.o.below hb);clear hb;by_cases h0:k=0
 .subst h0;rw[Nat.pow_zero];go_wp2_with fail;refine(C1.o _ A2.o.tab).mono ?_;rintro q w3 ⟨u,rfl,hu,hb⟩;have F3:=h_ (F2.o.call hb);have A3:=h_ (A2.o.below hb);have R3:=h_ (hu);clear hb;go_wp2;refine bodyPost_ret (v:=.tuple #[u,.int .i64 0]) (by simp[results,Tryz.results137,go_sem]) rfl ?_;exact⟨_,rfl,R3.o,F3.o.b⟩
 have z1:((k:Int)==0)=false:=by rw[beq_eq_false_iff_ne];omega
 have z1':¬(k:Int)=0:=by omega
 by_cases h1:n<2
 .have hp:n^k=n:=by
   rcases(by omega:n=0\/n=1)with rfl|rfl
   .exact Nat.zero_pow (by omega)
   .exact Nat.one_pow _
  have s2:decide ((n:Int)<2)=true:=decide_eq_true (by omega);have s3:decide (n<2)=true:=decide_eq_true h1;go_wp2;refine bodyPost_ret (v:=.tuple #[a,.int .i64 0]) (by simp[results,Tryz.results137,go_sem]) rfl ?_;exact⟨_,rfl,by rw[hp];exact A2.o,F2.o.b⟩
 have s2:decide ((n:Int)<2)=false:=decide_eq_false (by omega);have s3:decide (n<2)=false:=decide_eq_false h1;go_wp2_with fail;refine(CL.o _ _ A2.o).mono ?_;rintro q w3 ⟨rfl,hb⟩;have F3:=h_ (F2.o.call hb);have A3:=h_ (A2.o.below hb);clear hb;have b2:2<=bl n:=by apply Nat.not_lt.1;intro hc;have:=Zb n;have:2^bl n<=2^1:=Nat.pow_le_pow_right (by decide) (by omega);omega
 obtain⟨d,hd⟩:∃d:Nat,bl n=d+1:=⟨bl n-1,by omega⟩
 have e1:((bl n:Nat):Int)-1=(d:Int):=by omega
 have e2:IntKind.i64.wrap (d:Int)=(d:Int):=IntWalk.i64_in _ (by omega);obtain⟨q,hq⟩:∃q:Nat,q=65535/d:=⟨_,rfl⟩
 have hq2:q<=65535:=hq▸Nat.div_le_self _ _;have e3:(65535:Int).tdiv (d:Int)=(q:Int):=by rw[hq];rfl
 have e4:IntKind.i64.wrap (q:Int)=(q:Int):=IntWalk.i64_in _ (by omega);have e5:¬(d:Int)=0:=by omega
 have e6:((d:Int)==0)=false:=by rw[beq_eq_false_iff_ne];exact e5
 have hkq:k<=q:=by rw[hq,Nat.le_div_iff_mul_le (by omega)];have:k*d<=k*bl n:=Nat.mul_le_mul_left _ (by omega);omega
 have z2:decide ((q:Int)<(k:Int))=false:=decide_eq_false (by omega);have z3:decide (q<k)=false:=decide_eq_false (by omega);clear hq hkq;go_wp2_with fail;refine(C1.o _ A3.o.tab).mono ?_;rintro q w4 ⟨u,rfl,hu,hb⟩;have F4:=h_ (F3.o.call hb);have A4:=h_ (A3.o.below hb);have R4:=h_ (hu);clear hb;go_wp2_with fail;have q3:IntKind.u64.wrap (k:Int)=(k:Int):=by rw[IntKind.wrap_u64];omega
 go_wp2_with fail;refine(CN.o _).mono ?_;rintro e w' ⟨rfl,rfl⟩;have kb:k<2^bl k:=Zb k;have kl:bl k<=16:=Zp (by omega);generalize hb:bl k=b at *
 have p1:IntKind.i64.wrap ((b:Int)-1)=(b:Int)-1:=IntWalk.i64_in _ (by omega);have HB:=h_ (And.intro kb kl);clear kb kl hb;go_wp2
 go_loopw [8,9] (fun ta tb wr=>∃(j p:Nat) (t:Int),tb=.int .i64 t/\Qb (t=(j:Int)-1/\j<=b/\p=n^(k/2^j))/\Qb (Dg wr ta p)/\Qb (Dg wr a n)/\Qb (Fz w wr [])) (fun _ tb _=>(intOf tb+1).toNat)
 case atStart=>exact⟨b,1,_,rfl,⟨rfl,Nat.le_refl _,by rw[Nat.div_eq_of_lt HB.o.1,Nat.pow_zero]⟩,R4,A4,F4⟩
 case round =>
  obtain⟨j,p,t,rfl,hI,hR,hA,hF⟩:=hrel;by_cases hj:j=0
  .have t1:decide (0<=t)=false:=decide_eq_false (by have:=hI.o.1;omega);have t2:¬0<=t:=by have:=hI.o.1;omega
   have hp:p=n^k:=by rw[hI.o.2.2,hj,Nat.pow_zero,Nat.div_one]
   subst hp;clear hI hj;go_wp2;refine bodyPost_ret (v:=.tuple #[u8,.int .i64 0]) (by simp[results,Tryz.results137,go_sem]) rfl ?_;exact⟨_,rfl,hR.o,hF.o.b⟩
  .obtain⟨i,rfl⟩:∃i,j=i+1:=⟨j-1,by omega⟩
   obtain rfl:t=(i:Int):=by have:=hI.o.1;omega
   have hi:i<16:=by have:=hI.o.2.1;have:=HB.o.2;omega
   have HP:=h_ hI.o.2.2;have HJ:=h_ hI.o.2.1;have t1:decide ((0:Int)<=(i:Int))=true:=decide_eq_true (by omega);have t2:(0:Int)<=(i:Int):=by omega
   have HPB:Qb (bl p<=6000000):=by have h1:=Uo n (k/2^(i+1));have h2:k/2^(i+1)*bl n<=k*bl n:=Nat.mul_le_mul_right _ (Nat.div_le_self _ _);have h3:=HS.o.1;rw[hI.o.2.2];show bl _<=_;omega
   clear hI hj;have CM:=h_ (fun w u (h:Dg w u p)=>Hn (h.rd HPB.o) (h.rd HPB.o));go_wp2_with fail;refine(CM.o _ _ hR.o).mono ?_;rintro e w5 ⟨u5',rfl,h5,hb⟩;have R5:=h_ h5;have A5:=h_ (hA.o.below hb);have F5:=h_ (hF.o.call hb);clear h5 hb hR hA hF;obtain⟨r,hr⟩:∃r,r=k/2^i:=⟨_,rfl⟩
   have hrr:r/2=k/2^(i+1):=by rw[hr,Nat.div_div_eq_div_mul,Nat.pow_succ]
   have hrk:r<=k:=hr▸Nat.div_le_self _ _;have hb0:(k:Int)/2^i=(r:Int):=by rw[hr];simp
   have hb1:bits .and .i64 (r:Int) 1=((r%2:Nat):Int):=Qgd (by omega);have HR2:=h_ (And.intro hr (And.intro hrr hrk));by_cases ho:r%2=1
   .have hb2:(((r%2:Nat):Int)==1)=true:=by rw[ho];rfl
    have hpp:p*p*n=n^r:=by rw[HP.o,<-hrr,<-Nat.pow_add,<-Nat.pow_succ];congr 1;omega
    have HPP:Qb (bl (p*p)<=6000000):=by have h1:=Uo n (r/2+r/2);have h2:(r/2+r/2)*bl n<=k*bl n:=Nat.mul_le_mul_right _ (by omega);have h3:=HS.o.1;rw[Nat.pow_add,hrr,<-HP.o]at h1;show bl _<=_;rw[hrr]at h2;omega
    have CM2:=h_ (fun w u v (h:Dg w u (p*p)) (k:Dg w v n)=>Hn (h.rd HPP.o) (k.rd (by omega)));rw[hpp]at CM2;clear hpp hr hrr;go_wp2_with fail;refine(CM2.o _ _ _ R5.o A5.o).mono ?_;rintro e w6 ⟨u6',rfl,h6,hb⟩;have R6:=h_ h6;have A6:=h_ (A5.o.below hb);have F6:=h_ (F5.o.call hb);clear h6 hb R5 A5 F5;go_wp2_with fail;have HL:Qb (bl (n^r)<=65536):=by have h1:=Uo n r;have h2:r*bl n<=k*bl n:=Nat.mul_le_mul_right _ HR2.o.2.2;have h3:=HS.o.1;show bl _<=_;omega
    have CLL:=h_ (fun w u (h:Dg w u (n^r))=>Xh (h.rd (Nat.le_trans HL.o (by decide))));refine(CLL.o _ _ R6.o).mono ?_;rintro e w7 ⟨rfl,hb⟩;have R7:=h_ (R6.o.below hb);have A7:=h_ (A6.o.below hb);have F7:=h_ (F6.o.call hb);clear hb R6 A6 F6;have hl:=HL.o;generalize hbl:bl (n^r)=l at *
    have l1:decide ((65536:Int)<(l:Int))=false:=decide_eq_false (by omega);have l2:decide (65536<l)=false:=decide_eq_false (by omega);have i1:IntKind.i64.wrap ((i:Int)-1)=(i:Int)-1:=IntWalk.i64_in _ (by omega);clear hl hbl;go_wp2;go_roundw
    case rel=>exact⟨i,n^r,_,rfl,⟨rfl,by have:=HJ.o;omega,by rw[HR2.o.1]⟩,R7,A7,F7⟩
    case measure=>simp only[intOf];omega
   .have hb2:(((r%2:Nat):Int)==1)=false:=by rw[beq_eq_false_iff_ne];omega
    have hpp:p*p=n^r:=by rw[HP.o,<-hrr,<-Nat.pow_add];congr 1;omega
    rw[hpp]at R5;clear hpp hr hrr;go_wp2_with fail;have HL:Qb (bl (n^r)<=65536):=by have h1:=Uo n r;have h2:r*bl n<=k*bl n:=Nat.mul_le_mul_right _ HR2.o.2.2;have h3:=HS.o.1;show bl _<=_;omega
    have CLL:=h_ (fun w u (h:Dg w u (n^r))=>Xh (h.rd (Nat.le_trans HL.o (by decide))));refine(CLL.o _ _ R5.o).mono ?_;rintro e w7 ⟨rfl,hb⟩;have R7:=h_ (R5.o.below hb);have A7:=h_ (A5.o.below hb);have F7:=h_ (F5.o.call hb);clear hb R5 A5 F5;have hl:=HL.o;generalize hbl:bl (n^r)=l at *
    have l1:decide ((65536:Int)<(l:Int))=false:=decide_eq_false (by omega);have l2:decide (65536<l)=false:=decide_eq_false (by omega);have i1:IntKind.i64.wrap ((i:Int)-1)=(i:Int)-1:=IntWalk.i64_in _ (by omega);clear hl hbl;go_wp2;go_roundw
    case rel=>exact⟨i,n^r,_,rfl,⟨rfl,by have:=HJ.o;omega,by rw[HR2.o.1]⟩,R7,A7,F7⟩
    case measure=>simp only[intOf];omega
end Go.Proofs.YtobpioceopfkpaaGreatDoor
