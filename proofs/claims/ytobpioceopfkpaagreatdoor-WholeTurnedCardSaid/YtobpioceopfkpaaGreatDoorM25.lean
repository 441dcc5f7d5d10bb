/-
  Lemmas for WholeTurned and WholeGrows and WholeRises, part 25 of 36: what the program's functions do, and plain facts; without conditions.
-/
import Derived.Test.YtobpioceopfkpaaGreatDoorM24
import Derived.Test.YtobpioceopfkpaaGreatDoorM05
import Derived.Deep.RegionHeld3
import Derived.Deep.DeepCutAuto
import Derived.BigQuiet
import Derived.Test.YtobpioceopfkpaaGreatDoorM09
import Derived.Test.YtobpioceopfkpaaGreatDoorM10
import Derived.Test.YtobpioceopfkpaaGreatDoorM18
import Derived.Test.YtobpioceopfkpaaGreatDoorM14
import Derived.Test.YtobpioceopfkpaaGreatDoorM17
set_option maxRecDepth 100000
set_option maxHeartbeats 4000000
namespace Go.Proofs.YtobpioceopfkpaaGreatDoor
open Go.RowKit
theorem norm_b {K:List Nat} {b:Nat} (cK:Can K b) {s:Nat} (hs:s=64 - bl (dg K (K.length - 1))) (b0:b ≠ 0) :
  s≤63∧b * 2^s < 18446744073709551616^K.length∧18446744073709551616^K.length≤2 * (b * 2^s):=by
 obtain ⟨h1,h0⟩:=bl_digits cK b0
 have h2:=bl64 (dg_lt cK.digs (K.length - 1))
 have h3:=bl_pos (n:=dg K (K.length - 1)) (by omega)
 have hK:0 < K.length:=by
  apply Nat.pos_of_ne_zero; intro hz
  have:K=[]:=List.length_eq_zero_iff.1 hz
  have hv:=cK.val
  rw [this] at hv
  exact b0 hv.symm
 have h4:bl b+s=64 * K.length:=by omega
 have h5:=lt_bl b
 have h6:2^(bl b - 1)≤b:=by rw [bl_pos b0]; exact Nat.log2_self_le b0
 have e:(18446744073709551616:Nat)^K.length=2^(64 * K.length):=by rw [pow64]
 refine ⟨by omega,?_,?_⟩
 ·rw [e,← h4,Nat.pow_add]
  exact Nat.mul_lt_mul_of_pos_right h5 (Nat.two_pow_pos s)
 ·rw [e,← h4,show bl b+s=(bl b - 1)+s+1 by have:=bl_pos b0; omega,Nat.pow_succ,Nat.pow_add,Nat.mul_comm 2]
  exact Nat.mul_le_mul_right _ (Nat.mul_le_mul_right _ h6)
theorem ownB {w w':World} {B:Nat} {e:TypeId} {size:Nat} {v:Value} {n:Nat} {xs:List Value} (h:w.ownsRow B e size v n xs) (hb:Below w.heap.size w w'):w'.ownsRow B e size v n xs:=by
 obtain ⟨hl,h⟩:=h
 refine ⟨hl,?_⟩
 rcases h with h | ⟨g,cap,cur,h1,h2,h3,h4⟩
 ·exact .inl h
 ·exact .inr ⟨g,cap,cur,h1,h2,(hb.block g (heap_lt h3)).trans h3,h4⟩
theorem ownM {w:World} {B B':Nat} {e:TypeId} {size:Nat} {v:Value} {n:Nat} {xs:List Value} (h:w.ownsRow B e size v n xs) (hb:B'≤B):w.ownsRow B' e size v n xs:=by
 obtain ⟨hl,h⟩:=h
 refine ⟨hl,?_⟩
 rcases h with h | ⟨g,cap,cur,h1,h2,h3⟩
 ·exact .inl h
 ·exact .inr ⟨g,cap,cur,h1,Nat.le_trans hb h2,h3⟩
theorem two_top {V:List Nat} (hd:Digs V) {n:Nat} (hn:2≤n) (h:ofd V < 18446744073709551616^n) (h2:18446744073709551616^n≤2 * ofd V) :
  0 < dg V (n - 1)∧∃ m,ofd V=18446744073709551616^(n - 2) * (dg V (n - 1) * 18446744073709551616+dg V (n - 2))+m:=by
 obtain ⟨k,rfl⟩:∃ k,n=k+2:=⟨n - 2,by omega⟩
 rw [show k+2 - 2=k by omega,show k+2 - 1=k+1 by omega]
 have h1:=ofd_cut V k
 have hz:ofd (V.drop (k+1+1))=0:=by
  rw [← drop_val hd]; exact Nat.div_eq_of_lt h
 rw [drop_dg,drop_dg,hz,Nat.mul_zero,Nat.add_zero] at h1
 have h3:=ofd_take_lt hd k
 have e:18446744073709551616^(k+2)=18446744073709551616^k * (18446744073709551616 * 18446744073709551616):=by rw [Nat.pow_add]
 constructor
 ·apply Nat.pos_of_ne_zero
  intro h0
  rw [h0,Nat.mul_zero,Nat.add_zero] at h1
  have d0:=dg_lt hd k
  have h4:18446744073709551616^k * dg V k≤18446744073709551616^k * 18446744073709551615:=Nat.mul_le_mul_left _ (by omega)
  rw [e] at h2
  have h5:18446744073709551616^k * 4≤18446744073709551616^k * (18446744073709551616 * 18446744073709551616):=Nat.mul_le_mul_left _ (by decide)
  have h6:18446744073709551616^k * (2 * 18446744073709551616)≤18446744073709551616^k * (18446744073709551616 * 18446744073709551616):=Nat.mul_le_mul_left _ (by decide)
  generalize 18446744073709551616^k=B at *
  omega
 ·refine ⟨ofd (V.take k),?_⟩
  rw [h1,Nat.add_comm,Nat.mul_comm (dg V (k+1)),Nat.add_comm (dg V k)]
def XQ (B gq N:Nat) (Q:List Nat) (w:World):Prop:=w.ownsRow B 22 1 (.slice (some ⟨gq,0,none⟩) N N) N (dvl Q)
theorem Tw.below {B gu gv Nu cu Nv cv gq N:Nat} {Q:List Nat} {w0 wr w':World} {U V:List Nat} (h:Tw (XQ B gq N Q) B gu gv Nu cu Nv cv w0 wr U V) (hb:Below wr.heap.size wr w') (hs:B≤wr.heap.size):Tw (XQ B gq N Q) B gu gv Nu cu Nv cv w0 w' U V :=
 ⟨ownB h.u hb,ownB h.v hb,h.ne,h.du,h.dv,h.gB,h.b.trans (hb.mono hs),ownB h.x hb,h.st⟩
theorem Tw.drew {B gu gv Nu cu Nv cv gq N:Nat} {Q:List Nat} {w0 wr:World} {U V:List Nat} (h:Tw (XQ B gq N Q) B gu gv Nu cu Nv cv w0 wr U V):Tw (XQ B gq N Q) B gu gv Nu cu Nv cv w0 wr.drew U V :=
 ⟨h.u,h.v,h.ne,h.du,h.dv,h.gB,below_drewN' h.b 1,h.x,h.st⟩
theorem Tw.size {X:World→Prop} {B gu gv Nu cu Nv cv:Nat} {w0 wr:World} {U V:List Nat} (h:Tw X B gu gv Nu cu Nv cv w0 wr U V):B≤wr.heap.size :=
 Nat.le_of_lt (Nat.lt_of_le_of_lt h.gB (h.u.lt gu rfl).2)
theorem XQ.st {B gq N gu:Nat} {Q:List Nat} (hne:gq ≠ gu):∀ (w:World) (k:Nat) (u:Value),XQ B gq N Q w→XQ B gq N Q (w.setCell ⟨gu,k,none⟩ u):=by
 intro w k u h
 refine ownsRow_setCell_other h ?_ _
 simp only [Value.ownBlock]
 intro e
 exact hne (Option.some.inj e)
theorem Tw.setQ {B gu gv Nu cu Nv cv gq N:Nat} {Q:List Nat} {w0 wr:World} {U V:List Nat} (h:Tw (XQ B gq N Q) B gu gv Nu cu Nv cv w0 wr U V) (h1:gq ≠ gu) (h2:gq ≠ gv) (k:Nat) (x:Nat) (u:Value) (hu:u=.int .u64 (x:Int)) :
  Tw (XQ B gq N (Q.set k x)) B gu gv Nu cu Nv cv w0 (wr.setCell ⟨gq,k,none⟩ u) U V:=by
 subst hu
 have hB:B≤gq:=(World.ownsRow.lt h.x gq rfl).1
 refine ⟨ownsRow_setCell_other h.u (fun e=>h1 (Option.some.inj e).symm) _,ownsRow_setCell_other h.v (fun e=>h2 (Option.some.inj e).symm) _,h.ne,h.du,h.dv,h.gB,h.b.setCell hB _,?_,XQ.st h1⟩
 show World.ownsRow _ _ _ _ _ _ _
 rw [← dvl_set]
 exact (World.ownsRow.stored h.x k _).1
theorem Tw.qAt {B gu gv Nu cu Nv cv gq N:Nat} {Q:List Nat} {w0 wr:World} {U V:List Nat} (h:Tw (XQ B gq N Q) B gu gv Nu cu Nv cv w0 wr U V) {k:Nat} (hk:k < N):wr.cell? ⟨gq,k,none⟩=some (.int .u64 (dg Q k:Nat)):=by
 rw [World.ownsRow.cellAt h.x k (by omega)]
 exact dvl_get (dg_get (by rw [own_len h.x]; exact hk))
theorem Tw.qFz {B gu gv Nu cu Nv cv gq N:Nat} {Q:List Nat} {w0 wr:World} {U V:List Nat} (h:Tw (XQ B gq N Q) B gu gv Nu cu Nv cv w0 wr U V) (k:Nat):wr.frozen? ⟨gq,k,none⟩=false:=World.ownsRow.frozenAt h.x k
theorem left_m {L:List Nat} {v:Value} {w:World} (h:Raw w v L) (hl:L.length≤100000) (s:Nat) (hs:s≤63) {m:Nat} (hm:L.length+1=m):Calls Tryz.prog 187 #[v,.int .i64 (s:Int)] w fun e w'=>∃ O,e=.returned (.slice (some ⟨w.heap.size,0,none⟩) m m) ∧
  w'.ownsRow w.heap.size 22 1 (.slice (some ⟨w.heap.size,0,none⟩) m m) m (dvl O)∧Digs O∧ofd O=ofd L * 2^s∧Below w.heap.size w w':=by
 subst hm; exact left_any h hl s hs
theorem take_m {X:World→Prop} {B gu gv Nu cu Nv cv i n d cc M:Nat} {U V:List Nat} {w0 w:World} (hM:M=n+1) (h:Tw X B gu gv Nu cu Nv cv w0 w U V) (hiN:i+n < Nu) (hnV:n≤Nv) (hN:Nu≤300000) (hd:d < 18446744073709551616) :
  Calls Tryz.prog 189 #[.slice (some ⟨gu,i,none⟩) M cc,.slice (some ⟨gv,0,none⟩) n cv,.int .u64 (d:Int)] w (TakeE X B gu gv Nu cu Nv cv i n d U V w0):=by
 subst hM; exact take_any h hiN hnV hN hd
theorem put_m {X:World→Prop} {B gu gv Nu cu Nv cv i n cc M:Nat} {U V:List Nat} {w0 w:World} (hM:M=n+1) (h:Tw X B gu gv Nu cu Nv cv w0 w U V) (hiN:i+n < Nu) (hnV:n≤Nv) (hN:Nu≤300000) :
  Calls Tryz.prog 190 #[.slice (some ⟨gu,i,none⟩) M cc,.slice (some ⟨gv,0,none⟩) n cv] w (PutE X B gu gv Nu cu Nv cv i n U V w0):=by
 subst hM; exact put_any h hiN hnV hN
theorem guess_m {g i n cc u2 u1 u0 top nx M:Nat} {w:World} (hM:M=n+1) (hn:2≤n) (hn2:n≤300000) (h2:w.cell? ⟨g,i+n,none⟩=some (.int .u64 (u2:Int))) (h1:w.cell? ⟨g,i+(n - 1),none⟩=some (.int .u64 (u1:Int))) (h0:w.cell? ⟨g,i+(n - 2),none⟩=some (.int .u64 (u0:Int)))
  (b1:u1 < 18446744073709551616) (b0:u0 < 18446744073709551616) (bt:top < 18446744073709551616) (bx:nx < 18446744073709551616) (ht:0 < top) :
  Calls Tryz.prog 188 #[.slice (some ⟨g,i,none⟩) M cc,.int .u64 (top:Int),.int .u64 (nx:Int)] w (GuessE u2 u1 u0 top nx w):=by
 subst hM; exact guess_any hn hn2 h2 h1 h0 b1 b0 bt bx ht
theorem long_any {L K:List Nat} {u v:Value} {w:World} {a b:Nat} (h:Raw w u L) (k:Raw w v K) (cL:Can L a) (cK:Can K b) (hn:2≤K.length) (hle:K.length≤L.length) (hl:L.length≤90000) :
  Calls Tryz.prog 182 #[u,v] w fun e w'=>∃ x y,e=.returned (.tuple #[x,y])∧Dg w' x (a / b)∧Dg w' y (a % b)∧Below w.heap.size w w':=by
 have HL:=h_ h
 have HK:=h_ k
 obtain ⟨n,en⟩:∃ n,n=K.length:=⟨_,rfl⟩
 obtain ⟨la,el⟩:∃ la,la=L.length:=⟨_,rfl⟩
 obtain ⟨mu,emu⟩:∃ mu,mu=la+1:=⟨_,rfl⟩
 obtain ⟨mv,emv⟩:∃ mv,mv=n+1:=⟨_,rfl⟩
 obtain ⟨N,eN⟩:∃ N,N=la - n+1:=⟨_,rfl⟩
 obtain ⟨p1,ep1⟩:∃ p,p=n - 1:=⟨_,rfl⟩
 obtain ⟨p2,ep2⟩:∃ p,p=n - 2:=⟨_,rfl⟩
 have b0:b ≠ 0:=by
  intro hb; subst hb; have:=cK.zero; rw [this] at hn; simp at hn
 obtain ⟨s,es⟩:∃ s,s=64 - bl (dg K (K.length - 1)):=⟨_,rfl⟩
 obtain ⟨s63,vlt,vge⟩:=norm_b cK es b0
 have CZ:=h_ (fun w=>clz64 (dg K p1) (dg_lt cK.digs p1) w)
 have es2:(64:Int) - (bl (dg K p1):Int)=(s:Int):=by rw [ep1,en]; have:=bl64 (dg_lt cK.digs (K.length - 1)); omega
 rw [es2] at CZ
 have C1:=h_ (fun w (h:Raw w u L)=>left_m h (by omega) s s63 (by rw [← el,emu]:L.length+1=mu))
 have C2:=h_ (fun w (h:Raw w v K)=>left_m h (by omega) s s63 (by rw [← en,emv]:K.length+1=mv))
 obtain ⟨au,cu',rfl,-⟩:=h.sl.form
 obtain ⟨av,cv',rfl,kc⟩:=k.sl.form
 obtain ⟨bv,ov,rfl,kc2⟩:=kc (by omega)
 have hk1:w.cell? ⟨bv,ov+p1,none⟩=some (.int .u64 (dg K p1:Nat)):=kc2 p1 _ (dg_get (by omega))
 have VL:=h_ cL.val
 have VK:=h_ cK.val
 have P:Hid (n=K.length∧la=L.length∧mu=la+1∧mv=n+1∧N=la - n+1∧p1=n - 1∧p2=n - 2∧2≤n∧n≤la∧la≤90000):=⟨en,el,emu,emv,eN,ep1,ep2,by omega,by omega,by omega⟩
 have VN:Hid (b * 2^s < 18446744073709551616^n∧18446744073709551616^n≤2 * (b * 2^s)∧0 < b * 2^s∧s≤63):=⟨by rw [en]; exact vlt,by rw [en]; exact vge,Nat.mul_pos (Nat.pos_of_ne_zero b0) (Nat.two_pow_pos s),s63⟩
 have HB0:=h_ (Nat.pos_of_ne_zero b0)
 rw [← el] at HL C1 ⊢
 rw [← en] at HK C2 ⊢
 have w1:IntKind.i64.wrap (p1:Int)=(p1:Int):=IntWalk.i64_in _ (by omega)
 have w2:IntKind.i64.wrap (p2:Int)=(p2:Int):=IntWalk.i64_in _ (by omega)
 have v1:(n:Int) - 1=(p1:Int):=by omega
 have v2:(n:Int) - 2=(p2:Int):=by omega
 have v3:(la:Int) - (n:Int)+1=(N:Int):=by omega
 have n1:n≤100000:=by omega
 have n2:p1 < n:=by omega
 have n3:p2 < n:=by omega
 have n4:n≤mv:=by omega
 have n5:la≤90000:=by omega
 have HA:=h_ (show a < 18446744073709551616^la from by rw [el,← cL.val]; exact ofd_lt cL.digs)
 clear h k cL cK hn hle hl en el emu emv eN ep1 ep2 b0 es s63 vlt vge es2 kc kc2
 go_enter Tryz.func182,Tryz.ntmps182
 go_upto_region 2 with (fail)
 go_wp2_with fail
 refine (CZ.out _).mono ?_
 rintro e wz ⟨rfl,rfl⟩
 go_upto_region 3 with (fail)
 have HLd:=h_ HL.out.drew
 have HKd:=h_ HK.out.drew
 go_region_held3 (fun _=>True) (exact trivial) (first | (go_at_call 187; (with_reducible refine (C2.out _ K1.out).mono ?_); rintro q ww2 ⟨O2,rfl,ho2,hd2,hs2,hb2⟩; have VO:=h_ (And.intro ho2 (And.intro hd2 hs2)); have UO2:=h_ (ownB UO.out.1 hb2); have BB2:=h_ (BB.out.trans (hb2.mono SZ.out)); have L2:=h_ (L1.out.below hb2); have SV:=h_ (show w.heap.size < ww1.heap.size from (UO.out.1.lt _ rfl).2); clear hb2 ho2 hd2 hs2) | (go_at_call 187; (with_reducible refine (C1.out _ HLd.out).mono ?_); rintro q ww1 ⟨O1,rfl,ho1,hd1,hs1,hb1⟩; have K1:=h_ (HKd.out.below hb1); have L1:=h_ (HLd.out.below hb1); have UO:=h_ (And.intro ho1 (And.intro hd1 hs1)); have BB:Hid (Below w.heap.size w ww1):=(below_drewN' (Below.refl w.heap.size w) 1).trans hb1; have SZ:Hid (w.heap.size≤ww1.heap.size):=hb1.size; clear hb1 ho1 hd1 hs1))
 have UO':Hid (Digs O1∧ofd O1=a * 2^s):=⟨UO.out.2.1,by rw [UO.out.2.2,VL.out]⟩
 have VO':Hid (Digs O2∧ofd O2=b * 2^s):=⟨VO.out.2.1,by rw [VO.out.2.2,VK.out]⟩
 have UR:Hid (ww2.ownsRow w.heap.size 22 1 (.slice (some ⟨w.heap.size,0,none⟩) mu mu) mu (dvl O1)):=UO2.out
 have VR:Hid (ww2.ownsRow w.heap.size 22 1 (.slice (some ⟨ww1.heap.size,0,none⟩) mv mv) mv (dvl O2)):=ownM VO.out.1 SZ.out
 have NE:Hid (w.heap.size ≠ ww1.heap.size∧ww1.heap.size < ww2.heap.size):=⟨Nat.ne_of_lt SV.out,(VO.out.1.lt _ rfl).2⟩
 have HT:=h_ L2.out.tab
 clear UO VO UO2 SZ BB K1 L1 L2 SV HLd HKd VL VK hk1 CZ C1 C2 HK
 obtain ⟨gv,egv⟩:∃ gv,gv=ww1.heap.size:=⟨_,rfl⟩
 rw [← egv] at VR NE ⊢
 clear egv
 have N1:N≤90001:=by have:=P.out; omega
 go_wp2_with (refine wpList_mk (w0:=ww2) rfl (.tmp 37) 40 rfl ww2.heap.size 22 (.int .u64 0) 8 Tryz.underlying40 Tryz.info22 rfl (by decide) _ _ N rfl (by first | rfl | assumption) (by omega) (Below.refl _ _) (Nat.le_refl _) ?_)
 intro w3 ho3 hb3 hB3
 have HH:Hid (Tw (XQ w.heap.size ww2.heap.size N (List.replicate N 0)) w.heap.size w.heap.size gv mu mu mv mv w w3 O1 O2∧LgI (a * 2^s) (b * 2^s) n N N O1 (List.replicate N 0)∧Digs (List.replicate N 0)):=by
  have hs2:w.heap.size≤ww2.heap.size:=BB2.out.size
  refine ⟨⟨ownB UR.out hb3,ownB VR.out hb3,NE.out.1,UO'.out.1,VO'.out.1,Nat.le_refl _,BB2.out.trans (hb3.mono hs2),?_,XQ.st (fun e=>?_)⟩,⟨?_,fun t _=>dg_zeros N t,?_,List.length_replicate ..⟩,digs_zeros N⟩
  ·have:=ownM ho3.out hs2
   rw [dvl_zeros] at this
   exact this
  ·have:=(UR.out.lt _ rfl).2
   rw [← e] at this
   exact Nat.lt_irrefl _ this
  ·rw [ofd_zeros,Nat.mul_zero,Nat.add_zero]; exact UO'.out.2.symm
  ·rw [UO'.out.2]
   obtain ⟨v1,v2,v3,v4⟩:=VN.out
   obtain ⟨-,-,-,-,pN,-,-,-,pn,-⟩:=P.out
   have ha:=HA.out
   have h1:2 * (a * 2^s) < 2 * (b * 2^s * 18446744073709551616^N):=by
    have e1:18446744073709551616^n * 18446744073709551616^N≤2 * (b * 2^s) * 18446744073709551616^N:=Nat.mul_le_mul_right _ v2
    rw [← Nat.pow_add,show n+N=la+1 by omega,Nat.mul_assoc] at e1
    have e2:2 * 2^s≤18446744073709551616:=by
     have:2^s≤2^63:=Nat.pow_le_pow_right (by decide) v4
     have e:(2:Nat)^63=9223372036854775808:=by decide
     omega
    have e3:a * (2 * 2^s) < 18446744073709551616^la * 18446744073709551616:=Nat.lt_of_le_of_lt (Nat.mul_le_mul_left _ e2) (Nat.mul_lt_mul_of_pos_right ha (by decide))
    rw [← Nat.pow_succ,Nat.mul_left_comm] at e3
    exact Nat.lt_of_lt_of_le e3 e1
   exact Nat.lt_of_mul_lt_mul_left h1
 have GQ:Hid (ww2.heap.size ≠ w.heap.size∧ww2.heap.size ≠ gv):=by
  have h1:=(UR.out.lt _ rfl).2
  have h2:=NE.out.2
  exact ⟨fun e=>by rw [e] at h1; exact Nat.lt_irrefl _ h1,fun e=>by rw [e] at h2; exact Nat.lt_irrefl _ h2⟩
 have BE:Hid (Below w.heap.size w w3):=HH.out.1.b
 have UV2:=h_ VO'.out.2
 obtain ⟨gq,egq⟩:∃ gq,gq=ww2.heap.size:=⟨_,rfl⟩
 rw [← egq] at HH GQ ⊢
 clear egq ho3 hb3 hB3 UO' VO' UR VR NE BB2 HA BE
 have HVO2:=h_ UV2.out
 clear UV2
 generalize hA2:a * 2^s=A2 at *
 generalize hVv:b * 2^s=Vv at *
 have EA:=h_ hA2
 have EV:=h_ hVv
 clear hA2 hVv
 have HVO:Hid (dg O2 p1 < 18446744073709551616∧True):=⟨dg_lt HH.out.1.dv p1,trivial⟩
 have HVt:Hid (0 < dg O2 p1∧∃ m,Vv=18446744073709551616^(n - 2) * (dg O2 p1 * 18446744073709551616+dg O2 p2)+m):=by
  obtain ⟨v1,v2,v3,v4⟩:=VN.out
  obtain ⟨-,-,-,-,-,q1,q2,q3,-⟩:=P.out
  have e:=HVO2.out
  rw [← e] at v1 v2 ⊢
  rw [q1,q2]
  exact two_top HH.out.1.dv q3 v1 v2
 have VTK:Hid (ofd (O2.take n)=Vv):=by
  have h1:=ofd_cut O2 n
  have h2:ofd (O2.drop n)=0:=by
   rw [← drop_val HH.out.1.dv]
   refine Nat.div_eq_of_lt ?_
   rw [HVO2.out]; exact VN.out.1
  rw [h2,Nat.mul_zero,Nat.add_zero,HVO2.out] at h1
  exact h1.symm
 clear HVO2
 go_wp2
 go_loopw [11] (fun tj wr=>∃ (k:Nat) (z:Int) (U Q:List Nat),tj=.int .i64 z∧k≤N∧Hid (z=(k:Int) - 1)∧Hid (Tw (XQ w.heap.size gq N Q) w.heap.size w.heap.size gv mu mu mv mv w wr U O2∧LgI A2 Vv n N k U Q∧Digs Q)) (fun tj _=>(intOf tj+1).toNat)
 case atStart=>exact ⟨N,_,_,_,rfl,Nat.le_refl _,rfl,HH⟩
 case round =>
  clear HH
  obtain ⟨k,z,U,Q,rfl,hk,hz,hh⟩:=hrel
  rcases k with _ | j
  ·obtain rfl:z=-1:=by have:=hz.out; omega
   clear hz hk
   have CS:=h_ (shr_any (Raw.of_own hh.out.1.u (HL.out.tab.below hh.out.1.b) hh.out.1.du) (by rw [hh.out.1.lenU]; have:=P.out; omega) s (by have:=VN.out.2.2.2; omega))
   have HD:Hid (ofd U / 2^s=a % b∧ofd Q=a / b):=by
    have h1:=hh.out.2.1
    rw [← EA.out,← EV.out] at h1
    exact h1.done HB0.out
   rw [HD.out.1] at CS
   have HS:=h_ hh.out.1.size
   have HB:=h_ hh.out.1.b
   go_wp2_with fail
   refine (CS.out).mono ?_
   rintro q w4 ⟨x,rfl,hx,hb⟩
   have CQ:=h_ (bare_any (Raw.of_own (ownB hh.out.1.x hb) ((HL.out.tab.below HB.out).below hb) hh.out.2.2) (by rw [own_len hh.out.1.x]; omega))
   have HX:=h_ hx
   have B4:=h_ (HB.out.trans (hb.mono HS.out))
   have S4:=h_ (Nat.le_trans HS.out hb.size)
   rw [HD.out.2] at CQ
   clear hx hb CS HS HB
   go_wp2_with fail
   refine (CQ.out).mono ?_
   rintro q w5 ⟨y,rfl,hy,hb⟩
   have HX5:=h_ (HX.out.below hb)
   have HY5:=h_ hy
   have B5:=h_ (B4.out.trans (hb.mono S4.out))
   clear hy hb CQ
   go_wp2
   go_ret2
   exact ⟨_,_,rfl,HY5.out,HX5.out,B5.out⟩
  ·obtain rfl:z=(j:Int):=by have:=hz.out; omega
   clear hz
   obtain ⟨p,ep⟩:∃ p,p=j+n+1:=⟨_,rfl⟩
   have hP:=P.out
   have q1:(j:Int)+(n:Int)+1=(p:Int):=by omega
   have q2:(p:Int) - (j:Int)=(mv:Int):=by omega
   have q3:p - j=mv:=by omega
   have q4:p≤mu:=by omega
   have q5:j≤p:=by omega
   have q6:j≤90001:=by omega
   have q7:p≤90001:=by omega
   have q8:j < N:=by omega
   have HPJ:Hid (j+n < mu∧n≤mv∧mu≤300000∧mv=n+1∧2≤n∧n≤300000∧p1=n - 1∧p2=n - 2∧mu≤mu):=⟨by omega,by omega,by omega,by omega,by omega,by omega,by omega,by omega,Nat.le_refl _⟩
   clear ep hP
   have FIN:=h_ (hh.out.2.1.first VN.out.1)
   have HV0:Hid (0 < Vv):=VN.out.2.2.1
   have dt:=dg_lt hh.out.1.dv p1
   have dx:=dg_lt hh.out.1.dv p2
   have CG:Hid (∀ cc,Calls Tryz.prog 188 #[.slice (some ⟨w.heap.size,j,none⟩) mv cc,.int .u64 (dg O2 p1:Nat),.int .u64 (dg O2 p2:Nat)] wr.drew (GuessE (dg U (j+n)) (dg U (j+(n - 1))) (dg U (j+(n - 2))) (dg O2 p1) (dg O2 p2) wr.drew)):=fun cc=>by
    obtain ⟨h1,h2,h3,h4,h5,h6,h7,h8,h9⟩:=HPJ.out
    exact guess_m h4 h5 h6 (hh.out.1.uAt (k:=j+n) h1) (hh.out.1.uAt (k:=j+(n - 1)) (by omega)) (hh.out.1.uAt (k:=j+(n - 2)) (by omega)) (dg_lt hh.out.1.du _) (dg_lt hh.out.1.du _) dt dx HVt.out.1
   have QG:Hid (∀ d,Gd (dg U (j+n)) (dg U (j+(n - 1))) (dg U (j+(n - 2))) (dg O2 p1) (dg O2 p2) d→ofd U / 18446744073709551616^j / Vv≤d):=by
    intro d hd
    obtain ⟨h1,h2,h3,h4,h5,h6,h7,h8,h9⟩:=HPJ.out
    obtain ⟨l,hl,hP⟩:=part_top hh.out.1.du h5 FIN.out.1
    obtain ⟨-,m,hm⟩:=HVt.out
    exact hd _ FIN.out.2 (guess_ge rfl hP hl hm)
   have x1:wr.drew.cell? ⟨gv,p1,none⟩=some (.int .u64 (dg O2 p1:Nat)):=hh.out.1.vAt (by have:=HPJ.out; omega)
   have x2:wr.drew.cell? ⟨gv,p2,none⟩=some (.int .u64 (dg O2 p2:Nat)):=hh.out.1.vAt (by have:=HPJ.out; omega)
   have FC:=h_ (And.intro x1 x2)
   have TD:=h_ hh.out.1.drew
   have SD:=h_ hh.out.1.size
   clear dt dx x1 x2
   generalize dg O2 p1=top at *
   generalize dg O2 p2=nx at *
   go_upto_region 9 with (fail)
   go_region_held3 (fun w'=>w'.cell? ⟨gv,p1,none⟩=some (.int .u64 (top:Int))∧w'.cell? ⟨gv,p2,none⟩=some (.int .u64 (nx:Int))) (first | with_reducible exact FC.out | with_reducible exact FC2.out) (first | (go_at_call 188; (with_reducible refine (CG.out _).mono ?_); rintro q ww1 ⟨d0,rfl,hd0,hg0,hb⟩; have D0:=h_ hd0; have G0:=h_ (QG.out _ hg0); have T1:=h_ (TD.out.below hb SD.out); have FC2:=h_ (And.intro (cell_below hb (Nat.le_refl _) FC.out.1) (cell_below hb (Nat.le_refl _) FC.out.2)); clear hb hd0 hg0))
   have GL:=h_ hh.out.2
   clear CG QG FC FC2 TD SD hh
   have CT:=h_ (fun cc=>take_m (cc:=cc) (M:=mv) HPJ.out.2.2.2.1 T1.out HPJ.out.1 HPJ.out.2.1 HPJ.out.2.2.1 D0.out)
   go_wp2_with fail
   refine (CT.out _).mono ?_
   rintro q ww2 ⟨c,O,rfl,hc,hT,hs,hlo,hhi⟩
   have TI:Hid (Tw (XQ w.heap.size gq N Q) w.heap.size w.heap.size gv mu mu mv mv w ww2 O O2∧InI Vv n j U O d0 c):=⟨hT,⟨by rw [VTK.out] at hs; exact hs,hlo,hhi,hc,D0.out,G0.out⟩⟩
   have DU:=h_ T1.out.du
   clear hc hT hs hlo hhi CT T1
   go_wp2
   go_loopw [13,14] (fun td tw wr=>∃ (d c:Nat) (O:List Nat),td=.int .u64 (d:Int)∧tw=.bool (decide (0 < c))∧Hid (Tw (XQ w.heap.size gq N Q) w.heap.size w.heap.size gv mu mu mv mv w wr O O2∧InI Vv n j U O d c)) (fun td _ _=>(intOf td).toNat)
   case atStart=>exact ⟨d0,c,O,rfl,rfl,TI⟩
   case round =>
    clear TI D0 G0
    obtain ⟨d,c',O',rfl,rfl,hI⟩:=hrel
    by_cases h0:c'=0
    ·subst h0
     have HN:Hid (∀ u,u=.int .u64 (d:Int)→Tw (XQ w.heap.size gq N (Q.set j d)) w.heap.size w.heap.size gv mu mu mv mv w (World.setCell wr ⟨gq,j,none⟩ u) O' O2∧LgI A2 Vv n N j O' (Q.set j d)∧Digs (Q.set j d)) :=
      fun u hu=>⟨hI.out.1.setQ GQ.out.1 GQ.out.2 j d u hu,hI.out.2.done GL.out.1 HV0.out q8,GL.out.2.set hI.out.2.d64⟩
     have y1:=hI.out.1.qAt q8
     have y2:=hI.out.1.qFz j
     have q9:IntKind.i64.wrap ((j:Int) - 1)=(j:Int) - 1:=IntWalk.i64_in _ (by omega)
     go_wp2
     go_roundw
     case rel=>exact ⟨j,_,O',Q.set j d,rfl,Nat.le_of_lt q8,rfl,HN.out _ rfl⟩
     case measure=>simp only [intOf]; omega
    ·have hc1:c'=1:=by have:=hI.out.2.c1; omega
     subst hc1
     have hL:=hI.out.2.less hI.out.1.du FIN.out.1
     obtain ⟨d',hd'⟩:∃ d',d=d'+1:=⟨d - 1,(Nat.succ_pred_eq_of_pos hL.1).symm⟩
     have HQ:Hid (ofd U / 18446744073709551616^j / Vv≤d'):=by
      have:=hL.2
      rw [hd',Nat.add_sub_cancel] at this
      exact this
     have HD':=h_ hd'
     have hd64:=hI.out.2.d64
     have e1:(d:Int) - 1=(d':Int):=by omega
     have e2:IntKind.u64.wrap (d':Int)=(d':Int):=by rw [IntKind.wrap_u64]; omega
     have e3:IntKind.u64.wrap ((d:Int) - 1)=(d':Int):=by rw [e1]; exact e2
     have CP:=h_ (fun cc=>put_m (cc:=cc) (M:=mv) HPJ.out.2.2.2.1 hI.out.1 HPJ.out.1 HPJ.out.2.1 HPJ.out.2.2.1)
     clear hL hd' hd64 h0
     go_wp2_with fail
     refine (CP.out _).mono ?_
     rintro q ww3 ⟨c2,O3,rfl,hc,hT,hs,hlo,hhi⟩
     have HN:Hid (Tw (XQ w.heap.size gq N Q) w.heap.size w.heap.size gv mu mu mv mv w ww3 O3 O2∧InI Vv n j U O3 d' (1 - c2)) :=
      ⟨hT,hI.out.2.put HD'.out HQ.out (by rw [VTK.out] at hs; exact hs) hlo hhi hc⟩
     have HB:Hid ((!decide (0 < c2))=decide (0 < 1 - c2)):=by
      rcases Nat.le_one_iff_eq_zero_or_eq_one.1 hc with rfl | rfl <;> rfl
     clear hc hT hs hlo hhi CP HQ
     go_wp2
     go_roundw
     case rel=>exact ⟨d',1 - c2,O3,rfl,by rw [← HB.out],HN⟩
     case measure=>have:=HD'.out; simp only [intOf]; omega
theorem Dg.big {w:World} {a:Option Addr} {k c n:Nat} (h:Dg w (.slice a k c) n) (hn:18446744073709551616≤n):2≤k:=by
 obtain ⟨L,h1,hc⟩:=h
 obtain ⟨a',c',he,_⟩:=h1.sl
 rw [dvl_length] at he
 injection he with _ hk _
 apply Nat.le_of_not_lt; intro hlt
 have h2:=ofd_lt hc.digs
 rw [hc.val] at h2
 have h3:=pow_mono (show L.length≤1 by omega)
 rw [Nat.pow_one] at h3
 omega
theorem long_d {w:World} {u v:Value} {m n:Nat} (hu:Dg w u m) (hv:Dg w v n) (h2:18446744073709551616≤n) (hle:n≤m) (bm:bl m≤5700000) :
  Calls Tryz.prog 182 #[u,v] w fun e w'=>∃ x y,e=.returned (.tuple #[x,y])∧Dg w' x (m / n)∧Dg w' y (m % n)∧Below w.heap.size w w':=by
 obtain ⟨L,hL,cL⟩:=hu
 obtain ⟨K,hK,cK⟩:=hv
 have n0:n ≠ 0:=by omega
 have m0:m ≠ 0:=by omega
 have e1:=(bl_digits cL m0).1
 have e2:=(bl_digits cK n0).1
 have d1:=(bl_digits cL m0).2
 have d2:=(bl_digits cK n0).2
 have f1:=bl_pos (n:=dg L (L.length - 1)) (by omega)
 have f2:=bl_pos (n:=dg K (K.length - 1)) (by omega)
 have g2:=bl64 (dg_lt cK.digs (K.length - 1))
 have h3:65≤bl n:=by
  apply Nat.le_of_not_lt; intro h
  have h4:=lt_bl n
  have h5:2^bl n≤2^64:=Nat.pow_le_pow_right (by decide) (by omega)
  have h6:(2:Nat)^64=18446744073709551616:=by decide
  omega
 have h4:=bl_mono hle
 have k2:2≤K.length:=by omega
 have g1:=bl64 (dg_lt cL.digs (L.length - 1))
 have k3:K.length≤L.length:=by
  apply Nat.le_of_not_lt; intro h
  omega
 exact long_any hL hK cL cK k2 k3 (by omega)
theorem Div_g {w:World} {u v:Value} {m n:Nat} (hu:Rd w u m) (hv:Rd w v n) (h0:0 < n) (bm:bl m≤5700000) (bn:bl n≤5700000) :
  Calls Tryz.prog 167 #[u,v] w fun e w'=>∃ x y,e=.returned (.tuple #[x,y,.int .i64 0])∧Dg w' x (m / n)∧Dg w' y (m % n)∧Below w.heap.size w w':=by
 by_cases h:n < 18446744073709551616 ∨ m < n
 ·exact Div_r hu hv h0 h (by omega) (by omega)
 have h1:18446744073709551616≤n:=by omega
 have h2:n≤m:=by omega
 have HU:=h_ hu
 have HV:=h_ hv
 obtain ⟨a1,k1,c1,rfl⟩:=hu.form
 obtain ⟨a2,k2,c2,rfl⟩:=hv.form
 have CC:=h_ (fun w (u v:Value) (h:Rd w u m) (k:Rd w v n)=>cmp_r h k)
 have hc:decide (cmpN m n < 0)=false:=decide_eq_false (by unfold cmpN; split; omega; split <;> omega)
 have CL:=h_ (fun w u v (hu:Dg w u m) (hv:Dg w v n)=>long_d hu hv h1 h2 bm)
 have B0:=h_ bm
 have B1:=h_ bn
 have H1:=h_ h1
 generalize cmpN m n=c at *
 clear hu hv h0 h h1 h2 bm bn
 go_enter Tryz.func167,Tryz.ntmps167
 have F0:=h_ (Fx.nil w)
 have X0:=h_ (HU.out)
 have Y0:=h_ (HV.out)
 clear HU HV
 go_wp2_with fail
 refine (bare_r X0.out).mono ?_
 rintro q w1 ⟨u,rfl,hu,hb⟩
 have F1:=h_ (F0.out.call hb)
 have X1:=h_ (X0.out.below hb)
 have Y1:=h_ (Y0.out.below hb)
 clear F0 X0 Y0
 have U1:=h_ (hu)
 clear hb
 obtain ⟨a3,k3,c3,rfl⟩:=U1.out.form
 go_wp2_with fail
 refine (bare_r Y1.out).mono ?_
 rintro q w2 ⟨u,rfl,hu,hb⟩
 have F2:=h_ (F1.out.call hb)
 have X2:=h_ (X1.out.below hb)
 have Y2:=h_ (Y1.out.below hb)
 have U2:=h_ (U1.out.below hb)
 clear F1 X1 Y1 U1
 have V2:=h_ (hu)
 clear hb
 clear X2 Y2
 obtain ⟨a4,k4,c4,rfl⟩:=V2.out.form
 have t0:((k4:Int) == 0)=false:=by rw [beq_eq_false_iff_ne]; intro h; have:=V2.out.len0.2 (by omega); have:=H1.out; omega
 have t1:((k4:Int) == 1)=false:=by rw [beq_eq_false_iff_ne]; intro h; have h3:=V2.out.big H1.out; omega
 have t2:(k4 == 1)=false:=by rw [beq_eq_false_iff_ne]; intro h; have h3:=V2.out.big H1.out; omega
 go_wp2_with fail
 refine (CC.out _ _ _ (U2.out.rd (Nat.le_trans B0.out (by decide))) (V2.out.rd (Nat.le_trans B1.out (by decide)))).mono ?_
 rintro q w3 ⟨rfl,hb⟩
 have F3:=h_ (F2.out.call hb)
 have U3:=h_ (U2.out.below hb)
 have V3:=h_ (V2.out.below hb)
 clear F2 U2 V2
 clear hb
 go_wp2_with fail
 refine (CL.out _ _ _ U3.out V3.out).mono ?_
 rintro q w4 ⟨x,y,rfl,hx,hy,hb⟩
 have F4:=h_ (F3.out.call hb)
 have U4:=h_ (U3.out.below hb)
 have V4:=h_ (V3.out.below hb)
 clear F3 U3 V3
 have Q4:=h_ (hx)
 have W4:=h_ (hy)
 clear hb
 obtain ⟨a5,k5,c5,rfl⟩:=Q4.out.form
 obtain ⟨a6,k6,c6,rfl⟩:=W4.out.form
 go_wp2
 refine bodyPost_ret (v:=.tuple #[.slice a5 k5 c5,.slice a6 k6 c6,.int .i64 0]) (by simp [results,Tryz.results167,go_sem]) rfl ?_
 exact ⟨_,_,rfl,Q4.out,W4.out,F4.out.b⟩
theorem Up_r {w:World} {u v:Value} {m n:Nat} (hu:Rd w u m) (hv:Rd w v n) (h0:0 < n) (bm:bl m≤5700000) (bn:bl n≤5700000) :
  Calls Tryz.prog 165 #[u,v] w (RetDgE (if m % n=0 then m / n else m / n+1) 0 w):=by
 have CD:=h_ (fun w u v (hu:Rd w u m) (hv:Rd w v n)=>Div_g hu hv h0 bm bn)
 have hq:bl (m / n)≤5700000:=Nat.le_trans (bl_mono (Nat.div_le_self _ _)) bm
 have HQ:=h_ hq
 have HU:=h_ hu
 have HV:=h_ hv
 generalize m / n=q at *
 generalize m % n=r at *
 have CA:Hid (∀ w u v,Dg w u q→Dg w v 1→Calls Tryz.prog 123 #[u,v] w (RetDg (q+1) w)):=fun w u v h k=>add_r (h.rd (by omega)) (k.rd (by decide))
 obtain ⟨S,hS⟩:∃ S,S=if r=0 then q else q+1:=⟨_,rfl⟩
 rw [← hS]
 have HS:=h_ hS
 clear hu hv h0 bm bn hq hS
 go_enter Tryz.func165,Tryz.ntmps165
 have F0:=h_ (Fx.nil w)
 have X0:=h_ (HU.out)
 have Y0:=h_ (HV.out)
 clear HU HV
 go_wp2_with fail
 refine (CD.out _ _ _ X0.out Y0.out).mono ?_
 rintro q w1 ⟨x,y,rfl,hx,hy,hb⟩
 have F1:=h_ (F0.out.call hb)
 have X1:=h_ (X0.out.below hb)
 have Y1:=h_ (Y0.out.below hb)
 clear F0 X0 Y0
 have Q1:=h_ (hx)
 have R1:=h_ (hy)
 clear hb
 clear X1 Y1
 obtain ⟨a5,k5,c5,rfl⟩:=Q1.out.form
 obtain ⟨a6,k6,c6,rfl⟩:=R1.out.form
 by_cases hr:r=0
 ·have t0:((k6:Int) == 0)=true:=by rw [beq_iff_eq]; have:=R1.out.len0.1 hr; omega
  have t1:(k6 == 0)=true:=by rw [beq_iff_eq]; exact R1.out.len0.1 hr
  have e:Hid (S=q):=HS.out.trans (if_pos hr)
  clear hr
  go_wp2
  go_ret2
  exact ⟨_,rfl,by rw [e.out]; exact Q1.out,F1.out.b⟩
 ·have t0:((k6:Int) == 0)=false:=by rw [beq_eq_false_iff_ne]; intro h; exact hr (R1.out.len0.2 (by omega))
  have t1:(k6 == 0)=false:=by rw [beq_eq_false_iff_ne]; intro h; exact hr (R1.out.len0.2 h)
  have e:Hid (S=q+1):=HS.out.trans (if_neg hr)
  clear hr
  go_wp2_with fail
  refine (of_any (n:=1) (by decide) Q1.out.tab).mono ?_
  rintro q w2 ⟨u,rfl,hu,hb⟩
  have F2:=h_ (F1.out.call hb)
  have Q2:=h_ (Q1.out.below hb)
  have R2:=h_ (R1.out.below hb)
  clear F1 Q1 R1
  have O2:=h_ (hu)
  clear hb
  go_wp2_with fail
  refine (CA.out _ _ _ Q2.out O2.out).mono ?_
  rintro q w3 ⟨u,rfl,hu,hb⟩
  have F3:=h_ (F2.out.call hb)
  have Q3:=h_ (Q2.out.below hb)
  have R3:=h_ (R2.out.below hb)
  have O3:=h_ (O2.out.below hb)
  clear F2 Q2 R2 O2
  have S3:=h_ (hu)
  clear hb
  obtain ⟨a7,k7,c7,rfl⟩:=S3.out.form
  go_wp2
  go_ret2
  exact ⟨_,rfl,by rw [e.out]; exact S3.out,F3.out.b⟩
theorem Len_r (x:Nat) (h:x < 9223372036854775808) (w:World):Calls Tryz.prog 174 #[.int .u64 (x:Int)] w fun e w'=>e=.returned (.int .i64 (bl x:Nat))∧w=w':=by
 have H:=h_ (fun w=>len64 x (by omega) w)
 generalize bl x=b at *
 go_enter Tryz.func174,Tryz.ntmps174
 go_wp2_with fail
 refine (H.out _).mono ?_
 rintro e w' ⟨rfl,rfl⟩
 go_wp2
 go_ret
 exact ⟨rfl,rfl⟩
theorem i64_odd {x:Nat} (hx:x < 4294967296):bits .and .i64 (x:Int) 1=((x % 2:Nat):Int):=by
 show IntKind.i64.wrap ((BitVec.ofInt 64 (x:Int) &&& BitVec.ofInt 64 ((1:Nat):Int)).toNat:Int)=_
 rw [BitVec.toNat_and,ofInt_u64 x (by omega),ofInt_u64 1 (by decide),Nat.and_one_is_mod]
 exact IntWalk.i64_in _ (by omega)
theorem product_d {w:World} {u v:Value} {m n:Nat} (h:Rd w u m) (k:Rd w v n):Calls Tryz.prog 71 #[u,v] w (RetDg (m * n) w):=by
 obtain ⟨L,h1,rfl,h2⟩:=h
 obtain ⟨K,k1,rfl,k2⟩:=k
 exact product_any h1 k1 (by omega) (by omega)
theorem pow_bl (n k:Nat):bl (n^k)≤k * bl n+1:=by
 induction k with
 | zero=>simp; decide
 | succ k ih=>rw [Nat.pow_succ,Nat.succ_mul]; have:=bl_mul (n^k) n; omega
theorem Pow_n {w:World} {v:Value} {n k:Nat} (h:Rd w v n) (hk:k * bl n≤60000) (hk2:k≤60000) (hn:n < 18446744073709551616):Calls Tryz.prog 137 #[v,.int .i64 (k:Int)] w (RetDgE (n^k) 0 w):=by
 have bn:=bl64 hn
 have H:=h_ h
 have CA:=h_ (fun w v (h:Rd w v n)=>bare_r h)
 have CB:=h_ (fun w v (h:Dg w v n)=>small_r (h.rd (by omega)))
 rw [decide_eq_true hn,if_pos hn] at CB
 have CL:=h_ (fun w v (h:Dg w v n)=>bits_r (h.rd (by omega)))
 have C1:=h_ (fun w (t:Tab w)=>of_any (n:=1) (by decide) t)
 have CN:=h_ (fun w=>Len_r k (by omega) w)
 have F0:=h_ (Fz.nil w)
 have z0:decide ((k:Int) < 0)=false:=decide_eq_false (by omega)
 have z0':decide (k < 0)=false:=decide_eq_false (by omega)
 have HS:=h_ (And.intro hk hk2)
 have HN:=h_ hn
 clear h
 go_enter Tryz.func137,Tryz.ntmps137
 go_wp2_with fail
 refine (CA.out _ _ H.out).mono ?_
 rintro q w1 ⟨a,rfl,hu,hb⟩
 have F1:=h_ (F0.out.call hb)
 clear F0
 have A1:=h_ (hu)
 clear hb
 go_wp2_with fail
 refine (CB.out _ _ A1.out).mono ?_
 rintro q w2 ⟨rfl,hb⟩
 have F2:=h_ (F1.out.call hb)
 have A2:=h_ (A1.out.below hb)
 clear F1 A1
 clear hb
 by_cases h0:k=0
 ·subst h0
  rw [Nat.pow_zero]
  go_wp2_with fail
  refine (C1.out _ A2.out.tab).mono ?_
  rintro q w3 ⟨u,rfl,hu,hb⟩
  have F3:=h_ (F2.out.call hb)
  have A3:=h_ (A2.out.below hb)
  clear F2 A2
  have R3:=h_ (hu)
  clear hb
  go_wp2
  refine bodyPost_ret (v:=.tuple #[u,.int .i64 0]) (by simp [results,Tryz.results137,go_sem]) rfl ?_
  exact ⟨_,rfl,R3.out,F3.out.b⟩
 have z1:((k:Int) == 0)=false:=by rw [beq_eq_false_iff_ne]; omega
 have z1':¬ (k:Int)=0:=by omega
 by_cases h1:n < 2
 ·have hp:n^k=n:=by
   rcases (by omega:n=0 ∨ n=1) with rfl | rfl
   ·exact Nat.zero_pow (by omega)
   ·exact Nat.one_pow _
  have s2:decide ((n:Int) < 2)=true:=decide_eq_true (by omega)
  have s3:decide (n < 2)=true:=decide_eq_true h1
  go_wp2
  refine bodyPost_ret (v:=.tuple #[a,.int .i64 0]) (by simp [results,Tryz.results137,go_sem]) rfl ?_
  exact ⟨_,rfl,by rw [hp]; exact A2.out,F2.out.b⟩
 have s2:decide ((n:Int) < 2)=false:=decide_eq_false (by omega)
 have s3:decide (n < 2)=false:=decide_eq_false h1
 go_wp2_with fail
 refine (CL.out _ _ A2.out).mono ?_
 rintro q w3 ⟨rfl,hb⟩
 have F3:=h_ (F2.out.call hb)
 have A3:=h_ (A2.out.below hb)
 clear F2 A2
 clear hb
 have b2:2≤bl n:=by
  apply Nat.not_lt.1
  intro hc
  have:=lt_bl n
  have:2^bl n≤2^1:=Nat.pow_le_pow_right (by decide) (by omega)
  omega
 obtain ⟨d,hd⟩:∃ d:Nat,bl n=d+1:=⟨bl n - 1,by omega⟩
 have e1:((bl n:Nat):Int) - 1=(d:Int):=by omega
 have e2:IntKind.i64.wrap (d:Int)=(d:Int):=IntWalk.i64_in _ (by omega)
 obtain ⟨q,hq⟩:∃ q:Nat,q=65535 / d:=⟨_,rfl⟩
 have hq2:q≤65535:=hq ▸ Nat.div_le_self _ _
 have e3:(65535:Int).tdiv (d:Int)=(q:Int):=by rw [hq]; rfl
 have e4:IntKind.i64.wrap (q:Int)=(q:Int):=IntWalk.i64_in _ (by omega)
 have e5:¬ (d:Int)=0:=by omega
 have e6:((d:Int) == 0)=false:=by rw [beq_eq_false_iff_ne]; exact e5
 have hkq:k≤q:=by
  rw [hq,Nat.le_div_iff_mul_le (by omega)]
  have:k * d≤k * bl n:=Nat.mul_le_mul_left _ (by omega)
  omega
 have z2:decide ((q:Int) < (k:Int))=false:=decide_eq_false (by omega)
 have z3:decide (q < k)=false:=decide_eq_false (by omega)
 clear hq hkq
 go_wp2_with fail
 refine (C1.out _ A3.out.tab).mono ?_
 rintro q w4 ⟨u,rfl,hu,hb⟩
 have F4:=h_ (F3.out.call hb)
 have A4:=h_ (A3.out.below hb)
 clear F3 A3
 have R4:=h_ (hu)
 clear hb
 go_wp2_with fail
 have q3:IntKind.u64.wrap (k:Int)=(k:Int):=by rw [IntKind.wrap_u64]; omega
 go_wp2_with fail
 refine (CN.out _).mono ?_
 rintro e w' ⟨rfl,rfl⟩
 have kb:k < 2^bl k:=lt_bl k
 have kl:bl k≤16:=bl_le (by omega)
 generalize hb:bl k=b at *
 have p1:IntKind.i64.wrap ((b:Int) - 1)=(b:Int) - 1:=IntWalk.i64_in _ (by omega)
 have HB:=h_ (And.intro kb kl)
 clear kb kl hb
 go_wp2
 go_loopw [8,9] (fun ta tb wr=>∃ (j p:Nat) (t:Int),tb=.int .i64 t∧Hid (t=(j:Int) - 1∧j≤b∧p=n^(k / 2^j))∧Hid (Dg wr ta p)∧Hid (Dg wr a n)∧Hid (Fz w wr [])) (fun _ tb _=>(intOf tb+1).toNat)
 case atStart=>exact ⟨b,1,_,rfl,⟨rfl,Nat.le_refl _,by rw [Nat.div_eq_of_lt HB.out.1,Nat.pow_zero]⟩,R4,A4,F4⟩
 case round =>
  clear F4 A4 R4
  obtain ⟨j,p,t,rfl,hI,hR,hA,hF⟩:=hrel
  by_cases hj:j=0
  ·have t1:decide (0≤t)=false:=decide_eq_false (by have:=hI.out.1; omega)
   have t2:¬ 0≤t:=by have:=hI.out.1; omega
   have hp:p=n^k:=by rw [hI.out.2.2,hj,Nat.pow_zero,Nat.div_one]
   subst hp
   clear hI hj
   go_wp2
   refine bodyPost_ret (v:=.tuple #[u8,.int .i64 0]) (by simp [results,Tryz.results137,go_sem]) rfl ?_
   exact ⟨_,rfl,hR.out,hF.out.b⟩
  ·obtain ⟨i,rfl⟩:∃ i,j=i+1:=⟨j - 1,by omega⟩
   obtain rfl:t=(i:Int):=by have:=hI.out.1; omega
   have hi:i < 16:=by have:=hI.out.2.1; have:=HB.out.2; omega
   have HP:=h_ hI.out.2.2
   have HJ:=h_ hI.out.2.1
   have t1:decide ((0:Int)≤(i:Int))=true:=decide_eq_true (by omega)
   have t2:(0:Int)≤(i:Int):=by omega
   have HPB:Hid (bl p≤6000000):=by
    have h1:=pow_bl n (k / 2^(i+1))
    have h2:k / 2^(i+1) * bl n≤k * bl n:=Nat.mul_le_mul_right _ (Nat.div_le_self _ _)
    have h3:=HS.out.1
    rw [hI.out.2.2]
    show bl _≤_
    omega
   clear hI hj
   have CM:=h_ (fun w u (h:Dg w u p)=>product_d (h.rd HPB.out) (h.rd HPB.out))
   go_wp2_with fail
   refine (CM.out _ _ hR.out).mono ?_
   rintro e w5 ⟨u5',rfl,h5,hb⟩
   have R5:=h_ h5
   have A5:=h_ (hA.out.below hb)
   have F5:=h_ (hF.out.call hb)
   clear h5 hb hR hA hF
   obtain ⟨r,hr⟩:∃ r,r=k / 2^i:=⟨_,rfl⟩
   have hrr:r / 2=k / 2^(i+1):=by rw [hr,Nat.div_div_eq_div_mul,Nat.pow_succ]
   have hrk:r≤k:=hr ▸ Nat.div_le_self _ _
   have hb0:(k:Int) / 2^i=(r:Int):=by rw [hr]; simp
   have hb1:bits .and .i64 (r:Int) 1=((r % 2:Nat):Int):=i64_odd (by omega)
   have HR2:=h_ (And.intro hr (And.intro hrr hrk))
   by_cases ho:r % 2=1
   ·have hb2:(((r % 2:Nat):Int) == 1)=true:=by rw [ho]; rfl
    have hpp:p * p * n=n^r:=by rw [HP.out,← hrr,← Nat.pow_add,← Nat.pow_succ]; congr 1; omega
    have HPP:Hid (bl (p * p)≤6000000):=by
     have h1:=pow_bl n (r / 2+r / 2)
     have h2:(r / 2+r / 2) * bl n≤k * bl n:=Nat.mul_le_mul_right _ (by omega)
     have h3:=HS.out.1
     rw [Nat.pow_add,hrr,← HP.out] at h1
     show bl _≤_
     rw [hrr] at h2
     omega
    have CM2:=h_ (fun w u v (h:Dg w u (p * p)) (k:Dg w v n)=>product_d (h.rd HPP.out) (k.rd (by omega)))
    rw [hpp] at CM2
    clear hpp hr hrr
    go_wp2_with fail
    refine (CM2.out _ _ _ R5.out A5.out).mono ?_
    rintro e w6 ⟨u6',rfl,h6,hb⟩
    have R6:=h_ h6
    have A6:=h_ (A5.out.below hb)
    have F6:=h_ (F5.out.call hb)
    clear h6 hb R5 A5 F5
    go_wp2_with fail
    have HL:Hid (bl (n^r)≤65536):=by
     have h1:=pow_bl n r
     have h2:r * bl n≤k * bl n:=Nat.mul_le_mul_right _ HR2.out.2.2
     have h3:=HS.out.1
     show bl _≤_
     omega
    have CLL:=h_ (fun w u (h:Dg w u (n^r))=>bits_r (h.rd (Nat.le_trans HL.out (by decide))))
    refine (CLL.out _ _ R6.out).mono ?_
    rintro e w7 ⟨rfl,hb⟩
    have R7:=h_ (R6.out.below hb)
    have A7:=h_ (A6.out.below hb)
    have F7:=h_ (F6.out.call hb)
    clear hb R6 A6 F6
    have hl:=HL.out
    generalize hbl:bl (n^r)=l at *
    have l1:decide ((65536:Int) < (l:Int))=false:=decide_eq_false (by omega)
    have l2:decide (65536 < l)=false:=decide_eq_false (by omega)
    have i1:IntKind.i64.wrap ((i:Int) - 1)=(i:Int) - 1:=IntWalk.i64_in _ (by omega)
    clear hl hbl
    go_wp2
    go_roundw
    case rel=>exact ⟨i,n^r,_,rfl,⟨rfl,by have:=HJ.out; omega,by rw [HR2.out.1]⟩,R7,A7,F7⟩
    case measure=>simp only [intOf]; omega
   ·have hb2:(((r % 2:Nat):Int) == 1)=false:=by rw [beq_eq_false_iff_ne]; omega
    have hpp:p * p=n^r:=by rw [HP.out,← hrr,← Nat.pow_add]; congr 1; omega
    rw [hpp] at R5
    clear hpp hr hrr
    go_wp2_with fail
    have HL:Hid (bl (n^r)≤65536):=by
     have h1:=pow_bl n r
     have h2:r * bl n≤k * bl n:=Nat.mul_le_mul_right _ HR2.out.2.2
     have h3:=HS.out.1
     show bl _≤_
     omega
    have CLL:=h_ (fun w u (h:Dg w u (n^r))=>bits_r (h.rd (Nat.le_trans HL.out (by decide))))
    refine (CLL.out _ _ R5.out).mono ?_
    rintro e w7 ⟨rfl,hb⟩
    have R7:=h_ (R5.out.below hb)
    have A7:=h_ (A5.out.below hb)
    have F7:=h_ (F5.out.call hb)
    clear hb R5 A5 F5
    have hl:=HL.out
    generalize hbl:bl (n^r)=l at *
    have l1:decide ((65536:Int) < (l:Int))=false:=decide_eq_false (by omega)
    have l2:decide (65536 < l)=false:=decide_eq_false (by omega)
    have i1:IntKind.i64.wrap ((i:Int) - 1)=(i:Int) - 1:=IntWalk.i64_in _ (by omega)
    clear hl hbl
    go_wp2
    go_roundw
    case rel=>exact ⟨i,n^r,_,rfl,⟨rfl,by have:=HJ.out; omega,by rw [HR2.out.1]⟩,R7,A7,F7⟩
    case measure=>simp only [intOf]; omega
end Go.Proofs.YtobpioceopfkpaaGreatDoor
