/-
  Lemmas for WholeTurned and WholeGrows and WholeRises, part 2 of 36: what the program's functions do, and plain facts; without conditions.
-/
import Derived.Test.YtobpioceopfkpaaGreatDoorM01
import Derived.Lib.SliceRun
import Derived.StillTailTactics
set_option maxRecDepth 100000
set_option maxHeartbeats 4000000
namespace Go.Proofs.YtobpioceopfkpaaGreatDoor
open Go.RowKit
theorem Tryz.info22:(Tryz.prog.info? 22).map (fun i=>(i.zero,i.size,i.bytes))=some (some (.int .u64 0),1,8):=by kernel_rfl
def Sm (n:Nat):Prop:=bl n≤1000000
theorem Sm.len {L:List Nat} {n:Nat} (h:Sm n) (hc:Can L n):L.length≤62501:=by
 by_cases hn:n=0
 ·subst hn; rw [hc.zero]; simp
 ·have:=(bl_digits hc hn).1
  unfold Sm at h
  omega
theorem Sm.mono {m n:Nat} (h:Sm n) (hm:m≤n):Sm m:=by
 unfold Sm at *
 have:=lt_bl n
 exact Nat.le_trans (bl_le (n:=m) (k:=bl n) (by omega)) h
theorem dvl_one (xs:List Nat):∀ u ∈ dvl xs,u.oneCell'=true:=by
 intro u hu
 obtain ⟨x,_,rfl⟩:=List.mem_map.1 hu
 rfl
theorem form_cells {w:World} {a:Option Addr} {xs:List Nat} (hc:0 < xs.length→∃ b off,a=some ⟨b,off,none⟩∧∀ (i x:Nat),xs[i]?=some x→w.cell? ⟨b,off+i,none⟩=some (.int .u64 (x:Int))) (k:Nat) (hk:k≤xs.length) {w':World} (hw:∀ p u,w.cell? p=some u→w'.cell? p=some u) :
  Hid (0 < k→∃ b off,a=some ⟨b,off,none⟩∧∀ j u,(dvl (xs.take k))[j]?=some u→w'.cell? ⟨b,off+j,none⟩=some u):=by
 intro h0
 obtain ⟨b,off,rfl,h⟩:=hc (by omega)
 refine ⟨b,off,rfl,fun j u hu=>?_⟩
 rw [dvl,List.getElem?_map] at hu
 obtain ⟨x,hx,rfl⟩:=Option.map_eq_some_iff.1 hu
 rw [List.getElem?_take] at hx
 split at hx
 ·exact hw _ _ (h j x hx)
 ·cases hx
theorem keep_alloc {w:World} (o:Obj):∀ p u,w.cell? p=some u→(w.alloc o).cell? p=some u:=fun p _ hp=>(World.cell?_alloc_lt w o p (cell_lt hp)).trans hp
def RetRaw (L:List Nat) (w:World) (e:Ending) (w':World):Prop:=∃ u,e=.returned u∧Raw w' u L∧Below w.heap.size w w'
def RetDg (n:Nat) (w:World) (e:Ending) (w':World):Prop:=∃ u,e=.returned u∧Dg w' u n∧Below w.heap.size w w'
theorem clone_any {L:List Nat} {v:Value} {w:World} (h:Raw w v L) (hlen:L.length≤1000000):Calls Tryz.prog 109 #[v] w (RetRaw L w):=by
 have q40:∀ (w:World) (a:Option Addr) (n c n' c':Nat),(binOp .eql 40 (.slice a n c) (.slice none n' c')).run Tryz.prog w=.ok (.bool a.isNone) w:=fun w a n c n' c'=>Lib.run_eql_slice_nil w _ _ a n c n' c' Tryz.underlying40
 obtain ⟨t,hL,hd,hcap⟩:=h
 obtain ⟨a,c,rfl,hcell⟩:=hL.form
 rcases a with _ | a
 ·have h0:L.length=0:=by
   rcases Nat.eq_zero_or_pos L.length with h | h
   ·exact h
   ·obtain ⟨b,off,h1,_⟩:=hcell h; cases h1
  obtain rfl:L=[]:=List.eq_nil_of_length_eq_zero h0
  have HT:=h_ t
  clear hcell hL hd hcap h0 t
  go_enter Tryz.func109,Tryz.ntmps109
  go_wp2
  go_ret
  exact ⟨_,rfl,Raw.nil HT.out,Below.refl _ _⟩
 ·have hc0:=form_cells hcell L.length (Nat.le_refl _) (w':=w.alloc (.cells #[] 22)) (keep_alloc _)
  have hb0:=(Below.refl w.heap.size w).alloc (Nat.le_refl _) (.cells #[] 22)
  have ho:=own_lit0 w 22
  have hlt:(dvl (L.take L.length)).length=L.length:=by rw [dvl_length,List.take_length]
  have HT:=h_ t
  have HD:=h_ hd
  clear hcell hL hd hcap t
  go_enter Tryz.func109,Tryz.ntmps109
  go_wp2_with (at_builtin; refine wpList_apps rfl (.tmp 5) (.tmp 6) 40 rfl w.heap.size 22 (.int .u64 0) 8 Tryz.underlying40 Tryz.info22 rfl (by decide) _ 0 [] rfl _ L.length _ (dvl (L.take L.length)) rfl hlt hc0 (dvl_one _) ho hb0 hb0.size (by omega) ?_)
  intro v1 w1 ho1 hb1 _
  have HG:Hid (Raw w1 v1 L):=by
   have h1:=ho1.out
   exact Raw.of_own (by simpa using h1) (HT.out.below hb1) HD.out
  clear ho1 ho
  go_wp2
  go_ret
  exact ⟨_,rfl,HG.out,hb1⟩
theorem bare_any {L:List Nat} {v:Value} {w:World} (h:Raw w v L) (hlen:L.length≤1000000):Calls Tryz.prog 70 #[v] w (RetDg (ofd L) w):=by
 have HR:=h_ h
 obtain ⟨t,hL,hd,hcap⟩:=h
 obtain ⟨a,c,rfl,hcell⟩:=hL.form
 have hcc:=hcap.le
 have HC:=h_ hcell
 have HD:=h_ hd
 clear hcell hL hd t hcap
 go_enter Tryz.func70,Tryz.ntmps70
 go_wp2
 go_loop [3] (fun i=>∃ (k:Nat),i=.int .i64 k∧k≤L.length∧Hid (ofd (L.drop k)=0)) (fun i=>(intOf i).toNat)
 case atStart=>exact ⟨L.length,rfl,Nat.le_refl _,drop_all (Nat.le_refl _)⟩
 case round =>
  obtain ⟨k,rfl,hk,hh⟩:=hrel
  have fin:∀ (k:Nat),k≤L.length→Hid (ofd (L.drop k)=0)→(k=0 ∨ 0 < dg L (k - 1))→Hid (Raw w (.slice a k c) (L.take k)∧Can (L.take k) (ofd L)):=by
   intro k hk hz ht
   refine ⟨⟨HR.out.tab,?_,HD.out.take k,⟨_,_,_,rfl,by omega⟩⟩,Can.norm HD.out hz.out ht hk⟩
   refine ⟨a,c,by rw [dvl_length,List.length_take,Nat.min_eq_left hk],fun h0=>?_⟩
   rw [dvl_length,List.length_take,Nat.min_eq_left hk] at h0
   have:=form_cells HC.out k hk (w':=w) (fun _ _ h=>h)
   exact this.out h0
  rcases k with _ | j
  ·have HF:=fin 0 hk hh (.inl rfl)
   clear fin
   go_wp2_with fail
   refine (clone_any HF.out.1 (by rw [List.length_take]; omega)).mono ?_
   rintro e w1 ⟨u,rfl,hu,hb⟩
   have HU:=h_ hu
   go_wp2
   go_ret
   exact ⟨_,rfl,⟨_,HU.out,HF.out.2⟩,hb⟩
  ·obtain ⟨b,off,rfl,hc2⟩:=HC.out (by omega)
   have hc3:=hc2 j _ (dg_get (by omega))
   clear hc2
   have hd2:=dg_lt HD.out j
   have e1:((↑(j+1):Int) - 1)=j:=by omega
   by_cases hz:dg L j=0
   ·have HH:Hid (ofd (L.drop j)=0):=by rw [Hid,drop_dg,hz,hh.out]
    rw [hz] at hc3
    have hc4:w.cell? ⟨b,off+j,none⟩=some (.int .u64 0):=hc3
    have hjl:j < L.length:=by omega
    clear fin hz hd2 hc3
    go_wp2_with fail
    go_round
    case rel=>exact ⟨j,rfl,by omega,HH⟩
    case measure=>simp [intOf]
   ·have HF:=fin (j+1) hk hh (.inr (by rw [Nat.add_sub_cancel]; omega))
    generalize dg L j=d at *
    have e2:((d:Int) == 0)=false:=by simp; omega
    have hjl:j < L.length:=by omega
    have hjc:(j:Int)+1≤c:=by omega
    have hj0:0≤(j:Int)+1:=by omega
    clear fin
    go_wp2_with fail
    refine (clone_any (L:=L.take (j+1)) HF.out.1 (by rw [List.length_take]; omega)).mono ?_
    rintro e w1 ⟨u,rfl,hu,hb⟩
    have HU:=h_ hu
    go_wp2
    go_ret
    exact ⟨_,rfl,⟨_,HU.out,HF.out.2⟩,hb⟩
theorem raw_one {w:World} (t:Tab w) {n:Nat} (hn:n < 18446744073709551616):Raw (w.alloc (.cells #[.int .u64 (n:Int)] 22)) (.slice (some ⟨w.heap.size,0,none⟩) 1 1) [n]:=by
 refine ⟨t.alloc _,⟨_,1,rfl,fun _=>⟨w.heap.size,0,rfl,fun i u hu=>?_⟩⟩,?_,⟨_,_,_,rfl,Nat.le_refl _⟩⟩
 ·have hi:i=0:=by
   have:=(List.getElem?_eq_some_iff.1 hu).1
   simp [dvl] at this; omega
  subst hi
  simp [dvl] at hu
  subst hu
  exact (cell_of_row _ _ _ _ _ _ (heap_alloc_new w _)).trans rfl
 ·intro d hd
  simp at hd; omega
theorem of_any {n:Nat} (hn:n < 18446744073709551616) {w:World} (t:Tab w):Calls Tryz.prog 124 #[.int .u64 (n:Int)] w (RetDg n w):=by
 have HR:=h_ (raw_one t hn)
 have hb:=h_ ((Below.refl w.heap.size w).alloc (Nat.le_refl _) (.cells #[.int .u64 (n:Int)] 22))
 clear t hn
 go_enter Tryz.func124,Tryz.ntmps124
 go_wp2_with fail
 refine (bare_any HR.out (by simp)).mono ?_
 rintro e w1 ⟨u,rfl,hu,hb1⟩
 have HU:Hid (Dg w1 u n):=by
  have:ofd [n]=n:=by simp [ofd]
  rw [this] at hu; exact hu
 have HB:=h_ (hb.out.trans (hb1.mono hb.out.size))
 clear hu hb hb1 HR
 go_wp2
 go_ret
 exact ⟨_,rfl,HU.out,HB.out⟩
def lim (L:List Nat) (i:Int):Nat:=if i < 0 then 0 else dg L i.toNat
theorem lim_lt {L:List Nat} (h:Digs L) (i:Int):lim L i < 18446744073709551616:=by
 unfold lim; split
 ·omega
 ·exact dg_lt h _
theorem lim_nat (L:List Nat) (i:Nat):lim L (i:Int)=dg L i:=by unfold lim; rw [if_neg (by omega),Int.toNat_natCast]
theorem limb_any {L:List Nat} {v:Value} {w:World} (h:Raw w v L) (i:Int):Calls Tryz.prog 108 #[v,.int .i64 i] w fun e w'=>e=.returned (.int .u64 (lim L i:Nat))∧w=w':=by
 obtain ⟨t,hL,hd,hcap⟩:=h
 obtain ⟨a,c,rfl,hcell⟩:=hL.form
 by_cases h1:i < 0
 ·have hz:lim L i=0:=by unfold lim; rw [if_pos h1]
  rw [hz]
  clear hcell hL hd hcap t hz
  go_enter Tryz.func108,Tryz.ntmps108
  go_wp2
  go_ret
  exact ⟨rfl,rfl⟩
 ·obtain ⟨k,rfl⟩:=Int.eq_ofNat_of_zero_le (Int.not_lt.1 h1)
  rw [lim_nat]
  by_cases h2:L.length≤k
  ·rw [dg_out h2]
   clear hcell hL hd hcap t
   go_enter Tryz.func108,Tryz.ntmps108
   go_wp2
   go_ret
   exact ⟨rfl,rfl⟩
  ·obtain ⟨b,off,rfl,hc2⟩:=hcell (by omega)
   have hc3:=hc2 k _ (dg_get (by omega))
   generalize dg L k=d at *
   clear hc2 hcell hL hd hcap t
   go_enter Tryz.func108,Tryz.ntmps108
   go_wp2
   go_ret
   exact ⟨rfl,rfl⟩
theorem Can.bits_len {L:List Nat} {n:Nat} (h:Can L n) (hn:n ≠ 0):bl n=64 * (L.length - 1)+bl (dg L (L.length - 1)):=(bl_digits h hn).1
theorem bits_any {L:List Nat} {v:Value} {w:World} (h:Raw w v L) (hlen:L.length≤1000000):Calls Tryz.prog 36 #[v] w fun e w'=>e=.returned (.int .i64 (bl (ofd L):Nat))∧Below w.heap.size w w':=by
 have HR:=h_ h
 have hlen':=hlen
 obtain ⟨n,hn⟩:∃ n,n=ofd L:=⟨_,rfl⟩
 have HBn:Hid (bl n≤64000000):=by
  have h1:=ofd_lt h.digs
  rw [← hn,pow64] at h1
  exact Nat.le_trans (bl_le h1) (by omega)
 have HB:Hid (∀ w,Raw w v L→Calls Tryz.prog 70 #[v] w (RetDg n w)):=fun w h=>hn ▸ bare_any h hlen'
 rw [← hn]
 clear h hn hlen hlen'
 go_enter Tryz.func36,Tryz.ntmps36
 go_wp2_with fail
 refine (HB.out _ HR.out).mono ?_
 rintro e w1 ⟨u,rfl,hu,hb1⟩
 obtain ⟨K,⟨t,hK,hd,hcap⟩,hc⟩:=hu
 obtain ⟨a,c,rfl,hcell⟩:=hK.form
 by_cases h0:n=0
 ·subst h0
  obtain rfl:=hc.zero
  clear hcell hK hd hcap t hc HB HR
  go_wp2
  go_ret
  exact ⟨rfl,hb1⟩
 ·have hp:=hc.pos h0
  have e0:((K.length:Int) == 0)=false:=by rw [beq_eq_false_iff_ne]; omega
  have hl:=hc.bits_len h0
  have hm:=HBn.out
  obtain ⟨b,off,rfl,hc2⟩:=hcell hp
  obtain ⟨j,hj⟩:∃ j,K.length=j+1:=⟨K.length - 1,by omega⟩
  have hc3:=hc2 j _ (dg_get (by omega))
  have hd3:=dg_lt hd j
  rw [hj,Nat.add_sub_cancel] at hl
  rw [hj] at e0
  have HL:=h_ (fun w=>len64 _ hd3 w)
  have hb64:=bl64 hd3
  generalize dg K j=d at *
  generalize bl d=bd at *
  have HBN:Hid (∃ bn,bl n=bn):=⟨_,rfl⟩
  obtain ⟨bn,hbn'⟩:=HBN.out
  have hbn:=hbn'
  rw [hbn] at hl hm
  have HBN:=h_ hbn
  have e1:((↑(j+1):Int) - 1)=j:=by omega
  have e2:IntKind.i64.wrap ((64 * (j:Int))+bd)=bn:=(IntWalk.i64_in _ (by omega)).trans (by omega)
  have e3:IntKind.i64.wrap (64 * (j:Int))=64 * j:=IntWalk.i64_in _ (by omega)
  have HBB:=h_ hb1
  have hjm:j≤1000000:=by omega
  rw [hj]
  clear hc2 hcell hK hd hcap t hc HB HR h0 hl hm hp hd3 hb1 hbn hbn' hj
  go_wp2_with fail
  refine (HL.out _).mono ?_
  rintro e w2 ⟨rfl,rfl⟩
  go_wp2
  go_ret
  exact ⟨ret_eq (congrArg (Value.int .i64) (congrArg Nat.cast HBN.out.symm)),HBB.out⟩
def lo (n:Nat):Nat:=if n=0 then 0 else Lib.ctzFrom n n
theorem lo_spec {n:Nat} (h:n ≠ 0):∃ m,n=2^lo n * (2 * m+1):=by
 unfold lo; rw [if_neg h]
 obtain ⟨m,h1,_⟩:=Lib.ctzFrom_spec n n (by omega) Nat.lt_two_pow_self
 exact ⟨m,h1⟩
theorem odd_unique:∀ {a b m k:Nat},2^a * (2 * m+1)=2^b * (2 * k+1)→a=b
 | 0,0,_,_,_=>rfl
 | 0,b+1,m,k,h=>by
  rw [Nat.pow_succ,Nat.mul_assoc,Nat.mul_left_comm] at h
  simp only [Nat.pow_zero,Nat.one_mul] at h
  omega
 | a+1,0,m,k,h=>by
  rw [Nat.pow_succ,Nat.mul_assoc,Nat.mul_left_comm] at h
  simp only [Nat.pow_zero,Nat.one_mul] at h
  omega
 | a+1,b+1,m,k,h=>by
  rw [Nat.pow_succ,Nat.mul_assoc,Nat.mul_left_comm,Nat.pow_succ,Nat.mul_assoc (2^b),Nat.mul_left_comm (2^b)] at h
  have:=odd_unique (Nat.eq_of_mul_eq_mul_left (by omega) h)
  omega
theorem lo_eq {n a m:Nat} (h:n=2^a * (2 * m+1)):lo n=a:=by
 have h0:n ≠ 0:=by
  have:=Nat.mul_pos (Nat.two_pow_pos a) (by omega:0 < 2 * m+1); omega
 obtain ⟨k,hk⟩:=lo_spec h0
 exact odd_unique (hk.symm.trans h)
theorem lo_zero:lo 0=0:=rfl
theorem lo_digits {L:List Nat} {i x:Nat} (hz:ofd (L.take i)=0) (hx:dg L i=x) (h0:x ≠ 0) (hl:x < 18446744073709551616):lo (ofd L)=64 * i+Lib.ctz 64 x∧Lib.ctz 64 x < 64:=by
 have e:Lib.ctz 64 x=Lib.ctzFrom 64 x:=by simp [Lib.ctz,h0]
 obtain ⟨m,h1,h2⟩:=Lib.ctzFrom_spec 64 x (by omega) hl
 rw [e]
 generalize Lib.ctzFrom 64 x=c at *
 refine ⟨?_,h2⟩
 have h3:=ofd_cut L i
 rw [hz,Nat.zero_add,drop_dg,hx,pow64] at h3
 generalize ofd (L.drop (i+1))=R at *
 have hp:(18446744073709551616:Nat)=2^c * (2 * 2^(63 - c)):=by
  rw [Nat.mul_left_comm,← Nat.pow_add,show c+(63 - c)=63 by omega]
 refine lo_eq (m:=m+2^(63 - c) * R) ?_
 rw [h3,Nat.pow_add,Nat.mul_assoc]
 congr 1
 have h4:18446744073709551616 * R=2^c * (2 * (2^(63 - c) * R)):=by
  rw [hp,Nat.mul_assoc,Nat.mul_assoc]
 rw [h4,h1,← Nat.mul_add]
 congr 1; omega
theorem low_any {L:List Nat} {v:Value} {w:World} (h:Raw w v L) (hlen:L.length≤1000000):Calls Tryz.prog 75 #[v] w fun e w'=>e=.returned (.int .i64 (lo (ofd L):Nat))∧w=w':=by
 have HT:=h_ h.tab
 have HD:=h_ h.digs
 obtain ⟨a,c,rfl,hcell⟩:=h.sl.form
 have HC:=h_ hcell
 clear h hcell
 go_enter Tryz.func75,Tryz.ntmps75
 go_wp2
 go_loop [7] (fun i=>∃ (k:Nat),i=.int .i64 k∧k≤L.length∧Hid (ofd (L.take k)=0)) (fun i=>L.length - (intOf i).toNat)
 case atStart=>exact ⟨0,rfl,Nat.zero_le _,by rw [Hid]; rfl⟩
 case round =>
  obtain ⟨k,rfl,hk,hh⟩:=hrel
  by_cases hlt:k < L.length
  ·obtain ⟨b,off,rfl,hc2⟩:=HC.out (by omega)
   have hc3:=hc2 k _ (dg_get hlt)
   have hd:=dg_lt HD.out k
   by_cases hz:dg L k=0
   ·rw [hz] at hc3
    have hc4:w.cell? ⟨b,off+k,none⟩=some (.int .u64 0):=hc3
    have HH:Hid (ofd (L.take (k+1))=0):=by rw [Hid,take_dg,hz,hh.out]; simp
    clear hc2 hc3 hz hd
    go_wp2
    go_round
    case rel=>exact ⟨k+1,by go_num,by omega,HH⟩
    case measure=>simp [intOf]; omega
   ·obtain ⟨e1,e2⟩:=lo_digits hh.out rfl hz hd
    have HL:=h_ (fun w (t:Tab w)=>tz64 _ hd hz w t)
    have hz':((dg L k:Nat):Int) ≠ 0:=by omega
    have e3:(((dg L k:Nat):Int) == 0)=false:=by rw [beq_eq_false_iff_ne]; exact hz'
    generalize Lib.ctz 64 (dg L k)=ct at *
    have E1:=h_ e1
    generalize dg L k=d at *
    have e4:IntKind.i64.wrap (64 * (k:Int))=64 * k:=IntWalk.i64_in _ (by omega)
    have e5:IntKind.i64.wrap (64 * (k:Int)+ct)=64 * k+ct:=IntWalk.i64_in _ (by omega)
    clear hc2 hz hd hz' e1 e2
    go_wp2_with fail
    refine (HL.out _ HT.out).mono ?_
    rintro e w1 ⟨rfl,rfl⟩
    go_wp2
    go_ret
    exact ⟨ret_eq (congrArg (Value.int .i64) (by have:=E1.out; omega)),rfl⟩
  ·have e1:Hid (ofd L=0):=by rw [Hid,← hh.out,take_all (by omega)]
   go_wp2
   go_ret
   exact ⟨ret_eq (congrArg (Value.int .i64) (by rw [e1.out,lo_zero]; rfl)),rfl⟩
theorem odd_any {L:List Nat} {v:Value} {w:World} (h:Raw w v L):Calls Tryz.prog 68 #[v] w fun e w'=>e=.returned (.bool (ofd L % 2 == 1))∧w=w':=by
 have HL:=h_ (fun w (h:Raw w v L)=>limb_any h 0)
 have HR:=h_ h
 have e0:lim L 0=dg L 0:=lim_nat L 0
 have e1:ofd L % 2=dg L 0 % 2:=by have:=drop_dg L 0; rw [List.drop_zero] at this; omega
 have hd:=dg_lt h.digs 0
 rw [e0] at HL
 rw [e1]
 generalize dg L 0=d at *
 have e2:bits .and .u64 (d:Int) 1=((d % 2:Nat):Int):=by
  rw [u64_and _ _ (by omega) (by omega) (by omega) (by omega)]
  congr 1
  exact Nat.and_two_pow_sub_one_eq_mod _ 1
 clear h e0 e1
 rcases Nat.mod_two_eq_zero_or_one d with hm | hm
 all_goals
  rw [hm] at e2 ⊢
  go_enter Tryz.func68,Tryz.ntmps68
  go_wp2_with fail
  refine (HL.out _ HR.out).mono ?_
  rintro e w1 ⟨rfl,rfl⟩
  go_wp2
  go_ret
  exact ⟨rfl,rfl⟩
theorem ofd_set (xs:List Nat) (k y:Nat) (hk:k < xs.length):ofd (xs.set k y)+18446744073709551616^k * dg xs k=ofd xs+18446744073709551616^k * y:=by
 induction xs generalizing k with
 | nil=>simp at hk
 | cons x xs ih =>
  rcases k with _ | k
  ·simp [ofd,dg]; omega
  ·have h:=ih k (by simpa using hk)
   rw [List.set_cons_succ,ofd,ofd,Nat.pow_succ]
   have e:dg (x :: xs) (k+1)=dg xs k:=by simp [dg]
   rw [e,Nat.mul_comm (18446744073709551616^k) 18446744073709551616,Nat.mul_assoc,Nat.mul_assoc]
   omega
theorem dvl_set (xs:List Nat) (k y:Nat):(dvl xs).set k (.int .u64 (y:Int))=dvl (xs.set k y):=by
 unfold dvl; rw [List.map_set]
theorem dg_set (xs:List Nat) (k y j:Nat) (hj:j ≠ k):dg (xs.set k y) j=dg xs j:=by
 unfold dg; rw [List.getD_eq_getElem?_getD,List.getD_eq_getElem?_getD,List.getElem?_set_ne (Ne.symm hj)]
theorem Digs.set {xs:List Nat} (h:Digs xs) {k y:Nat} (hy:y < 18446744073709551616):Digs (xs.set k y):=by
 intro d hd
 rcases List.mem_or_eq_of_mem_set hd with hd | hd
 ·exact h d hd
 ·omega
theorem ownsRow_len {w:World} {B:Nat} {e:TypeId} {v:Value} {n:Nat} {xs:List Value} (h:w.ownsRow B e 1 v n xs):xs.length=n:=by have:=h.1; omega
theorem own_len {w:World} {B:Nat} {e:TypeId} {v:Value} {n:Nat} {xs:List Nat} (h:w.ownsRow B e 1 v n (dvl xs)):xs.length=n:=by
 have:=ownsRow_len h; rwa [dvl_length] at this
theorem dvl_zeros (n:Nat):List.replicate n (Value.int .u64 0)=dvl (List.replicate n 0):=by simp [dvl]
theorem digs_zeros (n:Nat):Digs (List.replicate n 0):=by
 intro d hd; obtain ⟨_,rfl⟩:=List.mem_replicate.1 hd; decide
theorem dg_zeros (n j:Nat):dg (List.replicate n 0) j=0:=by
 unfold dg; rw [List.getD_eq_getElem?_getD,List.getElem?_replicate]; split <;> rfl
structure Fill (n:Nat) (w wr:World) (out:Value) (O:List Nat) (k:Nat):Prop where
 own:wr.ownsRow w.heap.size 22 1 out n (dvl O)
 digs:Digs O
 zero:∀ j,k≤j→dg O j=0
 b:Below w.heap.size w wr
theorem Fill.start {n:Nat} {w wr:World} {out:Value} (h:Hid (wr.ownsRow w.heap.size 22 1 out n (List.replicate n (.int .u64 0)))) (hb:Below w.heap.size w wr):Fill n w wr out (List.replicate n 0) 0 :=
 ⟨by have:=h.out; rwa [dvl_zeros] at this,digs_zeros n,fun j _=>dg_zeros n j,hb⟩
theorem Fill.len {n:Nat} {w wr:World} {out:Value} {O:List Nat} {k:Nat} (h:Fill n w wr out O k):O.length=n:=own_len h.own
theorem Fill.step {n:Nat} {w wr:World} {g cap:Nat} {O:List Nat} {k:Nat} (h:Fill n w wr (.slice (some ⟨g,0,none⟩) n cap) O k) (hg:w.heap.size≤g) (y:Nat) (u:Value) (hy:y < 18446744073709551616) (hu:u=.int .u64 (y:Int)) :
  Fill n w (wr.setCell ⟨g,k,none⟩ u) (.slice (some ⟨g,0,none⟩) n cap) (O.set k y) (k+1):=by
 subst hu
 refine ⟨?_,h.digs.set hy,fun j hj=>?_,h.b.setCell hg _⟩
 ·rw [← dvl_set]; exact (h.own.stored k _).1
 ·rw [dg_set _ _ _ _ (by omega)]; exact h.zero j (by omega)
theorem Fill.val {n:Nat} {w wr:World} {out:Value} {O:List Nat} {k:Nat} (h:Fill n w wr out O k) (hk:k < n) (y:Nat):ofd (O.set k y)=ofd O+18446744073709551616^k * y:=by
 have:=ofd_set O k y (by rw [h.len]; exact hk)
 rw [h.zero k (Nat.le_refl _),Nat.mul_zero] at this
 omega
theorem Fill.raw {n:Nat} {w wr:World} {out:Value} {O:List Nat} {k:Nat} (h:Fill n w wr out O k) (t:Tab w):Raw wr out O:=Raw.of_own h.own (t.below h.b) h.digs
theorem pow_mono {a b:Nat} (h:a≤b):18446744073709551616^a≤18446744073709551616^b:=Nat.pow_le_pow_right (Nat.zero_lt_succ _) h
theorem sum_end' {A B C Q R c:Nat} (hR:2≤R) (hB:B < Q) (hC:C < Q) (h:A+Q * R * c=B+C):A=B+C:=by
 rcases Nat.eq_zero_or_pos c with h0 | h0
 ·subst h0; simpa using h
 ·have h1:=Nat.mul_le_mul_left Q hR
  have h2:=Nat.le_mul_of_pos_right (Q * R) h0
  omega
theorem sum_end {A B C n c:Nat} (hB:B < 18446744073709551616^n) (hC:C < 18446744073709551616^n) (h:A+18446744073709551616^(n+1) * c=B+C):A=B+C:=by
 rw [Nat.pow_succ] at h
 exact sum_end' (by omega) hB hC h
theorem add_any {L K:List Nat} {u v:Value} {w:World} (h:Raw w u L) (k:Raw w v K) (hl:L.length≤100000) (kl:K.length≤100000) :
  Calls Tryz.prog 123 #[u,v] w (RetDg (ofd L+ofd K) w):=by
 have HL:=h_ h
 have HK:=h_ k
 obtain ⟨n,hn⟩:∃ n,n=max L.length K.length+1:=⟨_,rfl⟩
 have hn1:n≤100001:=by omega
 have HEND:Hid (∀ (O:List Nat) (c:Nat),ofd O+18446744073709551616^n * c=ofd (L.take n)+ofd (K.take n)→ofd O=ofd L+ofd K):=by
  intro O c hs
  rw [take_all (by omega),take_all (by omega),show n=n - 1+1 by omega] at hs
  exact sum_end (Nat.lt_of_lt_of_le (ofd_lt h.digs) (pow_mono (by omega))) (Nat.lt_of_lt_of_le (ofd_lt k.digs) (pow_mono (by omega))) hs
 obtain ⟨a,c,rfl,-⟩:=h.sl.form
 obtain ⟨a',c',rfl,-⟩:=k.sl.form
 have HN:=h_ hn
 clear h k hn
 go_enter Tryz.func123,Tryz.ntmps123
 go_wp2_with (refine wpList_mk (w0:=w) rfl (.tmp 13) 40 rfl w.heap.size 22 (.int .u64 0) 8 Tryz.underlying40 Tryz.info22 rfl (by decide) _ _ n rfl (by have:=HN.out; omega) (by omega) (Below.refl _ _) (Nat.le_refl _) ?_)
 intro w1 ho1 hb1 hB1
 have hS:Hid (Fill n w w1 _ (List.replicate n 0) 0∧ofd (List.replicate n 0)+18446744073709551616^0 * 0=ofd (L.take 0)+ofd (K.take 0)):=⟨Fill.start ho1 hb1,by rw [ofd_zeros]; rfl⟩
 clear ho1 hb1 hB1
 go_wp2
 go_loopw [6,17] (fun cc i wr=>∃ (k c:Nat) (O:List Nat),i=.int .i64 k∧cc=.int .u64 c∧k≤n∧c≤1∧Hid (Fill n w wr (.slice (some ⟨w.heap.size,0,none⟩) n n) O k∧ofd O+18446744073709551616^k * c=ofd (L.take k)+ofd (K.take k))) (fun _ i _=>n - (intOf i).toNat)
 case atStart=>exact ⟨0,0,_,rfl,rfl,by omega,by omega,hS⟩
 case round =>
  obtain ⟨k,cc,O,rfl,rfl,hk,hcc,hh⟩:=hrel
  by_cases hkl:k < n
  ·have hfz:=hh.out.1.own.frozenAt k
   have hx:wr.cell? ⟨w.heap.size,k,none⟩=some (.int .u64 (dg O k:Nat)):=by
    rw [hh.out.1.own.cellAt k (by omega)]
    exact dvl_get (dg_get (by rw [hh.out.1.len]; exact hkl))
   have C1:Hid (∀ w',wr=w'→Calls Tryz.prog 108 #[.slice a L.length c,.int .i64 (k:Int)] w' fun e w''=>e=.returned (.int .u64 (dg L k:Nat))∧w'=w''):=by
    rintro w' rfl
    have:=limb_any (HL.out.below hh.out.1.b) (k:Int)
    rwa [lim_nat] at this
   have C2:Hid (∀ w',wr=w'→Calls Tryz.prog 108 #[.slice a' K.length c',.int .i64 (k:Int)] w' fun e w''=>e=.returned (.int .u64 (dg K k:Nat))∧w'=w''):=by
    rintro w' rfl
    have:=limb_any (HK.out.below hh.out.1.b) (k:Int)
    rwa [lim_nat] at this
   have hA:=fun w=>add64 (dg L k) (dg K k) cc hcc w
   have d1:=dg_lt HL.out.digs k
   have d2:=dg_lt HK.out.digs k
   have HST:Hid (∀ u y b,y=(dg L k+dg K k+cc) % 18446744073709551616→b=(dg L k+dg K k+cc) / 18446744073709551616→u=.int .u64 (y:Int)→Fill n w (wr.setCell ⟨w.heap.size,k,none⟩ u) (.slice (some ⟨w.heap.size,0,none⟩) n n) (O.set k y) (k+1)∧ofd (O.set k y)+18446744073709551616^(k+1) * b=ofd (L.take (k+1))+ofd (K.take (k+1))):=by
    intro u y b hy hb hu
    refine ⟨hh.out.1.step (Nat.le_refl _) y u (by omega) hu,?_⟩
    rw [hh.out.1.val hkl,take_dg,take_dg,Nat.pow_succ]
    have:=col_add (s:=dg L k+dg K k+cc) (d:=dg L k+dg K k) hh.out.2 (by omega)
    rw [← hy,← hb,Nat.mul_add] at this
    omega
   generalize dg L k=x at *
   generalize dg K k=y at *
   obtain ⟨s,hs⟩:∃ s,s=(x+y+cc) % 18446744073709551616:=⟨_,rfl⟩
   obtain ⟨b,hb⟩:∃ b,b=(x+y+cc) / 18446744073709551616:=⟨_,rfl⟩
   rw [← hs,← hb] at hA
   have HH:=HST.out (.int .u64 (s:Int)) s b hs hb rfl
   have hb1:b≤1:=by omega
   have HH':=h_ HH
   clear HH HST hs hb d1 d2
   go_wp2_with fail
   refine (C1.out _ rfl).mono ?_
   rintro e w2 ⟨rfl,rfl⟩
   go_wp2_with fail
   refine (C2.out _ rfl).mono ?_
   rintro e w2 ⟨rfl,rfl⟩
   clear C1 C2
   go_wp2
   go_roundw
   case rel=>exact ⟨k+1,b,_,by go_num,rfl,by omega,by omega,HH'⟩
   case measure=>simp [intOf]; omega
  ·obtain rfl:k=n:=by omega
   have HF:=h_ (HEND.out O cc hh.out.2)
   go_wp2_with fail
   refine (bare_any (hh.out.1.raw HL.out.tab) (by rw [hh.out.1.len]; omega)).mono ?_
   rintro e w2 ⟨u,rfl,hd2,hb2⟩
   have HG:Hid (Dg w2 u (ofd L+ofd K)∧Below w.heap.size w w2):=⟨by rw [← HF.out]; exact hd2,hh.out.1.b.trans (hb2.mono hh.out.1.b.size)⟩
   clear hd2 hb2
   go_wp2
   go_ret
   exact ⟨_,rfl,HG.out.1,HG.out.2⟩
end Go.Proofs.YtobpioceopfkpaaGreatDoor
namespace Go.Proofs.YtobpioceopfkpaaGreatDoor
theorem drop_val {L:List Nat} (h:Digs L) (k:Nat):ofd L / 18446744073709551616^k=ofd (L.drop k):=by
 have h1:=ofd_cut L k
 have h2:=ofd_take_lt h k
 have hp:0 < 18446744073709551616^k:=Nat.pow_pos (Nat.zero_lt_succ _)
 generalize 18446744073709551616^k=Q at *
 rw [h1,Nat.add_mul_div_left _ _ hp,Nat.div_eq_of_lt h2,Nat.zero_add]
theorem col_shift {y x s R a b:Nat} (hR:R=a * b) (ha:a=2^s) (z:Nat) (hy:y < R):(y+R * (x+R * z)) / a % R=y / a+x * b % R:=by
 have hap:0 < a:=by rw [ha]; exact Nat.two_pow_pos s
 have e1:y+R * (x+R * z)=y+a * (b * (x+R * z)):=by rw [← Nat.mul_assoc,← hR]
 rw [e1,Nat.add_mul_div_left _ _ hap]
 have e2:b * (x+R * z)=x * b+R * (b * z):=by rw [Nat.mul_add,Nat.mul_comm b x,Nat.mul_left_comm]
 rw [e2,← Nat.add_assoc,Nat.add_mul_mod_self_left]
 have h1:y / a < b:=by rw [hR] at hy; exact Nat.div_lt_of_lt_mul hy
 have h2:x * b % R=x % a * b:=by rw [hR,Nat.mul_mod_mul_right]
 rw [Nat.add_mod,h2,Nat.mod_eq_of_lt (a:=y / a)]
 ·have h3:x % a < a:=Nat.mod_lt _ hap
  have h4:(x % a+1) * b≤a * b:=Nat.mul_le_mul_right _ h3
  rw [Nat.add_mul,Nat.one_mul,← hR] at h4
  exact Nat.mod_eq_of_lt (by omega)
 ·have:b≤R:=by rw [hR]; exact Nat.le_mul_of_pos_left _ hap
  omega
theorem shr_digit {L:List Nat} (h:Digs L) {p q i:Nat} (hp:p≤64):ofd L / 2^(64 * q+p) / 18446744073709551616^i % 18446744073709551616=dg L (q+i) / 2^p+dg L (q+i+1) * 2^(64 - p) % 18446744073709551616:=by
 have e1:ofd L / 2^(64 * q+p) / 18446744073709551616^i=ofd L / 18446744073709551616^(q+i) / 2^p:=by
  rw [pow64,pow64,Nat.div_div_eq_div_mul,Nat.div_div_eq_div_mul,← Nat.pow_add,← Nat.pow_add]
  congr 2; omega
 rw [e1,drop_val h,drop_dg,drop_dg]
 refine col_shift (s:=p) (a:=2^p) (b:=2^(64 - p)) ?_ rfl _ (dg_lt h _)
 rw [← Nat.pow_add,show p+(64 - p)=64 by omega]
theorem shl_digit {L:List Nat} (h:Digs L) {p q i:Nat} (hp:p≤64):ofd L * 2^(64 * q+p) / 18446744073709551616^i % 18446744073709551616=lim L ((i:Int) - q - 1) / 2^(64 - p)+lim L ((i:Int) - q) * 2^p % 18446744073709551616:=by
 have hRp:(18446744073709551616:Nat)=2^64:=by decide
 rcases Nat.lt_trichotomy i q with hi | hi | hi
 ·have z1:lim L ((i:Int) - q - 1)=0:=by unfold lim; rw [if_pos (by omega)]
  have z2:lim L ((i:Int) - q)=0:=by unfold lim; rw [if_pos (by omega)]
  rw [z1,z2,Nat.zero_div,Nat.zero_mul,Nat.zero_mod]
  obtain ⟨d,rfl⟩:∃ d,q=i+(d+1):=⟨q - i - 1,by omega⟩
  rw [show 64 * (i+(d+1))+p=64 * i+(64+(64 * d+p)) by omega,Nat.pow_add,Nat.pow_add,pow64,Nat.mul_left_comm,Nat.mul_div_cancel_left _ (Nat.two_pow_pos _),← Nat.mul_assoc,Nat.mul_comm (ofd L),Nat.mul_assoc,← hRp]
  exact Nat.mul_mod_right _ _
 ·subst hi
  have z1:lim L ((i:Int) - i - 1)=0:=by unfold lim; rw [if_pos (by omega)]
  have z2:lim L ((i:Int) - i)=dg L 0:=by rw [Int.sub_self]; exact lim_nat L 0
  rw [z1,z2,Nat.zero_div,Nat.zero_add,Nat.pow_add,pow64,Nat.mul_left_comm,Nat.mul_div_cancel_left _ (Nat.two_pow_pos _)]
  have:=drop_dg L 0
  rw [List.drop_zero] at this
  rw [this,Nat.add_mul,Nat.mul_assoc,Nat.add_mul_mod_self_left]
 ·obtain ⟨j,rfl⟩:∃ j,i=q+(j+1):=⟨i - q - 1,by omega⟩
  have z1:lim L (((q+(j+1):Nat):Int) - q - 1)=dg L j:=by rw [show ((q+(j+1):Nat):Int) - q - 1=(j:Int) by omega]; exact lim_nat L j
  have z2:lim L (((q+(j+1):Nat):Int) - q)=dg L (j+1):=by rw [show ((q+(j+1):Nat):Int) - q=((j+1:Nat):Int) by omega]; exact lim_nat L (j+1)
  rw [z1,z2]
  have e1:ofd L * 2^(64 * q+p) / 18446744073709551616^(q+(j+1))=ofd L / 18446744073709551616^j / 2^(64 - p):=by
   rw [pow64,pow64,Nat.div_div_eq_div_mul,← Nat.pow_add,show 64 * (q+(j+1))=64 * j+(64 - p)+(64 * q+p) by omega,Nat.pow_add 2 (64 * j+(64 - p))]
   exact Nat.mul_div_mul_right _ _ (Nat.two_pow_pos _)
  rw [e1,drop_val h,drop_dg,drop_dg]
  refine col_shift (s:=64 - p) (a:=2^(64 - p)) (b:=2^p) ?_ rfl _ (dg_lt h _)
  rw [← Nat.pow_add,show 64 - p+p=64 by omega]
theorem or_add {a b t:Nat} (ha:a < 2^t):2^t * b ||| a=2^t * b+a:=(Nat.two_pow_add_eq_or_of_lt ha b).symm
theorem Fill.mod {n:Nat} {w wr:World} {out:Value} {O:List Nat} {k M:Nat} (h:Fill n w wr out O k) (hk:k < n) (hs:ofd O=M % 18446744073709551616^k):ofd (O.set k (M / 18446744073709551616^k % 18446744073709551616))=M % 18446744073709551616^(k+1):=by
 rw [h.val hk,hs,Nat.mod_pow_succ]
end Go.Proofs.YtobpioceopfkpaaGreatDoor
namespace Go.Proofs.YtobpioceopfkpaaGreatDoor
open Go.RowKit
theorem still_of {P:Program} {f:FuncId} {args:Array Value} {w:World} {v:Value} (h:Calls P f args w fun e w'=>e=.returned v∧w=w'):Calls P f args w fun e w'=>e=.returned v∧w'=w :=
 h.mono fun _ _ ⟨h1,h2⟩=>⟨h1,h2.symm⟩
theorem wp_tail {P:Program} {id:Nat} {Q:Exit→Act→World→Prop} {a:Act} {w:World} {l:List Oper} (n:Nat) (hm:P.follows .mixedOrders=true) (hB:Region.lexTailB .any l.toArray n=true)
  (h:∀ w',Hid (w'=w.drew)→wpStill P l.toArray w' (fun a'=>wpList P l.toArray Q (l.drop n) a' w') (l.take n) a):(Code.region id l.toArray true).wp P Q a w :=
 wp_region_still_tail n hm hB (h _ rfl)
theorem wpStill_fin {P:Program} {ops:Array Oper} {w:World} {Q:Act→Prop} {a:Act} (h:Q a):wpStill P ops w Q [] a:=h
theorem lo_lt {m n:Nat} (h:m ≠ 0):lo m < n ↔ m % 2^n ≠ 0:=by
 obtain ⟨k,hk⟩:=lo_spec h
 constructor
 ·intro hl h0
  obtain ⟨c,hc⟩:=Nat.dvd_of_mod_eq_zero h0
  obtain ⟨d,rfl⟩:∃ d,n=lo m+(d+1):=⟨n - lo m - 1,by omega⟩
  rw [Nat.pow_add,Nat.mul_assoc] at hc
  have:=Nat.eq_of_mul_eq_mul_left (Nat.two_pow_pos (lo m)) (hk.symm.trans hc)
  rw [Nat.pow_succ,Nat.mul_comm (2^d) 2,Nat.mul_assoc] at this
  omega
 ·intro h0
  apply Nat.lt_of_not_le; intro hle
  apply h0
  obtain ⟨d,hd⟩:∃ d,lo m=n+d:=⟨lo m - n,by omega⟩
  rw [hk,hd,Nat.pow_add,Nat.mul_assoc]
  exact Nat.mul_mod_right _ _
theorem Fill.drew {n:Nat} {w wr:World} {out:Value} {O:List Nat} {k:Nat} (h:Fill n w wr out O k):Fill n w wr.drew out O k:=⟨h.own,h.digs,h.zero,below_drewN' h.b 1⟩
theorem or_val {x y p r:Nat} (hx:x < 18446744073709551616) (hpr:r+p=64):bits .or .u64 ((x:Int) / 2^p) (IntKind.u64.wrap ((y:Int) * 2^r))=((x / 2^p+y * 2^r % 18446744073709551616:Nat):Int):=by
 have hR:(18446744073709551616:Nat)=2^r * 2^p:=by rw [← Nat.pow_add,hpr]
 have h1:x / 2^p < 2^r:=Nat.div_lt_of_lt_mul (by rw [Nat.mul_comm,← hR]; exact hx)
 have h2:y * 2^r % 18446744073709551616=2^r * (y % 2^p):=by rw [hR,Nat.mul_comm y,Nat.mul_mod_mul_left]
 have h3:y * 2^r % 18446744073709551616 < 18446744073709551616:=Nat.mod_lt _ (Nat.zero_lt_succ _)
 have h4:x / 2^p≤x:=Nat.div_le_self _ _
 have e1:(x:Int) / 2^p=((x / 2^p:Nat):Int):=by rw [Int.natCast_ediv]; simp
 have e2:IntKind.u64.wrap ((y:Int) * 2^r)=((y * 2^r % 18446744073709551616:Nat):Int):=by
  rw [IntKind.wrap_u64,Int.natCast_emod,Int.natCast_mul]; simp
 rw [e1,e2]
 rw [u64_or _ _ (Int.natCast_nonneg _) (by omega) (Int.natCast_nonneg _) (by omega),Int.toNat_natCast,Int.toNat_natCast,h2,Nat.or_comm,or_add h1,Nat.add_comm]
def RetDgB (n:Nat) (b:Bool) (w:World) (e:Ending) (w':World):Prop:=∃ u,e=.returned (.tuple #[u,.bool b])∧Dg w' u n∧Below w.heap.size w w'
theorem shr_any {L:List Nat} {v:Value} {w:World} (h:Raw w v L) (hl:L.length≤100000) (n:Nat) (hn:n≤1000000000) :
  Calls Tryz.prog 76 #[v,.int .i64 (n:Int)] w (RetDgB (ofd L / 2^n) (decide (ofd L % 2^n ≠ 0)) w):=by
 have HB:=h_ (bare_any h (by omega))
 have LA:Hid (∀ A,Can A (ofd L)→A.length≤100000):=by
  intro A hA
  refine Nat.le_trans ?_ hl
  apply Nat.le_of_not_lt; intro hlt
  have h1:=hA.top (by intro he; subst he; simp at hlt)
  have h3:=pow_mono (show L.length≤A.length - 1 by omega)
  exact Nat.lt_irrefl _ (Nat.lt_of_lt_of_le (ofd_lt h.digs) (Nat.le_trans h3 h1))
 clear h
 generalize ofd L=m at *
 have hmx:max (n:Int) 0=n:=by omega
 go_enter Tryz.func76,Tryz.ntmps76
 go_wp2_with fail
 refine HB.out.mono ?_
 rintro e w1 ⟨u,rfl,hu,hb1⟩
 obtain ⟨A,hA,cA⟩:=hu
 have hAl:=LA.out A cA
 have HBits:=h_ (bits_any hA (by omega))
 rw [cA.val] at HBits
 obtain ⟨a,c,rfl,-⟩:=hA.sl.form
 have HA:=h_ hA
 have CA:=h_ cA
 have HB1:=h_ hb1
 clear hb1 hA HB LA
 go_wp2_with fail
 refine HBits.out.mono ?_
 rintro e w2 ⟨rfl,hb2⟩
 have HA2:=h_ (HA.out.below hb2)
 have HB2:=h_ (HB1.out.trans (hb2.mono HB1.out.size))
 clear hb2 HA HB1 HBits
 by_cases hnb:bl m≤n
 ·have h1:m < 2^n:=Nat.lt_of_lt_of_le (lt_bl m) (Nat.pow_le_pow_right (by omega) hnb)
  have hq:Hid (m / 2^n=0):=Nat.div_eq_of_lt h1
  have hr:Hid (decide (0 < A.length)=decide (m % 2^n ≠ 0)):=by
   rw [Hid,Nat.mod_eq_of_lt h1,Bool.eq_iff_iff,decide_eq_true_iff,decide_eq_true_iff]
   constructor
   ·intro hp h0; subst h0; rw [CA.out.zero] at hp; simp at hp
   ·exact CA.out.pos
  obtain ⟨rb,hrb⟩:∃ rb,rb=decide (0 < A.length):=⟨_,rfl⟩
  rw [← hrb] at hr
  have g1:decide ((0:Int) < (A.length:Int))=rb:=by rw [hrb,Bool.eq_iff_iff,decide_eq_true_iff,decide_eq_true_iff]; omega
  have g2:decide (0 < A.length)=rb:=hrb.symm
  clear h1 hrb
  generalize bl m=b at *
  go_wp2
  go_ret2
  refine ⟨.slice none 0 0,?_,?_,HB2.out⟩
  ·rw [← hr.out]; rfl
  ·rw [hq.out]; exact Dg.nil HA2.out.tab
 ·have hm0:m ≠ 0:=by rintro rfl; rw [bl_zero] at hnb; omega
  have hp:=CA.out.pos hm0
  have hbl:=CA.out.bits_len hm0
  have hd64:=bl64 (dg_lt CA.out.digs (A.length - 1))
  obtain ⟨q,hq⟩:∃ q,q=n / 64:=⟨_,rfl⟩
  obtain ⟨p,hpp⟩:∃ p,p=n % 64:=⟨_,rfl⟩
  have hn64:n=64 * q+p:=by omega
  have hp64:p < 64:=by omega
  have hqA:q < A.length:=by omega
  have e1:((n:Int) / 64)=q:=by omega
  have e2:((n:Int) % 64)=p:=by omega
  obtain ⟨len,hlen⟩:∃ len,len=A.length - q:=⟨_,rfl⟩
  have e3:(A.length:Int) - q=len:=by omega
  have hnb':n < bl m:=by omega
  have hll:len≤100000:=by omega
  have HLO:=h_ (lo_lt (n:=n) hm0)
  have HEND:Hid (∀ X,X=m / 2^n % 18446744073709551616^len→X=m / 2^n):=by
   intro X hX
   rw [hX]
   apply Nat.mod_eq_of_lt
   have h1:=CA.out.lt
   rw [show A.length=q+len by omega,Nat.pow_add] at h1
   refine Nat.lt_of_le_of_lt (Nat.div_le_div_left (c:=2^(64 * q)) (Nat.pow_le_pow_right (by omega) (by omega)) (Nat.two_pow_pos _)) ?_
   rw [← pow64]
   exact Nat.div_lt_of_lt_mul h1
  have HDIG:Hid (∀ i,m / 2^n / 18446744073709551616^i % 18446744073709551616=dg A (q+i) / 2^p+dg A (q+i+1) * 2^(64 - p) % 18446744073709551616):=by
   intro i
   rw [hn64,← CA.out.val]
   exact shr_digit CA.out.digs (by omega)
  have HLN:Hid (A.length=q+len):=by rw [Hid]; omega
  obtain ⟨r,hr⟩:∃ r,r=64 - p:=⟨_,rfl⟩
  rw [← hr] at HDIG
  have hr64:r≤64:=by omega
  have hwr:IntKind.i64.wrap (64 - (p:Int))=(r:Int):=(IntWalk.i64_in _ (by omega)).trans (by omega)
  have HPR:Hid (r+p=64):=by rw [Hid]; omega
  clear hr
  clear hq hpp hlen hbl hd64 hnb hm0 hn64
  generalize bl m=b at *
  have g0:(b:Int)≤n→False:=by omega
  have g1:decide ((b:Int)≤(n:Int))=false:=decide_eq_false (by omega)
  have g2:decide (b≤n)=false:=decide_eq_false (by omega)
  clear g0
  go_wp2_with (refine wpList_mk (w0:=w2) rfl (.tmp 29) 40 rfl w2.heap.size 22 (.int .u64 0) 8 Tryz.underlying40 Tryz.info22 rfl (by decide) _ _ len rfl (by have:=HLN.out; omega) (by omega) (Below.refl _ _) (Nat.le_refl _) ?_)
  intro w3 ho1 hb1 hB1
  have hS:Hid (Fill len w2 w3 _ (List.replicate len 0) 0∧ofd (List.replicate len 0)=m / 2^n % 18446744073709551616^0):=⟨Fill.start ho1 hb1,by rw [ofd_zeros,Nat.pow_zero,Nat.mod_one]⟩
  clear ho1 hb1 hB1
  go_wp2
  go_loopw [33] (fun i wr=>∃ (k:Nat) (O:List Nat),i=.int .i64 k∧k≤len∧Hid (Fill len w2 wr (.slice (some ⟨w2.heap.size,0,none⟩) len len) O k∧ofd O=m / 2^n % 18446744073709551616^k)) (fun i _=>len - (intOf i).toNat)
  case atStart=>exact ⟨0,_,rfl,by omega,hS⟩
  case round =>
   obtain ⟨k,O,rfl,hk,hh⟩:=hrel
   by_cases hkl:k < len
   ·have hfz:=hh.out.1.own.frozenAt k
    have hx:wr.cell? ⟨w2.heap.size,k,none⟩=some (.int .u64 (dg O k:Nat)):=by
     rw [hh.out.1.own.cellAt k (by omega)]
     exact dvl_get (dg_get (by rw [hh.out.1.len]; exact hkl))
    have HRa:=h_ (HA2.out.below hh.out.1.b)
    have x1:=dg_lt CA.out.digs (q+k)
    have x2:=dg_lt CA.out.digs (q+k+1)
    have C1:Hid (∀ w' z,z=((q+k:Nat):Int)→Raw w' (.slice a A.length c) A→Calls Tryz.prog 108 #[.slice a A.length c,.int .i64 z] w' fun e w''=>e=.returned (.int .u64 (dg A (q+k):Nat))∧w'=w''):=by
     rintro w' z rfl hw'
     have:=limb_any hw' ((q+k:Nat):Int)
     rwa [lim_nat] at this
    have C2:Hid (∀ w' z,z=((q+k+1:Nat):Int)→Raw w' (.slice a A.length c) A→Calls Tryz.prog 108 #[.slice a A.length c,.int .i64 z] w' fun e w''=>e=.returned (.int .u64 (dg A (q+k+1):Nat))∧w'=w''):=by
     rintro w' z rfl hw'
     have:=limb_any hw' ((q+k+1:Nat):Int)
     rwa [lim_nat] at this
    have HST:Hid (∀ u w',Hid (w'=wr.drew)→u=.int .u64 ((dg A (q+k) / 2^p+dg A (q+k+1) * 2^r % 18446744073709551616:Nat):Int)→∃ O',Hid (Fill len w2 (w'.setCell ⟨w2.heap.size,k,none⟩ u) (.slice (some ⟨w2.heap.size,0,none⟩) len len) O' (k+1)∧ofd O'=m / 2^n % 18446744073709551616^(k+1))):=by
     intro u w' hw' hu
     have hm:=hh.out.1.mod hkl hh.out.2
     have hlt:m / 2^n / 18446744073709551616^k % 18446744073709551616 < 18446744073709551616:=Nat.mod_lt _ (Nat.zero_lt_succ _)
     rw [← HDIG.out k] at hu
     rw [hw'.out]
     exact ⟨_,(Fill.drew hh.out.1).step (Nat.le_refl _) _ u hlt hu,hm⟩
    generalize dg A (q+k)=x at *
    generalize dg A (q+k+1)=y at *
    have hkq:(k:Int)+q≤200000:=by omega
    go_wp2_with fail
    refine wp_tail 16 (by kernel_rfl) (by kernel_rfl) ?_
    intro w4 h4
    have HR4:Hid (Raw w4 (.slice a A.length c) A):=by rw [h4.out]; exact ⟨HRa.out.tab,HRa.out.sl,HRa.out.digs,HRa.out.cap⟩
    have hx4:w4.cell? ⟨w2.heap.size,k,none⟩=some (.int .u64 (dg O k:Nat)):=by rw [h4.out]; exact hx
    have hf4:w4.frozen? ⟨w2.heap.size,k,none⟩=false:=by rw [h4.out]; exact hfz
    simp only [List.take_succ_cons,List.take_zero,List.drop_succ_cons,List.drop_zero]
    repeat still_step
    still_call (still_of (C1.out _ _ (by omega) HR4.out))
    repeat still_step
    still_call (still_of (C2.out _ _ (by first | omega | (rw [IntWalk.i64_in _ (by omega)]; omega)) HR4.out))
    repeat still_step
    have HV:=h_ (or_val (y:=y) x1 HPR.out)
    refine wpStill_fin ?_
    go_wp2
    obtain ⟨O',HO⟩:=HST.out _ w4 h4 (congrArg (Value.int .u64) HV.out)
    go_roundw
    case rel=>exact ⟨k+1,O',by go_num,by omega,HO⟩
    case measure=>simp [intOf]; omega
   ·obtain rfl:k=len:=by omega
    have HF:=h_ (HEND.out _ hh.out.2)
    have hlow:=h_ (fun w' (hw':Raw w' (.slice a A.length c) A)=>low_any hw' (by omega))
    rw [CA.out.val] at hlow
    have hrr:Hid (decide ((lo m:Int) < (n:Int))=decide (m % 2^n ≠ 0)):=by
     rw [Hid,Bool.eq_iff_iff,decide_eq_true_iff,decide_eq_true_iff,← HLO.out]; omega
    obtain ⟨rb,hrb⟩:∃ rb,rb=decide (m % 2^n ≠ 0):=⟨_,rfl⟩
    rw [← hrb] at hrr
    have g3:decide ((lo m:Int) < (n:Int))=rb:=hrr.out
    have g4:decide (lo m < n)=rb:=by rw [← g3,Bool.eq_iff_iff,decide_eq_true_iff,decide_eq_true_iff]; omega
    have HRB:=h_ hrb
    clear hrb hrr
    generalize lo m=lm at *
    go_wp2_with fail
    refine (bare_any (hh.out.1.raw HA2.out.tab) (by rw [hh.out.1.len]; omega)).mono ?_
    rintro e w4 ⟨u,rfl,hu,hb3⟩
    have HU:Hid (Dg w4 u (m / 2^n)):=by rw [← HF.out]; exact hu
    have HB4:=h_ (hh.out.1.b.trans (hb3.mono hh.out.1.b.size))
    have HA4:=h_ (HA2.out.below HB4.out)
    clear hu hb3
    go_wp2_with fail
    refine (hlow.out _ HA4.out).mono ?_
    rintro e w5 ⟨rfl,rfl⟩
    go_wp2
    go_ret2
    refine ⟨u,?_,HU.out,HB2.out.trans (HB4.out.mono HB2.out.size)⟩
    rw [← HRB.out]; rfl
end Go.Proofs.YtobpioceopfkpaaGreatDoor
