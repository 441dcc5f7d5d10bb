/-
  Lemmas for WholeTurned and WholeGrows and WholeRises, part 1 of 36: what the program's functions do, and plain facts; without conditions.
-/
import Derived.WalkKit
import Derived.ProofKit
import Derived.OpenShut
import Derived.LoopTactic
import Derived.Outline
import Derived.WalkSpells
import Derived.WalkLawsBesides
import Derived.WalkSmall
import Derived.Deep.QuietTactic
import Derived.BigQuiet
import Derived.Deep.DeepFit
import Derived.Deep.AppendLies
import Derived.Deep.Draws
import Derived.Lib.Hide
import Derived.Shelf.Spec.TrailingZeros
import Derived.Test.YtobpioceopfkpaaGreatDoorRows
import Derived.Shelf.Spec.BitsCarry
import Derived.Shelf.Bits.Mul64
import Derived.Lib.Strings
import Derived.Lib.Slices
import Derived.Lib.Small
import Derived.Lib.Walk
import Derived.Lib.BitFns
import Derived.Laws.OwnMore
set_option maxRecDepth 100000
set_option maxHeartbeats 4000000
namespace Go.Proofs.YtobpioceopfkpaaGreatDoor
open Go.RowKit
theorem h_ {p : Prop} (h : p) : RowKit.Hid p := Lib.hid h
def Sl (w:World) (v:Value) (xs:List Value):Prop :=
 ∃ a c,v=.slice a xs.length c∧(0 < xs.length→∃ b off,a=some ⟨b,off,none⟩∧∀ i u,xs[i]?=some u→w.cell? ⟨b,off+i,none⟩=some u)
theorem cell_lt {w:World} {a:Addr} {u:Value} (h:w.cell? a=some u):a.block < w.heap.size:=World.block_lt_of_cell? w a h
theorem Sl.nil (w:World):Sl w (.slice none 0 0) []:=⟨none,0,rfl,fun h=>absurd h (by simp)⟩
theorem Sl.zero (w:World) (a:Option Addr) (c:Nat):Sl w (.slice a 0 c) []:=⟨a,c,rfl,fun h=>absurd h (by simp)⟩
theorem Sl.keep {w w':World} {v:Value} {xs:List Value} (h:Sl w v xs) (hk:∀ p u,w.cell? p=some u→w'.cell? p=some u):Sl w' v xs:=by
 obtain ⟨a,c,rfl,h⟩:=h
 refine ⟨a,c,rfl,fun hl=>?_⟩
 obtain ⟨b,off,rfl,hc⟩:=h hl
 exact ⟨b,off,rfl,fun i u hu=>hk _ _ (hc i u hu)⟩
theorem cell_below {w w':World} {B:Nat} (hb:Below B w w') (hB:w.heap.size≤B) {p:Addr} {u:Value} (h:w.cell? p=some u):w'.cell? p=some u :=
 (hb.cell (Nat.lt_of_lt_of_le (cell_lt h) hB)).trans h
theorem Sl.below {w w':World} {v:Value} {xs:List Value} (h:Sl w v xs) (hb:Below w.heap.size w w'):Sl w' v xs:=h.keep fun _ _ hp=>cell_below hb (Nat.le_refl _) hp
theorem Sl.alloc {w:World} {v:Value} {xs:List Value} (h:Sl w v xs) (o:Obj):Sl (w.alloc o) v xs:=h.keep fun p _ hp=>(World.cell?_alloc_lt w o p (cell_lt hp)).trans hp
theorem Sl.drew {w:World} {v:Value} {xs:List Value} (h:Sl w v xs):Sl w.drew v xs:=h
theorem Sl.drewN {w:World} {v:Value} {xs:List Value} (h:Sl w v xs) (n:Nat):Sl (w.drewN n) v xs:=h
theorem Sl.of_own {w:World} {B:Nat} {e:TypeId} {v:Value} {n:Nat} {xs:List Value} (h:w.ownsRow B e 1 v n xs):Sl w v xs:=by
 have hl:xs.length=n:=by have:=h.1; omega
 rcases h.2 with ⟨rfl,rfl⟩ | ⟨g,cap,cur,rfl,_,hg,_,_,_,ht⟩
 ·exact ⟨none,0,by rw [hl],fun h0=>by omega⟩
 ·refine ⟨_,cap,by rw [hl],fun _=>⟨g,0,rfl,fun i u hu=>?_⟩⟩
  rw [Nat.zero_add,cell_of_row w g i cur e (0,0) hg]
  rw [← ht,List.getElem?_take] at hu
  split at hu
  ·simpa using hu
  ·cases hu
theorem grownBy_below {w w':World} (hb:Below w.heap.size w w') (row:Option Nat):w.grownBy w' row:=⟨hb.os,hb.tape,hb.output,hb.size,fun k hk _=>hb.block k hk⟩
theorem own_below {w w':World} {B:Nat} {e:TypeId} {size:Nat} {v:Value} {n:Nat} {xs:List Value} (h:w.ownsRow B e size v n xs) (hb:Below w.heap.size w w'):w'.ownsRow B e size v n xs :=
 h.kept (row:=none) (grownBy_below hb _) (by cases hv:v.ownBlock <;> simp)
theorem below_drewN' {B:Nat} {a w:World} (h:Below B a w) (n:Nat):Below B a (w.drewN n):=⟨h.os,h.tape,h.output,h.size,h.block⟩
theorem wpList_app {P:Program} {w w0:World} {ops:Array Oper} {rest:List Oper} {o:Oper} {a:Act} {Q:Exit→Act→World→Prop} (hgd:o.guard=none) (s x:Operand) (t:TypeId)
  (ho:o.op=.call { callee:=.builtin .append,args:=#[s,x],argTypes:=#[t,t] })
  (B:Nat) (e:TypeId) (z:Value) (size bytes:Nat) (ht:P.underlying t=some (.slice e))
  (hi:(P.info? e).map (fun i=>(i.zero,i.size,i.bytes))=some (some z,size,bytes)) (hzs:z.cells.size=size) (hsz:0 < size) (hbytes:bytes≤64)
  (v:Value) (n:Nat) (xs:List Value) (hs:a.eval s=v) (ad:Addr) (m c:Nat) (news:List Value) (hx:a.eval x=.slice (some ad) m c)
  (hl:news.length=m * size) (hnews:∀ j u,news[j]?=some u→w.cell? (ad.add j)=some u) (h1:∀ u ∈ news,u.oneCell'=true)
  (hown:w.ownsRow B e size v n xs) (hb:Below B w0 w) (hB:B≤w.heap.size)
  (hn:n+m≤1099511627776)
  (h:∀ v' w',Hid (w'.ownsRow B e size v' (n+m) (xs ++ news))→Below B w0 w'→B≤w'.heap.size→wpList P ops Q rest (a.put o.dst v') w') :
  wpList P ops Q (o :: rest) a w:=by
 obtain ⟨i0,hi,hz0,hz1,hz2⟩:=info_parts hi
 refine wpList_append_own _ hgd s x t ho B e i0 z size bytes ht hi hz0 hz1 hz2 hzs hsz v n xs hs hown ad m c news hx hl hnews h1 ?_ ?_ ?_ ?_
 ·simp only [maxLen]; omega
 ·have:=Nat.mul_le_mul hn hbytes; omega
 ·exact hB
 ·intro v' w' hown' hg _
  exact h v' w' hown' (hb.grown hg hB (fun j hj=>(hown.lt j hj).1)) (by have:=hg.size; omega)
theorem wpList_app1 {P:Program} {w w0:World} {ops:Array Oper} {rest:List Oper} {o:Oper} {a:Act} {Q:Exit→Act→World→Prop} (hgd:o.guard=none) (s x:Operand) (t:TypeId)
  (ho:o.op=.call { callee:=.builtin .append,args:=#[s,x],argTypes:=#[t,t] })
  (B:Nat) (e:TypeId) (z:Value) (bytes:Nat) (ht:P.underlying t=some (.slice e))
  (hi:(P.info? e).map (fun i=>(i.zero,i.size,i.bytes))=some (some z,1,bytes)) (hzs:z.cells.size=1) (hbytes:bytes≤64)
  (v:Value) (n:Nat) (xs:List Value) (hs:a.eval s=v) (u:Value) (c:Nat) (hx:a.eval x=.slice (some ⟨w.heap.size,0,none⟩) 1 c) (h1:u.oneCell'=true)
  (hown:w.ownsRow B e 1 v n xs) (hb:Below B w0 w) (hB:B≤w.heap.size)
  (hn:n < 1099511627776)
  (h:∀ v' w',Hid (w'.ownsRow B e 1 v' (n+1) (xs ++ [u]))→Below B w0 w'→B≤w'.heap.size→wpList P ops Q rest (a.put o.dst v') w') :
  wpList P ops Q (o :: rest) a (w.alloc (.cells #[u] e)):=by
 refine wpList_app hgd s x t ho B e z 1 bytes ht hi hzs (by decide) hbytes v n xs hs ⟨w.heap.size,0,none⟩ 1 c [u] hx rfl (cell_one_new _ _ _) ?_ (hown.alloc _) (hb.alloc hB _) (by simp; omega) (by omega) h
 intro u' hu'
 simp only [List.mem_cons,List.not_mem_nil,or_false] at hu'
 exact hu' ▸ h1
theorem ret_eq {a b:Value} (h:a=b):Ending.returned a=Ending.returned b:=by rw [h]
theorem heap_lt {w:World} {k:Nat} {o:Obj} (h:w.heap[k]?=some o):k < w.heap.size:=(Array.getElem?_eq_some_iff.1 h).1
def Blk (w:World) (g:Nat) (t:TypeId) (cs:Array Value):Prop:=w.heap[g]?=some (.cells cs t (0,0))
theorem Blk.cell {w:World} {g:Nat} {t:TypeId} {cs:Array Value} (h:Blk w g t cs) (i:Nat):w.cell? ⟨g,i,none⟩=cs[i]?:=cell_of_row w g i cs t (0,0) h
theorem Blk.at {w:World} {g:Nat} {t:TypeId} {cs:Array Value} (h:Blk w g t cs) (i:Nat) (u:Value) (hu:cs[i]?=some u):w.cell? ⟨g,i,none⟩=some u:=(h.cell i).trans hu
theorem Blk.frozen {w:World} {g:Nat} {t:TypeId} {cs:Array Value} (h:Blk w g t cs) (i:Nat):w.frozen? ⟨g,i,none⟩=false:=by
 simp only [Blk] at h; simp [World.frozen?,h]
theorem Blk.set {w:World} {g:Nat} {t:TypeId} {cs:Array Value} (h:Blk w g t cs) (i:Nat) (u:Value):Blk (w.setCell ⟨g,i,none⟩ u) g t (cs.setIfInBounds i u):=by
 simp only [Blk] at h ⊢; simp [World.setCell,Array.getElem?_modify,h]
theorem Blk.lt {w:World} {g:Nat} {t:TypeId} {cs:Array Value} (h:Blk w g t cs):g < w.heap.size:=heap_lt h
theorem Blk.new (w:World) (t:TypeId) (cs:Array Value):Blk (w.alloc (.cells cs t)) w.heap.size t cs:=heap_alloc_new w _
theorem Blk.alloc {w:World} {g:Nat} {t:TypeId} {cs:Array Value} (h:Blk w g t cs) (o:Obj):Blk (w.alloc o) g t cs:=(Below.heap_alloc w o g h.lt).trans h
theorem Blk.below {w w':World} {g:Nat} {t:TypeId} {cs:Array Value} (h:Blk w g t cs) (hb:Below w.heap.size w w'):Blk w' g t cs:=(hb.block g h.lt).trans h
theorem Blk.far {w:World} {g:Nat} {t:TypeId} {cs:Array Value} (h:Blk w g t cs) {p:Addr} (hp:g ≠ p.block) (u:Value):Blk (w.setCell p u) g t cs:=(Below.heap_setCell w p u g hp).trans h
def ofd:List Nat→Nat
 | []=>0
 | x :: xs=>x+18446744073709551616 * ofd xs
theorem ofd_app (xs ys:List Nat):ofd (xs ++ ys)=ofd xs+18446744073709551616^xs.length * ofd ys:=by
 induction xs with
 | nil=>simp [ofd]
 | cons x xs ih =>
  rw [List.cons_append,ofd,ih,ofd,List.length_cons,Nat.pow_succ,Nat.mul_add,Nat.add_assoc,Nat.mul_comm (18446744073709551616^xs.length) 18446744073709551616,Nat.mul_assoc]
theorem ofd_snoc (xs:List Nat) (d:Nat):ofd (xs ++ [d])=ofd xs+18446744073709551616^xs.length * d:=by
 rw [ofd_app]; simp [ofd]
def Digs (xs:List Nat):Prop:=∀ d ∈ xs,d < 18446744073709551616
theorem ofd_lt {xs:List Nat} (h:Digs xs):ofd xs < 18446744073709551616^xs.length:=by
 induction xs with
 | nil=>simp [ofd]
 | cons x xs ih =>
  have h1:x < 18446744073709551616:=h x (by simp)
  have h2:=ih (fun d hd=>h d (by simp [hd]))
  rw [ofd,List.length_cons,Nat.pow_succ]
  omega
theorem Digs.get {xs:List Nat} (h:Digs xs) {i x:Nat} (hx:xs[i]?=some x):x < 18446744073709551616:=h x (List.mem_of_getElem? hx)
theorem Digs.snoc {xs:List Nat} (h:Digs xs) {d:Nat} (hd:d < 18446744073709551616):Digs (xs ++ [d]):=by
 intro x hx
 rw [List.mem_append] at hx
 rcases hx with hx | hx
 ·exact h x hx
 ·simp at hx; omega
theorem Digs.take {xs:List Nat} (h:Digs xs) (i:Nat):Digs (xs.take i):=fun d hd=>h d (List.mem_of_mem_take hd)
theorem ofd_take {xs:List Nat} {i x:Nat} (h:xs[i]?=some x):ofd (xs.take (i+1))=ofd (xs.take i)+18446744073709551616^i * x:=by
 have hi:i < xs.length:=(List.getElem?_eq_some_iff.1 h).1
 have:xs.take (i+1)=xs.take i ++ [x]:=by
  rw [List.take_add_one,h]; rfl
 rw [this,ofd_snoc,List.length_take,Nat.min_eq_left (by omega)]
theorem ofd_zeros (k:Nat):ofd (List.replicate k 0)=0:=by
 induction k with
 | zero=>rfl
 | succ k ih=>rw [List.replicate_succ,ofd,ih]
structure Can (L:List Nat) (n:Nat):Prop where
 digs:Digs L
 val:ofd L=n
 top:L ≠ []→18446744073709551616^(L.length - 1)≤n
theorem Can.nil:Can [] 0:=⟨fun _ h=>by simp at h,rfl,fun h=>absurd rfl h⟩
theorem Can.zero {L:List Nat} (h:Can L 0):L=[]:=by
 by_cases hl:L=[]
 ·exact hl
 ·have:=h.top hl
  have:=Nat.two_pow_pos 0
  have:0 < 18446744073709551616^(L.length - 1):=Nat.pow_pos (by omega)
  omega
theorem Can.ne {L:List Nat} {n:Nat} (h:Can L n) (hn:n ≠ 0):L ≠ []:=by
 intro hl; subst hl; exact hn (by rw [← h.val]; rfl)
theorem Can.pos {L:List Nat} {n:Nat} (h:Can L n) (hn:n ≠ 0):0 < L.length:=List.length_pos_iff.2 (h.ne hn)
theorem Can.lt {L:List Nat} {n:Nat} (h:Can L n):n < 18446744073709551616^L.length:=h.val ▸ ofd_lt h.digs
theorem pow64 (k:Nat):18446744073709551616^k=2^(64 * k):=by rw [Nat.pow_mul]
theorem Can.len {L:List Nat} {n B:Nat} (h:Can L n) (hB:n.log2≤B):L.length≤B / 64+1:=by
 by_cases hl:L=[]
 ·subst hl; simp
 ·have ht:=h.top hl
  rw [pow64] at ht
  have h0:n ≠ 0:=by have:=Nat.two_pow_pos (64 * (L.length - 1)); omega
  have:=(Nat.le_log2 h0).2 ht
  omega
theorem Can.len_lt {L K:List Nat} {m n:Nat} (h:Can L m) (k:Can K n) (hl:L.length < K.length):m < n:=by
 have h1:=h.lt
 have h2:=k.top (by intro he; subst he; simp at hl)
 have h3:18446744073709551616^L.length≤18446744073709551616^(K.length - 1):=Nat.pow_le_pow_right (by omega) (by omega)
 omega
def dvl (xs:List Nat):List Value:=xs.map fun (d:Nat)=>Value.int .u64 (d:Int)
theorem dvl_length (xs:List Nat):(dvl xs).length=xs.length:=by simp [dvl]
theorem dvl_get {xs:List Nat} {i x:Nat} (h:xs[i]?=some x):(dvl xs)[i]?=some (.int .u64 (x:Int)):=by simp [dvl,h]
theorem dvl_app (xs ys:List Nat):dvl (xs ++ ys)=dvl xs ++ dvl ys:=by simp [dvl]
def Tab (w:World):Prop:=∀ j,j < 64→w.cell? ⟨0,j,none⟩=some (.int .u8 ((Lib.deBruijn64tab.getD j 0:Nat):Int))
theorem Tab.below {w w':World} (h:Tab w) (hb:Below w.heap.size w w'):Tab w':=fun j hj=>cell_below hb (Nat.le_refl _) (h j hj)
theorem Tab.alloc {w:World} (h:Tab w) (o:Obj):Tab (w.alloc o):=fun j hj=>(World.cell?_alloc_lt w o _ (cell_lt (h j hj))).trans (h j hj)
theorem Tab.drewN {w:World} (h:Tab w) (n:Nat):Tab (w.drewN n):=h
theorem Tab.drew {w:World} (h:Tab w):Tab w.drew:=h
def Capd (v:Value):Prop:=∃ a n c,v=.slice a n c∧n≤c
theorem Capd.of_own {w:World} {B:Nat} {e:TypeId} {v:Value} {n:Nat} {xs:List Value} (h:w.ownsRow B e 1 v n xs):Capd v:=by
 rcases h.2 with ⟨rfl,_⟩ | ⟨g,cap,cur,rfl,_,_,h,_⟩
 ·exact ⟨_,_,_,rfl,Nat.le_refl _⟩
 ·exact ⟨_,_,_,rfl,h⟩
theorem Capd.nil:Capd (.slice none 0 0):=⟨_,_,_,rfl,Nat.le_refl _⟩
theorem Capd.le {a:Option Addr} {n c:Nat} (h:Capd (.slice a n c)):n≤c:=by
 obtain ⟨_,_,_,h1,h2⟩:=h
 injection h1 with e0 e1 e2
 omega
structure Raw (w:World) (v:Value) (L:List Nat):Prop where
 tab:Tab w
 sl:Sl w v (dvl L)
 digs:Digs L
 cap:Capd v
theorem Raw.below {w w':World} {v:Value} {L:List Nat} (h:Raw w v L) (hb:Below w.heap.size w w'):Raw w' v L:=⟨h.tab.below hb,h.sl.below hb,h.digs,h.cap⟩
theorem Raw.alloc {w:World} {v:Value} {L:List Nat} (h:Raw w v L) (o:Obj):Raw (w.alloc o) v L:=⟨h.tab.alloc o,h.sl.alloc o,h.digs,h.cap⟩
theorem Raw.drewN {w:World} {v:Value} {L:List Nat} (h:Raw w v L) (n:Nat):Raw (w.drewN n) v L:=⟨h.tab,h.sl,h.digs,h.cap⟩
def Dg (w:World) (v:Value) (n:Nat):Prop:=∃ L,Raw w v L∧Can L n
theorem Dg.tab {w:World} {v:Value} {n:Nat} (h:Dg w v n):Tab w:=by obtain ⟨L,h,_⟩:=h; exact h.tab
theorem Dg.below {w w':World} {v:Value} {n:Nat} (h:Dg w v n) (hb:Below w.heap.size w w'):Dg w' v n:=by
 obtain ⟨L,h1,h2⟩:=h; exact ⟨L,h1.below hb,h2⟩
theorem Dg.alloc {w:World} {v:Value} {n:Nat} (h:Dg w v n) (o:Obj):Dg (w.alloc o) v n:=by
 obtain ⟨L,h1,h2⟩:=h; exact ⟨L,h1.alloc o,h2⟩
theorem Dg.drewN {w:World} {v:Value} {n:Nat} (h:Dg w v n) (k:Nat):Dg (w.drewN k) v n:=by
 obtain ⟨L,h1,h2⟩:=h; exact ⟨L,h1.drewN k,h2⟩
theorem Raw.nil {w:World} (t:Tab w):Raw w (.slice none 0 0) []:=⟨t,Sl.nil w,fun _ h=>by simp at h,Capd.nil⟩
theorem Dg.nil {w:World} (t:Tab w):Dg w (.slice none 0 0) 0:=⟨[],Raw.nil t,Can.nil⟩
theorem Raw.of_own {w:World} {B:Nat} {e:TypeId} {v:Value} {n:Nat} {L:List Nat} (h:w.ownsRow B e 1 v n (dvl L)) (t:Tab w) (d:Digs L):Raw w v L:=⟨t,Sl.of_own h,d,Capd.of_own h⟩
theorem Sl.form {w:World} {v:Value} {xs:List Nat} (h:Sl w v (dvl xs)) :
  ∃ a c,v=.slice a xs.length c∧(0 < xs.length→∃ b off,a=some ⟨b,off,none⟩∧∀ (i x:Nat),xs[i]?=some x→w.cell? ⟨b,off+i,none⟩=some (.int .u64 (x:Int))):=by
 obtain ⟨a,c,rfl,h⟩:=h
 rw [dvl_length] at h
 refine ⟨a,c,by rw [dvl_length],fun hl=>?_⟩
 obtain ⟨b,off,rfl,hc⟩:=h hl
 exact ⟨b,off,rfl,fun i x hx=>hc i _ (dvl_get hx)⟩
end Go.Proofs.YtobpioceopfkpaaGreatDoor
namespace Go.Proofs.YtobpioceopfkpaaGreatDoor
def dg (xs:List Nat) (i:Nat):Nat:=xs.getD i 0
theorem dg_get {xs:List Nat} {i:Nat} (h:i < xs.length):xs[i]?=some (dg xs i):=by
 unfold dg; rw [List.getD_eq_getElem?_getD,List.getElem?_eq_getElem h]; rfl
theorem dg_out {xs:List Nat} {i:Nat} (h:xs.length≤i):dg xs i=0:=by
 unfold dg; rw [List.getD_eq_getElem?_getD,List.getElem?_eq_none h]; rfl
theorem dg_lt {xs:List Nat} (h:Digs xs) (i:Nat):dg xs i < 18446744073709551616:=by
 by_cases hi:i < xs.length
 ·exact h.get (dg_get hi)
 ·rw [dg_out (by omega)]; omega
theorem take_dg (xs:List Nat) (i:Nat):ofd (xs.take (i+1))=ofd (xs.take i)+18446744073709551616^i * dg xs i:=by
 by_cases hi:i < xs.length
 ·exact ofd_take (dg_get hi)
 ·rw [dg_out (by omega),List.take_of_length_le (by omega),List.take_of_length_le (by omega)]; omega
theorem take_all {xs:List Nat} {i:Nat} (h:xs.length≤i):ofd (xs.take i)=ofd xs:=by rw [List.take_of_length_le h]
theorem ofd_cut (xs:List Nat) (i:Nat):ofd xs=ofd (xs.take i)+18446744073709551616^i * ofd (xs.drop i):=by
 by_cases hi:i≤xs.length
 ·conv=>lhs; rw [← List.take_append_drop i xs,ofd_app,List.length_take,Nat.min_eq_left hi]
 ·rw [List.take_of_length_le (by omega),List.drop_of_length_le (by omega)]; simp [ofd]
theorem ofd_take_lt {xs:List Nat} (h:Digs xs) (i:Nat):ofd (xs.take i) < 18446744073709551616^i:=by
 refine Nat.lt_of_lt_of_le (ofd_lt (h.take i)) (Nat.pow_le_pow_right (by omega) ?_)
 exact List.length_take_le _ _
theorem drop_dg (xs:List Nat) (i:Nat):ofd (xs.drop i)=dg xs i+18446744073709551616 * ofd (xs.drop (i+1)):=by
 by_cases hi:i < xs.length
 ·rw [List.drop_eq_getElem_cons hi,ofd]
  have:=dg_get hi
  rw [List.getElem?_eq_getElem hi] at this
  rw [Option.some.inj this]
 ·rw [dg_out (by omega),List.drop_of_length_le (by omega),List.drop_of_length_le (by omega)]; rfl
theorem drop_all {xs:List Nat} {i:Nat} (h:xs.length≤i):ofd (xs.drop i)=0:=by rw [List.drop_of_length_le h]; rfl
def bl (n:Nat):Nat:=if n=0 then 0 else n.log2+1
theorem bl_zero:bl 0=0:=rfl
theorem bl_pos {n:Nat} (h:n ≠ 0):bl n=n.log2+1:=by unfold bl; rw [if_neg h]
theorem bl_half {n:Nat} (h:0 < n):bl n=bl (n / 2)+1:=by
 rw [bl_pos (by omega)]
 by_cases h1:n / 2=0
 ·rw [h1,bl_zero]
  have:n=1:=by omega
  subst this; decide
 ·rw [bl_pos h1]
  rw [Nat.log2_def n,if_pos (by omega)]
theorem bl_le {n k:Nat} (h:n < 2^k):bl n≤k:=by
 unfold bl; split
 ·omega
 ·have:=(Nat.log2_lt (by assumption)).2 h; omega
theorem lt_bl (n:Nat):n < 2^bl n:=by
 unfold bl; split
 ·subst n; decide
 ·exact Nat.lt_log2_self
theorem bl_digits {xs:List Nat} {n:Nat} (h:Can xs n) (hn:n ≠ 0):bl n=64 * (xs.length - 1)+bl (dg xs (xs.length - 1))∧0 < dg xs (xs.length - 1):=by
 have hp:=h.pos hn
 have ht:=h.top (h.ne hn)
 have hv:=h.val
 have h1:=take_dg xs (xs.length - 1)
 rw [take_all (by omega),hv] at h1
 have h2:=ofd_take_lt h.digs (xs.length - 1)
 generalize ofd (xs.take (xs.length - 1))=A at *
 generalize dg xs (xs.length - 1)=d at *
 have hd:0 < d:=by
  apply Nat.pos_of_ne_zero; intro h0; subst h0; omega
 refine ⟨?_,hd⟩
 rw [bl_pos hn,bl_pos (by omega)]
 rw [pow64] at *
 generalize 64 * (xs.length - 1)=k at *
 have hd1:2^d.log2≤d:=Nat.log2_self_le (by omega)
 have hd2:d < 2^(d.log2+1):=Nat.lt_log2_self
 have:n.log2=k+d.log2:=by
  rw [Nat.log2_eq_iff hn]
  constructor
  ·rw [Nat.pow_add]
   have:=Nat.mul_le_mul_left (2^k) hd1
   omega
  ·rw [Nat.add_assoc,Nat.pow_add 2 k]
   have:=Nat.mul_le_mul_left (2^k) (Nat.succ_le_of_lt hd2)
   rw [Nat.mul_succ] at this
   omega
 omega
def cmpN (m n:Nat):Int:=if m < n then -1 else if n < m then 1 else 0
theorem cmp_step {xs ys:List Nat} (hx:Digs xs) {i:Nat} (he:ofd (xs.drop (i+1))=ofd (ys.drop (i+1))) (h:dg xs i < dg ys i):ofd xs < ofd ys:=by
 have h1:=ofd_cut xs i
 have h2:=ofd_cut ys i
 have h3:=ofd_take_lt hx i
 rw [drop_dg] at h1 h2
 rw [he] at h1
 generalize ofd (ys.drop (i+1))=R at *
 have h4:18446744073709551616^i * (dg xs i+18446744073709551616 * R+1)≤18446744073709551616^i * (dg ys i+18446744073709551616 * R):=Nat.mul_le_mul_left _ (by omega)
 rw [Nat.mul_add,Nat.mul_one] at h4
 omega
theorem cmpN_lt {m n:Nat} (h:m < n):cmpN m n=-1:=by unfold cmpN; rw [if_pos h]
theorem cmpN_gt {m n:Nat} (h:n < m):cmpN m n=1:=by unfold cmpN; rw [if_neg (by omega),if_pos h]
theorem cmpN_eq {m n:Nat} (h:m=n):cmpN m n=0:=by unfold cmpN; rw [if_neg (by omega),if_neg (by omega)]
theorem col_add {A B O s P c d:Nat} (h:O+P * c=A+B) (hs:s=c+d):O+P * (s % 18446744073709551616)+P * 18446744073709551616 * (s / 18446744073709551616)=A+B+P * d:=by
 have h1:P * (s % 18446744073709551616)+P * 18446744073709551616 * (s / 18446744073709551616)=P * s:=by
  rw [Nat.mul_assoc,← Nat.mul_add,Nat.add_comm,Nat.div_add_mod]
 have h2:P * s=P * c+P * d:=by rw [hs,Nat.mul_add]
 omega
theorem Can.mk_top {L:List Nat} {n:Nat} (hd:Digs L) (hv:ofd L=n) (ht:0 < L.length→18446744073709551616^(L.length - 1)≤n):Can L n :=
 ⟨hd,hv,fun h=>ht (List.length_pos_iff.2 h)⟩
theorem Can.norm {L:List Nat} (hd:Digs L) {k:Nat} (hz:ofd (L.drop k)=0) (ht:k=0 ∨ 0 < dg L (k - 1)) (hk:k≤L.length):Can (L.take k) (ofd L):=by
 have h1:=ofd_cut L k
 rw [hz,Nat.mul_zero] at h1
 refine Can.mk_top (hd.take k) (by omega) ?_
 rw [List.length_take,Nat.min_eq_left hk]
 intro h0
 have h2:=take_dg L (k - 1)
 rw [Nat.sub_add_cancel h0] at h2
 have h3:18446744073709551616^(k - 1) * 1≤18446744073709551616^(k - 1) * dg L (k - 1):=Nat.mul_le_mul_left _ (by omega)
 omega
end Go.Proofs.YtobpioceopfkpaaGreatDoor
namespace Go.Proofs.YtobpioceopfkpaaGreatDoor
open Go.RowKit
theorem add64 (x y c:Nat) (hc:c≤1) (w:World) :
  (callFunc 145 #[.int .u64 (x:Int),.int .u64 (y:Int),.int .u64 (c:Int)]).run Tryz.prog w =
   .ok (.value (.tuple #[.int .u64 (((x+y+c) % 18446744073709551616:Nat):Int),.int .u64 (((x+y+c) / 18446744073709551616:Nat):Int)])) w:=by
 rw [run_callFunc_extern Tryz.func145 (by kernel_rfl) (by kernel_rfl) (by kernel_rfl) (e:=add64Entry) (by kernel_rfl),run_add64 x y c (by omega) (by omega) (by omega) (by omega)]
 simp only [Result.andThen]
 congr 5 <;> omega
theorem sub64 (x y b:Nat) (hb:b≤1) (w:World) :
  (callFunc 186 #[.int .u64 (x:Int),.int .u64 (y:Int),.int .u64 (b:Int)]).run Tryz.prog w =
   .ok (.value (.tuple #[.int .u64 (((x+18446744073709551616 - y - b) % 18446744073709551616:Nat):Int),.int .u64 ((if x < y+b then 1 else 0:Nat):Int)])) w:=by
 rw [run_callFunc_extern Tryz.func186 (by kernel_rfl) (by kernel_rfl) (by kernel_rfl) (e:=sub64Entry) (by kernel_rfl),run_sub64 x y b hb]
 rfl
theorem bitLenAux_bl:∀ (f x:Nat),x < 2^f→Lib.bitLenAux f x=bl x
 | 0,x,h=>by
  obtain rfl:x=0:=by simp at h; omega
  rfl
 | f+1,x,h=>by
  unfold Lib.bitLenAux
  by_cases hx:x=0
  ·subst hx; rfl
  ·have h2:=h
   rw [Nat.pow_succ] at h2
   have hp:0 < x:=by omega
   rw [if_neg hx,bitLenAux_bl f (x / 2) (by omega),bl_half hp]; omega
theorem bitLen_bl (x:Nat) (h:x < 18446744073709551616):Lib.bitLen x=bl x:=bitLenAux_bl 64 x h
theorem bl_shift:∀ (k x:Nat),2^k≤x→bl x=k+bl (x / 2^k)
 | 0,x,_=>by simp
 | k+1,x,h=>by
  have h2:=h
  rw [Nat.pow_succ] at h2
  have hp:=Nat.two_pow_pos k
  rw [bl_half (by omega),bl_shift k (x / 2) (by omega),Nat.div_div_eq_div_mul,Nat.pow_succ,Nat.mul_comm 2]; omega
theorem tab_at (n:Nat) (h:n < Lib.len8tab.size):((Lib.len8tab[n]'h).toNat:Int)=(bl n:Int):=by
 have h2:=h
 rw [Lib.len8tab_size] at h2
 have h3:=Lib.len8_of (n:Int) (by omega) (by omega)
 unfold Lib.len8 at h3
 rw [Int.toNat_natCast,getElem?_pos Lib.len8tab n h,bitLen_bl n (by omega)] at h3
 exact h3
theorem len_fin {a:Int} {x k n:Nat} {h:a.toNat < Lib.len8tab.size} (ha:a=(n:Int)) (hn:n=x / 2^k) (hk:k=0 ∨ 2^k≤x) (hk2:k≤56):wrap64 ((k:Int)+wrap64 ((Lib.len8tab[a.toNat]'h).toNat:Int))=(bl x:Int)∧(k=0→wrap64 (wrap64 ((Lib.len8tab[a.toNat]'h).toNat:Int))=(bl x:Int)):=by
 have h1:=tab_at a.toNat h
 rw [Lib.len8tab_size] at h
 rw [h1]
 have e:a.toNat=x / 2^k:=by omega
 have hb:bl a.toNat≤8:=bl_le (k:=8) h
 have hs:bl x=k+bl a.toNat:=by
  rw [e]
  rcases hk with rfl | hk
  ·simp
  ·exact bl_shift k x hk
 generalize bl a.toNat=b at *
 rw [hs]
 refine ⟨?_,fun h0=>?_⟩
 ·have w1:wrap64 (b:Int)=b:=IntWalk.wrap64_in _ (by omega)
  rw [w1,IntWalk.wrap64_in _ (by omega)]; omega
 ·have w1:wrap64 (b:Int)=b:=IntWalk.wrap64_in _ (by omega)
  rw [w1,w1]; omega
theorem len64_int (x:Int) (w:World) (h0:0≤x) (h1:x≤18446744073709551615):Calls Tryz.prog 78 #[.int .u64 x] w fun e w'=>e=.returned (.int .i64 (bl x.toNat:Nat))∧w=w':=by
 go_enter Tryz.func78,Tryz.ntmps78
 go_wp2
 all_goals (first | (exfalso; rename_i hh; rw [Lib.len8tab_size] at hh; omega) | skip)
 all_goals go_ret
 all_goals refine ⟨ret_eq (congrArg (Value.int IntKind.i64) ?_),rfl⟩
 all_goals (first
  | exact (len_fin (k:=56) (n:=(x / 4294967296 / 65536 / 256).toNat) (by omega) (by omega) (.inr (by omega)) (by omega)).1
  | exact (len_fin (k:=48) (n:=(x / 4294967296 / 65536).toNat) (by omega) (by omega) (.inr (by omega)) (by omega)).1
  | exact (len_fin (k:=40) (n:=(x / 4294967296 / 256).toNat) (by omega) (by omega) (.inr (by omega)) (by omega)).1
  | exact (len_fin (k:=32) (n:=(x / 4294967296).toNat) (by omega) (by omega) (.inr (by omega)) (by omega)).1
  | exact (len_fin (k:=24) (n:=(x / 65536 / 256).toNat) (by omega) (by omega) (.inr (by omega)) (by omega)).1
  | exact (len_fin (k:=16) (n:=(x / 65536).toNat) (by omega) (by omega) (.inr (by omega)) (by omega)).1
  | exact (len_fin (k:=8) (n:=(x / 256).toNat) (by omega) (by omega) (.inr (by omega)) (by omega)).1
  | exact (len_fin (k:=0) (n:=x.toNat) (by omega) (by omega) (.inl rfl) (by omega)).2 rfl)
theorem len64 (x:Nat) (h:x < 18446744073709551616) (w:World):Calls Tryz.prog 78 #[.int .u64 (x:Int)] w fun e w'=>e=.returned (.int .i64 (bl x:Nat))∧w=w':=by
 have:=len64_int (x:Int) w (by omega) (by omega)
 rwa [Int.toNat_natCast] at this
theorem bl64 {x:Nat} (h:x < 18446744073709551616):bl x≤64:=bl_le (k:=64) h
theorem clz64 (x:Nat) (h:x < 18446744073709551616) (w:World):Calls Tryz.prog 175 #[.int .u64 (x:Int)] w fun e w'=>e=.returned (.int .i64 (64 - (bl x:Int)))∧w=w':=by
 have H:=h_ (fun w=>len64 x h w)
 have hb:=bl64 h
 generalize bl x=b at *
 have q:IntKind.i64.wrap (64 - (b:Int))=64 - (b:Int):=IntWalk.i64_in _ (by omega)
 clear h
 go_enter Tryz.func175,Tryz.ntmps175
 go_wp2_with fail
 refine (H.out _).mono ?_
 rintro e w1 ⟨rfl,rfl⟩
 go_wp2
 go_ret
 exact ⟨rfl,rfl⟩
def cmpI (x y:Int):Int:=if x < y then -1 else if y < x then 1 else 0
theorem cmpI_lt {x y:Int} (h:x < y):cmpI x y=-1:=by unfold cmpI; rw [if_pos h]
theorem cmpI_gt {x y:Int} (h:y < x):cmpI x y=1:=by unfold cmpI; rw [if_neg (by omega),if_pos h]
theorem cmpI_eq {x y:Int} (h:x=y):cmpI x y=0:=by unfold cmpI; rw [if_neg (by omega),if_neg (by omega)]
theorem cmp_int (x y:Int) (w:World):Calls Tryz.prog 33 #[.int .i64 x,.int .i64 y] w fun e w'=>e=.returned (.int .i64 (cmpI x y))∧w=w':=by
 rcases Int.lt_trichotomy x y with h | h | h
 ·rw [cmpI_lt h]
  go_enter Tryz.func33,Tryz.ntmps33
  go_wp2
  go_ret
  exact ⟨rfl,rfl⟩
 ·rw [cmpI_eq h]
  subst h
  go_enter Tryz.func33,Tryz.ntmps33
  go_wp2
  go_ret
  exact ⟨rfl,rfl⟩
 ·rw [cmpI_gt h]
  go_enter Tryz.func33,Tryz.ntmps33
  go_wp2
  go_ret
  exact ⟨rfl,rfl⟩
theorem cmp_u64 (x y:Int) (w:World):Calls Tryz.prog 112 #[.int .u64 x,.int .u64 y] w fun e w'=>e=.returned (.int .i64 (cmpI x y))∧w=w':=by
 rcases Int.lt_trichotomy x y with h | h | h
 ·rw [cmpI_lt h]
  go_enter Tryz.func112,Tryz.ntmps112
  go_wp2
  go_ret
  exact ⟨rfl,rfl⟩
 ·rw [cmpI_eq h]
  subst h
  go_enter Tryz.func112,Tryz.ntmps112
  go_wp2
  go_ret
  exact ⟨rfl,rfl⟩
 ·rw [cmpI_gt h]
  go_enter Tryz.func112,Tryz.ntmps112
  go_wp2
  go_ret
  exact ⟨rfl,rfl⟩
theorem mul64 (x y:Nat) (hx:x < 18446744073709551616) (hy:y < 18446744073709551616) (w:World) :
  Calls Tryz.prog 136 #[.int .u64 (x:Int),.int .u64 (y:Int)] w fun e w'=>e=.returned (.tuple #[.int .u64 ((x * y / 18446744073709551616:Nat):Int),.int .u64 ((x * y % 18446744073709551616:Nat):Int)])∧w=w':=by
 obtain ⟨bd,bt,bw,hhi⟩:=Lib.mul64_hi x y hx hy
 have ba:=Lib.half_mul_le (a:=x / 4294967296) (b:=y / 4294967296) (by omega) (by omega)
 have bb:=Lib.half_mul_le (a:=x / 4294967296) (b:=y % 4294967296) (by omega) (by omega)
 have bc:=Lib.half_mul_le (a:=x % 4294967296) (b:=y / 4294967296) (by omega) (by omega)
 have ba':x / 4294967296 * (y / 4294967296) < 18446744073709551616:=by omega
 have bb':x / 4294967296 * (y % 4294967296) < 18446744073709551616:=by omega
 have bc':x % 4294967296 * (y / 4294967296) < 18446744073709551616:=by omega
 have bh1:x / 4294967296 * (y / 4294967296)+(x / 4294967296 * (y % 4294967296)+x % 4294967296 * (y % 4294967296) / 4294967296) / 4294967296 < 18446744073709551616:=by omega
 have bh:x / 4294967296 * (y / 4294967296)+(x / 4294967296 * (y % 4294967296)+x % 4294967296 * (y % 4294967296) / 4294967296) / 4294967296+((x / 4294967296 * (y % 4294967296)+x % 4294967296 * (y % 4294967296) / 4294967296) % 4294967296+x % 4294967296 * (y / 4294967296)) / 4294967296 < 18446744073709551616:=by omega
 go_enter Tryz.func136,Tryz.ntmps136
 go_wp2
 simp only [Mul64.maskN x hx,Mul64.maskN y hy,Mul64.divN,Mul64.mulN,Mul64.addN,Mul64.wrapN _ bd,Mul64.wrapN _ bb',Mul64.wrapN _ bt,Mul64.maskN _ bt,Mul64.wrapN _ bc',Mul64.wrapN _ bw,Mul64.wrapN _ ba',Mul64.wrapN _ bh1,Mul64.wrapN _ bh,Mul64.wrapM (x * y)]
 rw [hhi]
 go_ret2
 exact ⟨rfl,rfl⟩
theorem tz64_core (x k idx:Nat) (w:World) (hx0:((x:Int) == 0)=false)
  (key:IntKind.u64.wrap (bits BinOp.and IntKind.u64 (x:Int) (IntKind.u64.wrap (-(x:Int))) * 285870213051353865) / 288230376151711744=(idx:Int))
  (hi:idx < 64) (hk:k < 64) (hcell:w.cell? ⟨0,idx,none⟩=some (.int .u8 k)) :
  Calls Tryz.prog 113 #[.int .u64 (x:Int)] w fun e w'=>e=.returned (.int .i64 k)∧w=w':=by
 go_enter Tryz.func113,Tryz.ntmps113
 go_wp2_with (simp only [key])
 go_ret
 exact ⟨rfl,rfl⟩
theorem tz64 (x:Nat) (hx:x < 18446744073709551616) (hx0:x ≠ 0) (w:World) (hT:Tab w) :
  Calls Tryz.prog 113 #[.int .u64 (x:Int)] w fun e w'=>e=.returned (.int .i64 (Lib.ctz 64 x:Nat))∧w=w':=by
 obtain ⟨hlow,hk⟩:=Lib.lowest_bit 64 x hx0 hx
 obtain ⟨hi,htab⟩:=Lib.deBruijn64_at _ hk
 have hcell:=hT _ hi
 rw [htab] at hcell
 exact tz64_core x _ _ w (by simp; omega) (tz64_key x _ hx hx0 hlow) hi hk hcell
theorem run_app_none {P:Program} {w:World} (base:Nat) (t ty e:TypeId) (i:TypeInfo) (size c:Nat) (ht:P.underlying t=some (.slice e)) (hi:P.info? e=some i)
  (v:Value) (n:Nat) (xs:List Value) (hown:w.ownsRow base e size v n xs) :
  (Builtin.append_ #[t,t] ty #[v,.slice none 0 c]).run P w=.ok v w:=by
 rcases hown.2 with ⟨rfl,rfl⟩ | ⟨g,cap,cur,rfl,_,_,hnc,_⟩
 ·simp [Builtin.append_,run_underlying ht,sizeOf,typeInfo,hi,Builtin.lenOf,Builtin.firstCells]
 ·simp [Builtin.append_,run_underlying ht,sizeOf,typeInfo,hi,Builtin.lenOf,Builtin.firstCells,hnc,storeCells]
theorem wpList_app0 {P:Program} {w:World} {ops:Array Oper} {rest:List Oper} {o:Oper} {a:Act} {Q:Exit→Act→World→Prop} (hgd:o.guard=none) (s x:Operand) (t:TypeId)
  (ho:o.op=.call { callee:=.builtin .append,args:=#[s,x],argTypes:=#[t,t] })
  (base:Nat) (e:TypeId) (i:TypeInfo) (size c:Nat) (ht:P.underlying t=some (.slice e)) (hi:P.info? e=some i)
  (v:Value) (n:Nat) (xs:List Value) (hs:a.eval s=v) (hown:w.ownsRow base e size v n xs) (hx:a.eval x=.slice none 0 c)
  (h:wpList P ops Q rest (a.put o.dst v) w):wpList P ops Q (o :: rest) a w:=by
 refine wpList_plain hgd fun K hK=>?_
 have hrun:=run_app_none (P:=P) (w:=w) base t o.type e i size c ht hi v n xs hown
 unfold Oper.wp
 simp [execOp,ho,resolve,invoke,builtin,hs,hx,hrun,Result.andThen]
 exact hK _ _ h
theorem wpList_apps {P:Program} {w w0:World} {ops:Array Oper} {rest:List Oper} {o:Oper} {a:Act} {Q:Exit→Act→World→Prop} (hgd:o.guard=none) (s x:Operand) (t:TypeId)
  (ho:o.op=.call { callee:=.builtin .append,args:=#[s,x],argTypes:=#[t,t] })
  (B:Nat) (e:TypeId) (z:Value) (bytes:Nat) (ht:P.underlying t=some (.slice e))
  (hi:(P.info? e).map (fun i=>(i.zero,i.size,i.bytes))=some (some z,1,bytes)) (hzs:z.cells.size=1) (hbytes:bytes≤64)
  (v:Value) (n:Nat) (xs:List Value) (hs:a.eval s=v) (ad:Option Addr) (m c:Nat) (news:List Value) (hx:a.eval x=.slice ad m c)
  (hl:news.length=m) (hnews:Hid (0 < m→∃ b off,ad=some ⟨b,off,none⟩∧∀ j u,news[j]?=some u→w.cell? ⟨b,off+j,none⟩=some u)) (h1:∀ u ∈ news,u.oneCell'=true)
  (hown:w.ownsRow B e 1 v n xs) (hb:Below B w0 w) (hB:B≤w.heap.size)
  (hn:n+m≤1099511627776)
  (h:∀ v' w',Hid (w'.ownsRow B e 1 v' (n+m) (xs ++ news))→Below B w0 w'→B≤w'.heap.size→wpList P ops Q rest (a.put o.dst v') w') :
  wpList P ops Q (o :: rest) a w:=by
 have HN:=hnews.out
 by_cases hm:0 < m
 ·obtain ⟨b,off,rfl,hc⟩:=HN hm
  refine wpList_app hgd s x t ho B e z 1 bytes ht hi hzs (by decide) hbytes v n xs hs ⟨b,off,none⟩ m c news hx (by omega) ?_ h1 hown hb hB hn h
  intro j u hj
  rw [Addr.add_lit]
  exact hc j u hj
 ·obtain rfl:m=0:=by omega
  have hnil:news=[]:=List.eq_nil_of_length_eq_zero hl
  subst hnil
  cases ad with
  | none =>
   obtain ⟨i,hi',_⟩:=Option.map_eq_some_iff.1 hi
   refine wpList_app0 hgd s x t ho B e i 1 c ht hi' v n xs hs hown hx (h v w ?_ hb hB)
   simpa [Hid] using hown
  | some p =>
   refine wpList_app hgd s x t ho B e z 1 bytes ht hi hzs (by decide) hbytes v n xs hs p 0 c [] hx rfl (by simp) (by simp) hown hb hB hn h
theorem wpList_mk {P:Program} {w w0:World} {ops:Array Oper} {rest:List Oper} {o:Oper} {a:Act} {Q:Exit→Act→World→Prop} (hgd:o.guard=none) (l:Operand) (t:TypeId)
  (ho:o.op=Op.makeSlice t l l)
  (B:Nat) (e:TypeId) (z:Value) (bytes:Nat) (ht:P.underlying t=some (.slice e))
  (hi:(P.info? e).map (fun i=>(i.zero,i.size,i.bytes))=some (some z,1,bytes)) (hzs:z.cells=#[z]) (hbytes:bytes≤64)
  (k:IntKind) (L:Int) (n:Nat) (hl:a.eval l=.int k L) (hL:L=(n:Int)) (hn:n≤1099511627776) (hb:Below B w0 w) (hB:B≤w.heap.size)
  (h:∀ w',Hid (w'.ownsRow B e 1 (.slice (some ⟨w.heap.size,0,none⟩) n n) n (List.replicate n z))→Below B w0 w'→B≤w'.heap.size→wpList P ops Q rest (a.put o.dst (.slice (some ⟨w.heap.size,0,none⟩) n n)) w') :
  wpList P ops Q (o :: rest) a w:=by
 obtain ⟨i0,hi,hz0,hz1,hz2⟩:=info_parts hi
 refine wpList_make_full w hgd l l t ho B e i0 z 1 ht hi hz0 hz1 k k L L n hl hl hL hL ?_ ?_ hB ?_
 ·rw [hz2]; have:=Nat.mul_le_mul hbytes hn; omega
 ·simp only [maxLen]; omega
 ·intro w' h1 hg
  rw [hzs,Nat.mul_one,toList_madeCells_one] at h1
  refine h w' h1 ?_ ?_
  ·exact hb.grown hg hB (fun j hj=>by simp at hj)
  ·have:=hg.size; omega
theorem own_lit0 (w:World) (e:TypeId):(w.alloc (.cells #[] e)).ownsRow w.heap.size e 1 (.slice (some ⟨w.heap.size,0,none⟩) 0 0) 0 [] :=
 World.ownsRow_lit w #[] 0 (Nat.le_refl _) (by decide) rfl
end Go.Proofs.YtobpioceopfkpaaGreatDoor
