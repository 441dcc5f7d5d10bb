/-
  Lemmas for WholeCompare (part 1); without conditions.
-/
import Derived.WalkKit
import Derived.ProofKit
import Derived.OpenShut
import Derived.LoopTactic
import Derived.Outline
import Derived.WalkSpells
import Derived.WalkLawsBesides
import Derived.WalkSmall
import Derived.Deep.QuietTactic
import Derived.BigQuiet
import Derived.Deep.DeepFit
import Derived.Deep.AppendLies
import Derived.Deep.Draws
import Derived.Lib.Hide
import Derived.Shelf.Spec.TrailingZeros
import Derived.Test.YtobpioceopfkpaaGreatDoorRows
import Derived.Shelf.Spec.BitsCarry
import Derived.Shelf.Bits.Mul64
import Derived.Lib.Strings
import Derived.Lib.Slices
import Derived.Lib.Small
import Derived.Lib.Walk
import Derived.Lib.BitFns
import Derived.Laws.OwnMore
import Derived.Lib.SliceRun
set_option maxRecDepth 100000
set_option maxHeartbeats 4000000
namespace Go.Proofs.YtobpioceopfkpaaGreatDoor
open Go.RowKit
open World (setCell alloc drew)
open List (set_cons_zero set_cons_succ setIfInBounds_toArray cons_append nil_append)
def Qb(p:Prop):Prop:=p
theorem Qb.o{p:Prop}(h:Qb p):p:=h
theorem h_{p:Prop}(h:p):Qb p:=h
def Sl(w:World)(v:Value)(xs:List Value):Prop :=
 ∃a c,v=.slice a xs.length c/\(0<xs.length->∃b off,a=some ⟨b,off,none⟩/\∀i u,xs[i]?=some u->w.cell? ⟨b,off+i,none⟩=some u)
theorem Wu{w:World}{a:Addr}{u:Value}(h:w.cell? a=some u):a.block<w.heap.size:=World.block_lt_of_cell? w a h
theorem Sl.nil(w:World):Sl w (.slice none 0 0) []:=⟨none,0,rfl,fun h=>absurd h (by simp)⟩
theorem Sl.keep{w w':World}{v:Value}{xs:List Value}(h:Sl w v xs)(hk:∀p u,w.cell? p=some u->w'.cell? p=some u):Sl w' v xs:=by obtain⟨a,c,rfl,h⟩:=h;refine⟨a,c,rfl,fun hl=>?_⟩;obtain⟨b,off,rfl,hc⟩:=h hl;exact⟨b,off,rfl,fun i u hu=>hk _ _ (hc i u hu)⟩
theorem Qj{w w':World}{B:Nat}(hb:Below B w w')(hB:w.heap.size<=B){p:Addr}{u:Value}(h:w.cell? p=some u):w'.cell? p=some u :=
 (hb.cell (Nat.lt_of_lt_of_le (Wu h) hB)).trans h
theorem Sl.below{w w':World}{v:Value}{xs:List Value}(h:Sl w v xs)(hb:Below w.heap.size w w'):Sl w' v xs:=h.keep fun _ _ hp=>Qj hb (Nat.le_refl _) hp
theorem Sl.alloc{w:World}{v:Value}{xs:List Value}(h:Sl w v xs)(o:Obj):Sl (w.alloc o) v xs:=h.keep fun p _ hp=>(World.cell?_alloc_lt w o p (Wu hp)).trans hp
theorem Sl.of_own{w:World}{B:Nat}{e:TypeId}{v:Value}{n:Nat}{xs:List Value}(h:w.ownsRow B e 1 v n xs):Sl w v xs:=by
 have hl:xs.length=n:=by have:=h.1;omega
 rcases h.2 with⟨rfl,rfl⟩|⟨g,cap,cur,rfl,_,hg,_,_,_,ht⟩
 .exact⟨none,0,by rw[hl],fun h0=>by omega⟩
 .refine⟨_,cap,by rw[hl],fun _=>⟨g,0,rfl,fun i u hu=>?_⟩⟩;rw[Nat.zero_add,cell_of_row w g i cur e (0,0) hg];rw[<-ht,List.getElem?_take]at hu;split at hu
  .simpa using hu
  .cases hu
theorem Fb{w w':World}(hb:Below w.heap.size w w')(row:Option Nat):w.grownBy w' row:=⟨hb.os,hb.tape,hb.output,hb.size,fun k hk _=>hb.block k hk⟩
theorem Up{w w':World}{B:Nat}{e:TypeId}{size:Nat}{v:Value}{n:Nat}{xs:List Value}(h:w.ownsRow B e size v n xs)(hb:Below w.heap.size w w'):w'.ownsRow B e size v n xs :=
 h.kept (row:=none) (Fb hb _) (by cases hv:v.ownBlock<;>simp)
theorem Qw{B:Nat}{a w:World}(h:Below B a w)(n:Nat):Below B a (w.drewN n):=⟨h.os,h.tape,h.output,h.size,h.block⟩
theorem Tj{P:Program}{w w0:World}{ops:Array Oper}{rest:List Oper}{o:Oper}{a:Act}{Q:Exit->Act->World->Prop}(hgd:o.guard=none)(s x:Operand)(t:TypeId)
  (ho:o.op=.call { callee:=.builtin .append,args:=#[s,x],argTypes:=#[t,t] })
  (B:Nat) (e:TypeId) (z:Value) (size bytes:Nat) (ht:P.underlying t=some (.slice e))
  (hi:(P.info? e).map (fun i=>(i.zero,i.size,i.bytes))=some (some z,size,bytes)) (hzs:z.cells.size=size) (hsz:0<size) (hbytes:bytes<=64)
  (v:Value) (n:Nat) (xs:List Value) (hs:a.eval s=v) (ad:Addr) (m c:Nat) (news:List Value) (hx:a.eval x=.slice (some ad) m c)
  (hl:news.length=m*size) (hnews:∀j u,news[j]?=some u->w.cell? (ad.add j)=some u) (h1:∀u∈news,u.oneCell'=true)
  (hown:w.ownsRow B e size v n xs) (hb:Below B w0 w) (hB:B<=w.heap.size)
  (hn:n+m<=1099511627776)
  (h:∀v' w',Qb (w'.ownsRow B e size v' (n+m) (xs++news))->Below B w0 w'->B<=w'.heap.size->wpList P ops Q rest (a.put o.dst v') w') :
  wpList P ops Q (o :: rest) a w:=by
 obtain⟨i0,hi,hz0,hz1,hz2⟩:=info_parts hi;refine wpList_append_own _ hgd s x t ho B e i0 z size bytes ht hi hz0 hz1 hz2 hzs hsz v n xs hs hown ad m c news hx hl hnews h1 ?_ ?_ ?_ ?_
 .simp only[maxLen];omega
 .have:=Nat.mul_le_mul hn hbytes;omega
 .exact hB
 .intro v' w' hown' hg _;exact h v' w' hown' (hb.grown hg hB (fun j hj=>(hown.lt j hj).1)) (by have:=hg.size;omega)
theorem Zj{P:Program}{w w0:World}{ops:Array Oper}{rest:List Oper}{o:Oper}{a:Act}{Q:Exit->Act->World->Prop}(hgd:o.guard=none)(s x:Operand)(t:TypeId)
  (ho:o.op=.call { callee:=.builtin .append,args:=#[s,x],argTypes:=#[t,t] })
  (B:Nat) (e:TypeId) (z:Value) (bytes:Nat) (ht:P.underlying t=some (.slice e))
  (hi:(P.info? e).map (fun i=>(i.zero,i.size,i.bytes))=some (some z,1,bytes)) (hzs:z.cells.size=1) (hbytes:bytes<=64)
  (v:Value) (n:Nat) (xs:List Value) (hs:a.eval s=v) (u:Value) (c:Nat) (hx:a.eval x=.slice (some ⟨w.heap.size,0,none⟩) 1 c) (h1:u.oneCell'=true)
  (hown:w.ownsRow B e 1 v n xs) (hb:Below B w0 w) (hB:B<=w.heap.size)
  (hn:n<1099511627776)
  (h:∀v' w',Qb (w'.ownsRow B e 1 v' (n+1) (xs++[u]))->Below B w0 w'->B<=w'.heap.size->wpList P ops Q rest (a.put o.dst v') w') :
  wpList P ops Q (o :: rest) a (w.alloc (.cells #[u] e)):=by
 refine Tj hgd s x t ho B e z 1 bytes ht hi hzs (by decide) hbytes v n xs hs ⟨w.heap.size,0,none⟩ 1 c [u] hx rfl (cell_one_new _ _ _) ?_ (hown.alloc _) (hb.alloc hB _) (by simp;omega) (by omega) h;intro u' hu';simp only[List.mem_cons,List.not_mem_nil,or_false]at hu';exact hu'▸h1
theorem Mk{a b:Value}(h:a=b):Ending.returned a=Ending.returned b:=by rw[h]
theorem Eh{w:World}{k:Nat}{o:Obj}(h:w.heap[k]?=some o):k<w.heap.size:=(Array.getElem?_eq_some_iff.1 h).1
def Qi(w:World)(g:Nat)(t:TypeId)(cs:Array Value):Prop:=w.heap[g]?=some (.cells cs t (0,0))
theorem Qi.cell{w:World}{g:Nat}{t:TypeId}{cs:Array Value}(h:Qi w g t cs)(i:Nat):w.cell? ⟨g,i,none⟩=cs[i]?:=cell_of_row w g i cs t (0,0) h
theorem Qi.at{w:World}{g:Nat}{t:TypeId}{cs:Array Value}(h:Qi w g t cs)(i:Nat)(u:Value)(hu:cs[i]?=some u):w.cell? ⟨g,i,none⟩=some u:=(h.cell i).trans hu
theorem Qi.frozen{w:World}{g:Nat}{t:TypeId}{cs:Array Value}(h:Qi w g t cs)(i:Nat):w.frozen? ⟨g,i,none⟩=false:=by simp only[Qi]at h;simp[World.frozen?,h]
theorem Qi.set{w:World}{g:Nat}{t:TypeId}{cs:Array Value}(h:Qi w g t cs)(i:Nat)(u:Value):Qi (w.setCell ⟨g,i,none⟩ u) g t (cs.setIfInBounds i u):=by simp only[Qi]at h |-;simp[World.setCell,Array.getElem?_modify,h]
theorem Qi.lt{w:World}{g:Nat}{t:TypeId}{cs:Array Value}(h:Qi w g t cs):g<w.heap.size:=Eh h
theorem Qi.new(w:World)(t:TypeId)(cs:Array Value):Qi (w.alloc (.cells cs t)) w.heap.size t cs:=heap_alloc_new w _
theorem Qi.alloc{w:World}{g:Nat}{t:TypeId}{cs:Array Value}(h:Qi w g t cs)(o:Obj):Qi (w.alloc o) g t cs:=(Below.heap_alloc w o g h.lt).trans h
theorem Qi.below{w w':World}{g:Nat}{t:TypeId}{cs:Array Value}(h:Qi w g t cs)(hb:Below w.heap.size w w'):Qi w' g t cs:=(hb.block g h.lt).trans h
theorem Qi.far{w:World}{g:Nat}{t:TypeId}{cs:Array Value}(h:Qi w g t cs){p:Addr}(hp:g≠p.block)(u:Value):Qi (w.setCell p u) g t cs:=(Below.heap_setCell w p u g hp).trans h
theorem Tx{w w0:World}{B S:Nat}{t:TypeId}{x0 x1 x2:Value}(h:Qi w S t #[x0,x1,x2])(hb:Below B w0 w)(hS:B<=S)(a b c:Value) :
  Qi (((w.setCell ⟨S,0,none⟩ a).setCell ⟨S,1,none⟩ b).setCell ⟨S,2,none⟩ c) S t #[a,b,c]/\Below B w0 (((w.setCell ⟨S,0,none⟩ a).setCell ⟨S,1,none⟩ b).setCell ⟨S,2,none⟩ c) :=
 ⟨((h.set 0 a).set 1 b).set 2 c,((hb.setCell hS a).setCell hS b).setCell hS c⟩
theorem Qk7{w w0 w':World}{B:Nat}{t:TypeId}{cs:Array Value}(hb:Below B w0 w)(hB:B<=w.heap.size)(h:Below (w.alloc (.cells cs t)).heap.size (w.alloc (.cells cs t)) w') :
  Qi w' w.heap.size t cs/\Below B w0 w'/\w.heap.size<w'.heap.size/\Below w.heap.size w w':=by
 have k:=(Qi.new w t cs).below h;refine⟨k,(hb.alloc hB _).trans (h.mono (by simp;omega)),k.lt,((Below.refl _ _).alloc (Nat.le_refl _) _).trans (h.mono (by simp))⟩
theorem Du{w w0 w':World}{B:Nat}{t t':TypeId}{cs cs':Array Value}(hb:Below B w0 w)(hB:B<=w.heap.size)
  (h:Below ((w.alloc (.cells cs t)).alloc (.cells cs' t')).heap.size ((w.alloc (.cells cs t)).alloc (.cells cs' t')) w') :
  Qi w' w.heap.size t cs/\Qi w' (w.heap.size+1) t' cs'/\Below B w0 w'/\w.heap.size+1<w'.heap.size/\Below w.heap.size w w':=by
 have k:=((Qi.new w t cs).alloc (.cells cs' t')).below h;have k':Qi ((w.alloc (.cells cs t)).alloc (.cells cs' t')) (w.heap.size+1) t' cs':=by have:=Qi.new (w.alloc (.cells cs t)) t' cs';rwa[show(w.alloc (.cells cs t)).heap.size=w.heap.size+1 by simp]at this
 have k2:=k'.below h;refine⟨k,k2,((hb.alloc hB _).alloc (by simp;omega) _).trans (h.mono (by simp;omega)),k2.lt,(((Below.refl _ _).alloc (Nat.le_refl _) _).alloc (by simp) _).trans (h.mono (by simp;omega))⟩
def Qc:List Nat->Nat
 | []=>0
 | x :: xs=>x+18446744073709551616*Qc xs
theorem Kh(xs ys:List Nat):Qc (xs++ys)=Qc xs+18446744073709551616^xs.length*Qc ys:=by
 induction xs with
 | nil=>simp[Qc]
 | cons x xs ih =>
  rw[cons_append,Qc,ih,Qc,List.length_cons,Nat.pow_succ,Nat.mul_add,Nat.add_assoc,Nat.mul_comm (18446744073709551616^xs.length) 18446744073709551616,Nat.mul_assoc]
theorem Wo(xs:List Nat)(d:Nat):Qc (xs++[d])=Qc xs+18446744073709551616^xs.length*d:=by rw[Kh];simp[Qc]
def Ql(xs:List Nat):Prop:=∀d∈xs,d<18446744073709551616
theorem J0{xs:List Nat}(h:Ql xs):Qc xs<18446744073709551616^xs.length:=by
 induction xs with
 | nil=>simp[Qc]
 | cons x xs ih =>
  have h1:x<18446744073709551616:=h x (by simp);have h2:=ih (fun d hd=>h d (by simp[hd]));rw[Qc,List.length_cons,Nat.pow_succ];omega
theorem Ql.get{xs:List Nat}(h:Ql xs){i x:Nat}(hx:xs[i]?=some x):x<18446744073709551616:=h x (List.mem_of_getElem? hx)
theorem Ql.snoc{xs:List Nat}(h:Ql xs){d:Nat}(hd:d<18446744073709551616):Ql (xs++[d]):=by
 intro x hx;rw[List.mem_append]at hx;rcases hx with hx|hx
 .exact h x hx
 .simp at hx;omega
theorem Ql.take{xs:List Nat}(h:Ql xs)(i:Nat):Ql (xs.take i):=fun d hd=>h d (List.mem_of_mem_take hd)
theorem Nq{xs:List Nat}{i x:Nat}(h:xs[i]?=some x):Qc (xs.take (i+1))=Qc (xs.take i)+18446744073709551616^i*x:=by
 have hi:i<xs.length:=(List.getElem?_eq_some_iff.1 h).1;have:xs.take (i+1)=xs.take i++[x]:=by rw[List.take_add_one,h];rfl
 rw[this,Wo,List.length_take,Nat.min_eq_left (by omega)]
theorem Js(k:Nat):Qc (List.replicate k 0)=0:=by
 induction k with
 | zero=>rfl
 | succ k ih=>rw[List.replicate_succ,Qc,ih]
structure Zf(L:List Nat)(n:Nat):Prop where
 digs:Ql L
 val:Qc L=n
 top:L≠[]->18446744073709551616^(L.length-1)<=n
theorem Zf.nil:Zf [] 0:=⟨fun _ h=>by simp at h,rfl,fun h=>absurd rfl h⟩
theorem Zf.zero{L:List Nat}(h:Zf L 0):L=[]:=by
 by_cases hl:L=[]
 .exact hl
 .have:=h.top hl;have:=Nat.two_pow_pos 0;have:0<18446744073709551616^(L.length-1):=Nat.pow_pos (by omega);omega
theorem Zf.ne{L:List Nat}{n:Nat}(h:Zf L n)(hn:n≠0):L≠[]:=by intro hl;subst hl;exact hn (by rw[<-h.val];rfl)
theorem Zf.pos{L:List Nat}{n:Nat}(h:Zf L n)(hn:n≠0):0<L.length:=List.length_pos_iff.2 (h.ne hn)
theorem Zf.lt{L:List Nat}{n:Nat}(h:Zf L n):n<18446744073709551616^L.length:=h.val▸J0 h.digs
theorem Wf(k:Nat):18446744073709551616^k=2^(64*k):=by rw[Nat.pow_mul]
theorem Zf.len_lt{L K:List Nat}{m n:Nat}(h:Zf L m)(k:Zf K n)(hl:L.length<K.length):m<n:=by have h1:=h.lt;have h2:=k.top (by intro he;subst he;simp at hl);have h3:18446744073709551616^L.length<=18446744073709551616^(K.length-1):=Nat.pow_le_pow_right (by omega) (by omega);omega
def Qz(xs:List Nat):List Value:=xs.map fun(d:Nat)=>Value.int .u64 (d:Int)
theorem Zo(xs:List Nat):(Qz xs).length=xs.length:=by simp[Qz]
theorem Jj{xs:List Nat}{i x:Nat}(h:xs[i]?=some x):(Qz xs)[i]?=some (.int .u64 (x:Int)):=by simp[Qz,h]
theorem Pm(xs ys:List Nat):Qz (xs++ys)=Qz xs++Qz ys:=by simp[Qz]
def Qq(w:World):Prop:=∀j,j<64->w.cell? ⟨0,j,none⟩=some (.int .u8 ((Lib.deBruijn64tab.getD j 0:Nat):Int))
theorem Qq.below{w w':World}(h:Qq w)(hb:Below w.heap.size w w'):Qq w':=fun j hj=>Qj hb (Nat.le_refl _) (h j hj)
theorem Qq.alloc{w:World}(h:Qq w)(o:Obj):Qq (w.alloc o):=fun j hj=>(World.cell?_alloc_lt w o _ (Wu (h j hj))).trans (h j hj)
def K5(v:Value):Prop:=∃a n c,v=.slice a n c/\n<=c
theorem K5.of_own{w:World}{B:Nat}{e:TypeId}{v:Value}{n:Nat}{xs:List Value}(h:w.ownsRow B e 1 v n xs):K5 v:=by
 rcases h.2 with⟨rfl,_⟩|⟨g,cap,cur,rfl,_,_,h,_⟩
 .exact⟨_,_,_,rfl,Nat.le_refl _⟩
 .exact⟨_,_,_,rfl,h⟩
theorem K5.nil:K5 (.slice none 0 0):=⟨_,_,_,rfl,Nat.le_refl _⟩
theorem K5.le{a:Option Addr}{n c:Nat}(h:K5 (.slice a n c)):n<=c:=by obtain⟨_,_,_,h1,h2⟩:=h;injection h1 with e0 e1 e2;omega
structure Qr(w:World)(v:Value)(L:List Nat):Prop where
 tab:Qq w
 sl:Sl w v (Qz L)
 digs:Ql L
 cap:K5 v
theorem Qr.below{w w':World}{v:Value}{L:List Nat}(h:Qr w v L)(hb:Below w.heap.size w w'):Qr w' v L:=⟨h.tab.below hb,h.sl.below hb,h.digs,h.cap⟩
theorem Qr.alloc{w:World}{v:Value}{L:List Nat}(h:Qr w v L)(o:Obj):Qr (w.alloc o) v L:=⟨h.tab.alloc o,h.sl.alloc o,h.digs,h.cap⟩
theorem Qr.drewN{w:World}{v:Value}{L:List Nat}(h:Qr w v L)(n:Nat):Qr (w.drewN n) v L:=⟨h.tab,h.sl,h.digs,h.cap⟩
def Dg(w:World)(v:Value)(n:Nat):Prop:=∃L,Qr w v L/\Zf L n
theorem Dg.tab{w:World}{v:Value}{n:Nat}(h:Dg w v n):Qq w:=by obtain⟨L,h,_⟩:=h;exact h.tab
theorem Dg.below{w w':World}{v:Value}{n:Nat}(h:Dg w v n)(hb:Below w.heap.size w w'):Dg w' v n:=by obtain⟨L,h1,h2⟩:=h;exact⟨L,h1.below hb,h2⟩
theorem Dg.alloc{w:World}{v:Value}{n:Nat}(h:Dg w v n)(o:Obj):Dg (w.alloc o) v n:=by obtain⟨L,h1,h2⟩:=h;exact⟨L,h1.alloc o,h2⟩
theorem Dg.drewN{w:World}{v:Value}{n:Nat}(h:Dg w v n)(k:Nat):Dg (w.drewN k) v n:=by obtain⟨L,h1,h2⟩:=h;exact⟨L,h1.drewN k,h2⟩
theorem Qr.nil{w:World}(t:Qq w):Qr w (.slice none 0 0) []:=⟨t,Sl.nil w,fun _ h=>by simp at h,K5.nil⟩
theorem Dg.nil{w:World}(t:Qq w):Dg w (.slice none 0 0) 0:=⟨[],Qr.nil t,Zf.nil⟩
theorem Qr.of_own{w:World}{B:Nat}{e:TypeId}{v:Value}{n:Nat}{L:List Nat}(h:w.ownsRow B e 1 v n (Qz L))(t:Qq w)(d:Ql L):Qr w v L:=⟨t,Sl.of_own h,d,K5.of_own h⟩
theorem Sl.form{w:World}{v:Value}{xs:List Nat}(h:Sl w v (Qz xs)) :
  ∃a c,v=.slice a xs.length c/\(0<xs.length->∃b off,a=some ⟨b,off,none⟩/\∀(i x:Nat),xs[i]?=some x->w.cell? ⟨b,off+i,none⟩=some (.int .u64 (x:Int))):=by
 obtain⟨a,c,rfl,h⟩:=h;rw[Zo]at h;refine⟨a,c,by rw[Zo],fun hl=>?_⟩;obtain⟨b,off,rfl,hc⟩:=h hl;exact⟨b,off,rfl,fun i x hx=>hc i _ (Jj hx)⟩
def dg(xs:List Nat)(i:Nat):Nat:=xs.getD i 0
theorem Qu{xs:List Nat}{i:Nat}(h:i<xs.length):xs[i]?=some (dg xs i):=by unfold dg;rw[List.getD_eq_getElem?_getD,List.getElem?_eq_getElem h];rfl
theorem Jm{xs:List Nat}{i:Nat}(h:xs.length<=i):dg xs i=0:=by unfold dg;rw[List.getD_eq_getElem?_getD,List.getElem?_eq_none h];rfl
theorem Qy{xs:List Nat}(h:Ql xs)(i:Nat):dg xs i<18446744073709551616:=by
 by_cases hi:i<xs.length
 .exact h.get (Qu hi)
 .rw[Jm (by omega)];omega
theorem Xc(xs:List Nat)(i:Nat):Qc (xs.take (i+1))=Qc (xs.take i)+18446744073709551616^i*dg xs i:=by
 by_cases hi:i<xs.length
 .exact Nq (Qu hi)
 .rw[Jm (by omega),List.take_of_length_le (by omega),List.take_of_length_le (by omega)];omega
theorem Xu{xs:List Nat}{i:Nat}(h:xs.length<=i):Qc (xs.take i)=Qc xs:=by rw[List.take_of_length_le h]
theorem Je(xs:List Nat)(i:Nat):Qc xs=Qc (xs.take i)+18446744073709551616^i*Qc (xs.drop i):=by
 by_cases hi:i<=xs.length
 .conv=>lhs;rw[<-List.take_append_drop i xs,Kh,List.length_take,Nat.min_eq_left hi]
 .rw[List.take_of_length_le (by omega),List.drop_of_length_le (by omega)];simp[Qc]
theorem Ja{xs:List Nat}(h:Ql xs)(i:Nat):Qc (xs.take i)<18446744073709551616^i:=by refine Nat.lt_of_lt_of_le (J0 (h.take i)) (Nat.pow_le_pow_right (by omega) ?_);exact List.length_take_le _ _
theorem Zw(xs:List Nat)(i:Nat):Qc (xs.drop i)=dg xs i+18446744073709551616*Qc (xs.drop (i+1)):=by
 by_cases hi:i<xs.length
 .rw[List.drop_eq_getElem_cons hi,Qc];have:=Qu hi;rw[List.getElem?_eq_getElem hi]at this;rw[Option.some.inj this]
 .rw[Jm (by omega),List.drop_of_length_le (by omega),List.drop_of_length_le (by omega)];rfl
theorem Vz{xs:List Nat}{i:Nat}(h:xs.length<=i):Qc (xs.drop i)=0:=by rw[List.drop_of_length_le h];rfl
def bl(n:Nat):Nat:=if n=0 then 0 else n.log2+1
theorem Tc:bl 0=0:=rfl
theorem Zi{n:Nat}(h:n≠0):bl n=n.log2+1:=by unfold bl;rw[if_neg h]
theorem Td{n:Nat}(h:0<n):bl n=bl (n/2)+1:=by
 rw[Zi (by omega)];by_cases h1:n/2=0
 .rw[h1,Tc];have:n=1:=by omega
  subst this;decide
 .rw[Zi h1];rw[Nat.log2_def n,if_pos (by omega)]
theorem Zp{n k:Nat}(h:n<2^k):bl n<=k:=by
 unfold bl;split
 .omega
 .have:=(Nat.log2_lt (by assumption)).2 h;omega
theorem Zb(n:Nat):n<2^bl n:=by
 unfold bl;split
 .subst n;decide
 .exact Nat.lt_log2_self
theorem Jl{xs:List Nat}{n:Nat}(h:Zf xs n)(hn:n≠0):bl n=64*(xs.length-1)+bl (dg xs (xs.length-1))/\0<dg xs (xs.length-1):=by
 have hp:=h.pos hn;have ht:=h.top (h.ne hn);have hv:=h.val;have h1:=Xc xs (xs.length-1);rw[Xu (by omega),hv]at h1;have h2:=Ja h.digs (xs.length-1);generalize Qc (xs.take (xs.length-1))=A at *
 generalize dg xs (xs.length-1)=d at *
 have hd:0<d:=by apply Nat.pos_of_ne_zero;intro h0;subst h0;omega
 refine⟨?_,hd⟩;rw[Zi hn,Zi (by omega)];rw[Wf]at *
 generalize 64*(xs.length-1)=k at *
 have hd1:2^d.log2<=d:=Nat.log2_self_le (by omega);have hd2:d<2^(d.log2+1):=Nat.lt_log2_self;have:n.log2=k+d.log2:=by
  rw[Nat.log2_eq_iff hn];constructor
  .rw[Nat.pow_add];have:=Nat.mul_le_mul_left (2^k) hd1;omega
  .rw[Nat.add_assoc,Nat.pow_add 2 k];have:=Nat.mul_le_mul_left (2^k) (Nat.succ_le_of_lt hd2);rw[Nat.mul_succ]at this;omega
 omega
theorem Lg{xs:List Nat}{n:Nat}(h:Ql xs)(hv:Qc xs=n)(i:Nat):n/2^i%2=dg xs (i/64)/2^(i%64)%2:=by
 have h1:=Je xs (i/64);have h2:=Ja h (i/64);rw[Zw,hv]at h1;rw[Wf]at h1 h2;generalize Qc (xs.take (i/64))=A at *
 generalize dg xs (i/64)=d at *
 generalize Qc (xs.drop (i/64+1))=R at *
 have h3:n/2^(64*(i/64))=d+18446744073709551616*R:=by rw[h1,Nat.add_mul_div_left _ _ (Nat.two_pow_pos _),Nat.div_eq_of_lt h2];omega
 have h4:n/2^i=(d+18446744073709551616*R)/2^(i%64):=by rw[<-h3,Nat.div_div_eq_div_mul,<-Nat.pow_add];congr 2;omega
 rw[h4];have hr:i%64<64:=Nat.mod_lt _ (by omega);generalize i%64=r at *
 have h5:18446744073709551616*R=2^r*(2*(2^(63-r)*R)):=by
  have:18446744073709551616=2^r*(2*2^(63-r)):=by rw[Nat.mul_left_comm,<-Nat.pow_add,show r+(63-r)=63 by omega]
  rw[this,Nat.mul_assoc,Nat.mul_assoc]
 rw[h5,Nat.add_mul_div_left _ _ (Nat.two_pow_pos _)];omega
theorem Tv(n k:Nat):n/2^k/2=n/2^(k+1):=by rw[Nat.div_div_eq_div_mul,Nat.pow_succ]
theorem Ns(n k:Nat):n/2^k=2*(n/2^(k+1))+n/2^k%2:=by rw[<-Tv];omega
def Qm(m n:Nat):Int:=if m<n then -1 else if n<m then 1 else 0
theorem Py{xs ys:List Nat}(hx:Ql xs){i:Nat}(he:Qc (xs.drop (i+1))=Qc (ys.drop (i+1)))(h:dg xs i<dg ys i):Qc xs<Qc ys:=by
 have h1:=Je xs i;have h2:=Je ys i;have h3:=Ja hx i;rw[Zw]at h1 h2;rw[he]at h1;generalize Qc (ys.drop (i+1))=R at *
 have h4:18446744073709551616^i*(dg xs i+18446744073709551616*R+1)<=18446744073709551616^i*(dg ys i+18446744073709551616*R):=Nat.mul_le_mul_left _ (by omega);rw[Nat.mul_add,Nat.mul_one]at h4;omega
theorem Yc{m n:Nat}(h:m<n):Qm m n=-1:=by unfold Qm;rw[if_pos h]
theorem Ug{m n:Nat}(h:n<m):Qm m n=1:=by unfold Qm;rw[if_neg (by omega),if_pos h]
theorem G9{m n:Nat}(h:m=n):Qm m n=0:=by unfold Qm;rw[if_neg (by omega),if_neg (by omega)]
theorem Rj{A B O s P c d:Nat}(h:O+P*c=A+B)(hs:s=c+d):O+P*(s%18446744073709551616)+P*18446744073709551616*(s/18446744073709551616)=A+B+P*d:=by
 have h1:P*(s%18446744073709551616)+P*18446744073709551616*(s/18446744073709551616)=P*s:=by rw[Nat.mul_assoc,<-Nat.mul_add,Nat.add_comm,Nat.div_add_mod]
 have h2:P*s=P*c+P*d:=by rw[hs,Nat.mul_add]
 omega
theorem Zf.mk_top{L:List Nat}{n:Nat}(hd:Ql L)(hv:Qc L=n)(ht:0<L.length->18446744073709551616^(L.length-1)<=n):Zf L n :=
 ⟨hd,hv,fun h=>ht (List.length_pos_iff.2 h)⟩
theorem Zf.norm{L:List Nat}(hd:Ql L){k:Nat}(hz:Qc (L.drop k)=0)(ht:k=0\/0<dg L (k-1))(hk:k<=L.length):Zf (L.take k) (Qc L):=by have h1:=Je L k;rw[hz,Nat.mul_zero]at h1;refine Zf.mk_top (hd.take k) (by omega) ?_;rw[List.length_take,Nat.min_eq_left hk];intro h0;have h2:=Xc L (k-1);rw[Nat.sub_add_cancel h0]at h2;have h3:18446744073709551616^(k-1)*1<=18446744073709551616^(k-1)*dg L (k-1):=Nat.mul_le_mul_left _ (by omega);omega
theorem I0(x y c:Nat)(hc:c<=1)(w:World) :
  (callFunc 145 #[.int .u64 (x:Int),.int .u64 (y:Int),.int .u64 (c:Int)]).run Tryz.prog w =
   .ok (.value (.tuple #[.int .u64 (((x+y+c)%18446744073709551616:Nat):Int),.int .u64 (((x+y+c)/18446744073709551616:Nat):Int)])) w:=by
 rw[run_callFunc_extern Tryz.func145 (by kernel_rfl) (by kernel_rfl) (by kernel_rfl) (e:=add64Entry) (by kernel_rfl),run_add64 x y c (by omega) (by omega) (by omega) (by omega)];simp only[Result.andThen];congr 5<;>omega
theorem Qei(x y b:Nat)(hb:b<=1)(w:World) :
  (callFunc 186 #[.int .u64 (x:Int),.int .u64 (y:Int),.int .u64 (b:Int)]).run Tryz.prog w =
   .ok (.value (.tuple #[.int .u64 (((x+18446744073709551616-y-b)%18446744073709551616:Nat):Int),.int .u64 ((if x<y+b then 1 else 0:Nat):Int)])) w:=by
 rw[run_callFunc_extern Tryz.func186 (by kernel_rfl) (by kernel_rfl) (by kernel_rfl) (e:=sub64Entry) (by kernel_rfl),run_sub64 x y b hb];rfl
theorem St:∀(f x:Nat),x<2^f->Lib.bitLenAux f x=bl x
 | 0,x,h=>by
  obtain rfl:x=0:=by simp at h;omega
  rfl
 | f+1,x,h=>by
  unfold Lib.bitLenAux;by_cases hx:x=0
  .subst hx;rfl
  .have h2:=h;rw[Nat.pow_succ]at h2;have hp:0<x:=by omega
   rw[if_neg hx,St f (x/2) (by omega),Td hp];omega
theorem Qbw(x:Nat)(h:x<18446744073709551616):Lib.bitLen x=bl x:=St 64 x h
theorem Ma:∀(k x:Nat),2^k<=x->bl x=k+bl (x/2^k)
 | 0,x,_=>by simp
 | k+1,x,h=>by have h2:=h;rw[Nat.pow_succ]at h2;have hp:=Nat.two_pow_pos k;rw[Td (by omega),Ma k (x/2) (by omega),Nat.div_div_eq_div_mul,Nat.pow_succ,Nat.mul_comm 2];omega
theorem Qh3(n:Nat)(h:n<Lib.len8tab.size):((Lib.len8tab[n]'h).toNat:Int)=(bl n:Int):=by have h2:=h;rw[Lib.len8tab_size]at h2;have h3:=Lib.len8_of (n:Int) (by omega) (by omega);unfold Lib.len8 at h3;rw[Int.toNat_natCast,getElem?_pos Lib.len8tab n h,Qbw n (by omega)]at h3;exact h3
theorem K9{a:Int}{x k n:Nat}{h:a.toNat<Lib.len8tab.size}(ha:a=(n:Int))(hn:n=x/2^k)(hk:k=0\/2^k<=x)(hk2:k<=56):wrap64 ((k:Int)+wrap64 ((Lib.len8tab[a.toNat]'h).toNat:Int))=(bl x:Int)/\(k=0->wrap64 (wrap64 ((Lib.len8tab[a.toNat]'h).toNat:Int))=(bl x:Int)):=by
 have h1:=Qh3 a.toNat h;rw[Lib.len8tab_size]at h;rw[h1];have e:a.toNat=x/2^k:=by omega
 have hb:bl a.toNat<=8:=Zp (k:=8) h;have hs:bl x=k+bl a.toNat:=by
  rw[e];rcases hk with rfl|hk
  .simp
  .exact Ma k x hk
 generalize bl a.toNat=b at *
 rw[hs];refine⟨?_,fun h0=>?_⟩
 .have w1:wrap64 (b:Int)=b:=IntWalk.wrap64_in _ (by omega);rw[w1,IntWalk.wrap64_in _ (by omega)];omega
 .have w1:wrap64 (b:Int)=b:=IntWalk.wrap64_in _ (by omega);rw[w1,w1];omega
theorem Qa8(x:Int)(w:World)(h0:0<=x)(h1:x<=18446744073709551615):Calls Tryz.prog 78 #[.int .u64 x] w fun e w'=>e=.returned (.int .i64 (bl x.toNat:Nat))/\w=w':=by
 go_enter Tryz.func78,Tryz.ntmps78;go_wp2
 all_goals(first|(exfalso;rename_i hh;rw[Lib.len8tab_size]at hh;omega)|skip)
 all_goals go_ret
 all_goals refine⟨Mk (congrArg (Value.int IntKind.i64) ?_),rfl⟩
 all_goals(first
  | exact(K9 (k:=56) (n:=(x/4294967296/65536/256).toNat) (by omega) (by omega) (.inr (by omega)) (by omega)).1
  | exact(K9 (k:=48) (n:=(x/4294967296/65536).toNat) (by omega) (by omega) (.inr (by omega)) (by omega)).1
  | exact(K9 (k:=40) (n:=(x/4294967296/256).toNat) (by omega) (by omega) (.inr (by omega)) (by omega)).1
  | exact(K9 (k:=32) (n:=(x/4294967296).toNat) (by omega) (by omega) (.inr (by omega)) (by omega)).1
  | exact(K9 (k:=24) (n:=(x/65536/256).toNat) (by omega) (by omega) (.inr (by omega)) (by omega)).1
  | exact(K9 (k:=16) (n:=(x/65536).toNat) (by omega) (by omega) (.inr (by omega)) (by omega)).1
  | exact(K9 (k:=8) (n:=(x/256).toNat) (by omega) (by omega) (.inr (by omega)) (by omega)).1
  | exact(K9 (k:=0) (n:=x.toNat) (by omega) (by omega) (.inl rfl) (by omega)).2 rfl)
theorem Ij(x:Nat)(h:x<18446744073709551616)(w:World):Calls Tryz.prog 78 #[.int .u64 (x:Int)] w fun e w'=>e=.returned (.int .i64 (bl x:Nat))/\w=w':=by have:=Qa8 (x:Int) w (by omega) (by omega);rwa[Int.toNat_natCast]at this
theorem Zs{x:Nat}(h:x<18446744073709551616):bl x<=64:=Zp (k:=64) h
theorem Qer(x:Nat)(h:x<18446744073709551616)(w:World):Calls Tryz.prog 175 #[.int .u64 (x:Int)] w fun e w'=>e=.returned (.int .i64 (64-(bl x:Int)))/\w=w':=by
 have H:=h_ (fun w=>Ij x h w);have hb:=Zs h;generalize bl x=b at *
 have q:IntKind.i64.wrap (64-(b:Int))=64-(b:Int):=IntWalk.i64_in _ (by omega);clear h;go_enter Tryz.func175,Tryz.ntmps175;go_wp2_with fail;refine(H.o _).mono ?_;rintro e w1 ⟨rfl,rfl⟩;go_wp2;go_ret;exact⟨rfl,rfl⟩
def Xb(x y:Int):Int:=if x<y then -1 else if y<x then 1 else 0
theorem Ta{x y:Int}(h:x<y):Xb x y=-1:=by unfold Xb;rw[if_pos h]
theorem Tb{x y:Int}(h:y<x):Xb x y=1:=by unfold Xb;rw[if_neg (by omega),if_pos h]
theorem Rm{x y:Int}(h:x=y):Xb x y=0:=by unfold Xb;rw[if_neg (by omega),if_neg (by omega)]
theorem Pn(x y:Int)(w:World):Calls Tryz.prog 33 #[.int .i64 x,.int .i64 y] w fun e w'=>e=.returned (.int .i64 (Xb x y))/\w=w':=by
 rcases Int.lt_trichotomy x y with h|h|h
 .rw[Ta h];go_enter Tryz.func33,Tryz.ntmps33;go_wp2;go_ret;exact⟨rfl,rfl⟩
 .rw[Rm h];subst h;go_enter Tryz.func33,Tryz.ntmps33;go_wp2;go_ret;exact⟨rfl,rfl⟩
 .rw[Tb h];go_enter Tryz.func33,Tryz.ntmps33;go_wp2;go_ret;exact⟨rfl,rfl⟩
theorem Qgy(x y:Int)(w:World):Calls Tryz.prog 112 #[.int .u64 x,.int .u64 y] w fun e w'=>e=.returned (.int .i64 (Xb x y))/\w=w':=by
 rcases Int.lt_trichotomy x y with h|h|h
 .rw[Ta h];go_enter Tryz.func112,Tryz.ntmps112;go_wp2;go_ret;exact⟨rfl,rfl⟩
 .rw[Rm h];subst h;go_enter Tryz.func112,Tryz.ntmps112;go_wp2;go_ret;exact⟨rfl,rfl⟩
 .rw[Tb h];go_enter Tryz.func112,Tryz.ntmps112;go_wp2;go_ret;exact⟨rfl,rfl⟩
theorem Mw(x y:Nat)(hx:x<18446744073709551616)(hy:y<18446744073709551616)(w:World) :
  Calls Tryz.prog 136 #[.int .u64 (x:Int),.int .u64 (y:Int)] w fun e w'=>e=.returned (.tuple #[.int .u64 ((x*y/18446744073709551616:Nat):Int),.int .u64 ((x*y%18446744073709551616:Nat):Int)])/\w=w':=by
 obtain⟨bd,bt,bw,hhi⟩:=Lib.mul64_hi x y hx hy;have ba:=Lib.half_mul_le (a:=x/4294967296) (b:=y/4294967296) (by omega) (by omega);have bb:=Lib.half_mul_le (a:=x/4294967296) (b:=y%4294967296) (by omega) (by omega);have bc:=Lib.half_mul_le (a:=x%4294967296) (b:=y/4294967296) (by omega) (by omega);have ba':x/4294967296*(y/4294967296)<18446744073709551616:=by omega
 have bb':x/4294967296*(y%4294967296)<18446744073709551616:=by omega
 have bc':x%4294967296*(y/4294967296)<18446744073709551616:=by omega
 have bh1:x/4294967296*(y/4294967296)+(x/4294967296*(y%4294967296)+x%4294967296*(y%4294967296)/4294967296)/4294967296<18446744073709551616:=by omega
 have bh:x/4294967296*(y/4294967296)+(x/4294967296*(y%4294967296)+x%4294967296*(y%4294967296)/4294967296)/4294967296+((x/4294967296*(y%4294967296)+x%4294967296*(y%4294967296)/4294967296)%4294967296+x%4294967296*(y/4294967296))/4294967296<18446744073709551616:=by omega
 go_enter Tryz.func136,Tryz.ntmps136;go_wp2;simp only[Mul64.maskN x hx,Mul64.maskN y hy,Mul64.divN,Mul64.mulN,Mul64.addN,Mul64.wrapN _ bd,Mul64.wrapN _ bb',Mul64.wrapN _ bt,Mul64.maskN _ bt,Mul64.wrapN _ bc',Mul64.wrapN _ bw,Mul64.wrapN _ ba',Mul64.wrapN _ bh1,Mul64.wrapN _ bh,Mul64.wrapM (x*y)];rw[hhi];go_ret2;exact⟨rfl,rfl⟩
theorem Qab(x k idx:Nat)(w:World)(hx0:((x:Int)==0)=false)
  (key:IntKind.u64.wrap (bits BinOp.and IntKind.u64 (x:Int) (IntKind.u64.wrap (-(x:Int)))*285870213051353865)/288230376151711744=(idx:Int))
  (hi:idx<64) (hk:k<64) (hcell:w.cell? ⟨0,idx,none⟩=some (.int .u8 k)) :
  Calls Tryz.prog 113 #[.int .u64 (x:Int)] w fun e w'=>e=.returned (.int .i64 k)/\w=w':=by
 go_enter Tryz.func113,Tryz.ntmps113;go_wp2_with (simp only[key])
 go_ret;exact⟨rfl,rfl⟩
theorem Qk4(x:Nat)(hx:x<18446744073709551616)(hx0:x≠0)(w:World)(hT:Qq w) :
  Calls Tryz.prog 113 #[.int .u64 (x:Int)] w fun e w'=>e=.returned (.int .i64 (Lib.ctz 64 x:Nat))/\w=w':=by
 obtain⟨hlow,hk⟩:=Lib.lowest_bit 64 x hx0 hx;obtain⟨hi,htab⟩:=Lib.deBruijn64_at _ hk;have hcell:=hT _ hi;rw[htab]at hcell;exact Qab x _ _ w (by simp;omega) (tz64_key x _ hx hx0 hlow) hi hk hcell
theorem De{P:Program}{w:World}(base:Nat)(t ty e:TypeId)(i:TypeInfo)(size c:Nat)(ht:P.underlying t=some (.slice e))(hi:P.info? e=some i)
  (v:Value) (n:Nat) (xs:List Value) (hown:w.ownsRow base e size v n xs) :
  (Builtin.append_ #[t,t] ty #[v,.slice none 0 c]).run P w=.ok v w:=by
 rcases hown.2 with⟨rfl,rfl⟩|⟨g,cap,cur,rfl,_,_,hnc,_⟩
 .simp[Builtin.append_,run_underlying ht,sizeOf,typeInfo,hi,Builtin.lenOf,Builtin.firstCells]
 .simp[Builtin.append_,run_underlying ht,sizeOf,typeInfo,hi,Builtin.lenOf,Builtin.firstCells,hnc,storeCells]
theorem Bo{P:Program}{w:World}{ops:Array Oper}{rest:List Oper}{o:Oper}{a:Act}{Q:Exit->Act->World->Prop}(hgd:o.guard=none)(s x:Operand)(t:TypeId)
  (ho:o.op=.call { callee:=.builtin .append,args:=#[s,x],argTypes:=#[t,t] })
  (base:Nat) (e:TypeId) (i:TypeInfo) (size c:Nat) (ht:P.underlying t=some (.slice e)) (hi:P.info? e=some i)
  (v:Value) (n:Nat) (xs:List Value) (hs:a.eval s=v) (hown:w.ownsRow base e size v n xs) (hx:a.eval x=.slice none 0 c)
  (h:wpList P ops Q rest (a.put o.dst v) w):wpList P ops Q (o :: rest) a w:=by
 refine wpList_plain hgd fun K hK=>?_;have hrun:=De (P:=P) (w:=w) base t o.type e i size c ht hi v n xs hown;unfold Oper.wp;simp[execOp,ho,resolve,invoke,builtin,hs,hx,hrun,Result.andThen];exact hK _ _ h
theorem Wn{P:Program}{w w0:World}{ops:Array Oper}{rest:List Oper}{o:Oper}{a:Act}{Q:Exit->Act->World->Prop}(hgd:o.guard=none)(s x:Operand)(t:TypeId)
  (ho:o.op=.call { callee:=.builtin .append,args:=#[s,x],argTypes:=#[t,t] })
  (B:Nat) (e:TypeId) (z:Value) (bytes:Nat) (ht:P.underlying t=some (.slice e))
  (hi:(P.info? e).map (fun i=>(i.zero,i.size,i.bytes))=some (some z,1,bytes)) (hzs:z.cells.size=1) (hbytes:bytes<=64)
  (v:Value) (n:Nat) (xs:List Value) (hs:a.eval s=v) (ad:Option Addr) (m c:Nat) (news:List Value) (hx:a.eval x=.slice ad m c)
  (hl:news.length=m) (hnews:Qb (0<m->∃b off,ad=some ⟨b,off,none⟩/\∀j u,news[j]?=some u->w.cell? ⟨b,off+j,none⟩=some u)) (h1:∀u∈news,u.oneCell'=true)
  (hown:w.ownsRow B e 1 v n xs) (hb:Below B w0 w) (hB:B<=w.heap.size)
  (hn:n+m<=1099511627776)
  (h:∀v' w',Qb (w'.ownsRow B e 1 v' (n+m) (xs++news))->Below B w0 w'->B<=w'.heap.size->wpList P ops Q rest (a.put o.dst v') w') :
  wpList P ops Q (o :: rest) a w:=by
 have HN:=hnews.o;by_cases hm:0<m
 .obtain⟨b,off,rfl,hc⟩:=HN hm;refine Tj hgd s x t ho B e z 1 bytes ht hi hzs (by decide) hbytes v n xs hs ⟨b,off,none⟩ m c news hx (by omega) ?_ h1 hown hb hB hn h;intro j u hj;rw[Addr.add_lit];exact hc j u hj
 .obtain rfl:m=0:=by omega
  have hnil:news=[]:=List.eq_nil_of_length_eq_zero hl;subst hnil;cases ad with
  | none =>
   obtain⟨i,hi',_⟩:=Option.map_eq_some_iff.1 hi;refine Bo hgd s x t ho B e i 1 c ht hi' v n xs hs hown hx (h v w ?_ hb hB);simpa[Qb]using hown
  | some p =>
   refine Tj hgd s x t ho B e z 1 bytes ht hi hzs (by decide) hbytes v n xs hs p 0 c [] hx rfl (by simp) (by simp) hown hb hB hn h
theorem Jb{P:Program}{w w0:World}{ops:Array Oper}{rest:List Oper}{o:Oper}{a:Act}{Q:Exit->Act->World->Prop}(hgd:o.guard=none)(l:Operand)(t:TypeId)
  (ho:o.op=Op.makeSlice t l l)
  (B:Nat) (e:TypeId) (z:Value) (bytes:Nat) (ht:P.underlying t=some (.slice e))
  (hi:(P.info? e).map (fun i=>(i.zero,i.size,i.bytes))=some (some z,1,bytes)) (hzs:z.cells=#[z]) (hbytes:bytes<=64)
  (k:IntKind) (L:Int) (n:Nat) (hl:a.eval l=.int k L) (hL:L=(n:Int)) (hn:n<=1099511627776) (hb:Below B w0 w) (hB:B<=w.heap.size)
  (h:∀w',Qb (w'.ownsRow B e 1 (.slice (some ⟨w.heap.size,0,none⟩) n n) n (List.replicate n z))->Below B w0 w'->B<=w'.heap.size->wpList P ops Q rest (a.put o.dst (.slice (some ⟨w.heap.size,0,none⟩) n n)) w') :
  wpList P ops Q (o :: rest) a w:=by
 obtain⟨i0,hi,hz0,hz1,hz2⟩:=info_parts hi;refine wpList_make_full w hgd l l t ho B e i0 z 1 ht hi hz0 hz1 k k L L n hl hl hL hL ?_ ?_ hB ?_
 .rw[hz2];have:=Nat.mul_le_mul hbytes hn;omega
 .simp only[maxLen];omega
 .intro w' h1 hg;rw[hzs,Nat.mul_one,toList_madeCells_one]at h1;refine h w' h1 ?_ ?_
  .exact hb.grown hg hB (fun j hj=>by simp at hj)
  .have:=hg.size;omega
theorem Pq(w:World)(e:TypeId):(w.alloc (.cells #[] e)).ownsRow w.heap.size e 1 (.slice (some ⟨w.heap.size,0,none⟩) 0 0) 0 [] :=
 World.ownsRow_lit w #[] 0 (Nat.le_refl _) (by decide) rfl
theorem Tryz.info22:(Tryz.prog.info? 22).map (fun i=>(i.zero,i.size,i.bytes))=some (some (.int .u64 0),1,8):=by kernel_rfl
def Sm(n:Nat):Prop:=bl n<=1000000
theorem Sm.len{L:List Nat}{n:Nat}(h:Sm n)(hc:Zf L n):L.length<=62501:=by
 by_cases hn:n=0
 .subst hn;rw[hc.zero];simp
 .have:=(Jl hc hn).1;unfold Sm at h;omega
theorem Sm.mono{m n:Nat}(h:Sm n)(hm:m<=n):Sm m:=by
 unfold Sm at *
 have:=Zb n;exact Nat.le_trans (Zp (n:=m) (k:=bl n) (by omega)) h
theorem Ya(xs:List Nat):∀u∈Qz xs,u.oneCell'=true:=by intro u hu;obtain⟨x,_,rfl⟩:=List.mem_map.1 hu;rfl
theorem Wl{w:World}{a:Option Addr}{xs:List Nat}(hc:0<xs.length->∃b off,a=some ⟨b,off,none⟩/\∀(i x:Nat),xs[i]?=some x->w.cell? ⟨b,off+i,none⟩=some (.int .u64 (x:Int)))(k:Nat)(hk:k<=xs.length){w':World}(hw:∀p u,w.cell? p=some u->w'.cell? p=some u) :
  Qb (0<k->∃b off,a=some ⟨b,off,none⟩/\∀j u,(Qz (xs.take k))[j]?=some u->w'.cell? ⟨b,off+j,none⟩=some u):=by
 intro h0;obtain⟨b,off,rfl,h⟩:=hc (by omega);refine⟨b,off,rfl,fun j u hu=>?_⟩;rw[Qz,List.getElem?_map]at hu;obtain⟨x,hx,rfl⟩:=Option.map_eq_some_iff.1 hu;rw[List.getElem?_take]at hx;split at hx
 .exact hw _ _ (h j x hx)
 .cases hx
theorem Kk{w:World}(o:Obj):∀p u,w.cell? p=some u->(w.alloc o).cell? p=some u:=fun p _ hp=>(World.cell?_alloc_lt w o p (Wu hp)).trans hp
def Qjg(L:List Nat)(w:World)(e:Ending)(w':World):Prop:=∃u,e=.returned u/\Qr w' u L/\Below w.heap.size w w'
def J2(n:Nat)(w:World)(e:Ending)(w':World):Prop:=∃u,e=.returned u/\Dg w' u n/\Below w.heap.size w w'
theorem Hx{L:List Nat}{v:Value}{w:World}(h:Qr w v L)(hlen:L.length<=1000000):Calls Tryz.prog 109 #[v] w (Qjg L w):=by
 have q40:∀(w:World) (a:Option Addr) (n c n' c':Nat),(binOp .eql 40 (.slice a n c) (.slice none n' c')).run Tryz.prog w=.ok (.bool a.isNone) w:=fun w a n c n' c'=>Lib.run_eql_slice_nil w _ _ a n c n' c' Tryz.underlying40;obtain⟨t,hL,hd,hcap⟩:=h;obtain⟨a,c,rfl,hcell⟩:=hL.form;rcases a with _|a
 .have h0:L.length=0:=by
   rcases Nat.eq_zero_or_pos L.length with h|h
   .exact h
   .obtain⟨b,off,h1,_⟩:=hcell h;cases h1
  obtain rfl:L=[]:=List.eq_nil_of_length_eq_zero h0;have HT:=h_ t;clear hcell hL hd hcap h0 t;go_enter Tryz.func109,Tryz.ntmps109;go_wp2;go_ret;exact⟨_,rfl,Qr.nil HT.o,Below.refl _ _⟩
 .have hc0:=Wl hcell L.length (Nat.le_refl _) (w':=w.alloc (.cells #[] 22)) (Kk _);have hb0:=(Below.refl w.heap.size w).alloc (Nat.le_refl _) (.cells #[] 22);have ho:=Pq w 22;have hlt:(Qz (L.take L.length)).length=L.length:=by rw[Zo,List.take_length]
  have HT:=h_ t;have HD:=h_ hd;clear hcell hL hd hcap t;go_enter Tryz.func109,Tryz.ntmps109;go_wp2_with (at_builtin;refine Wn rfl (.tmp 5) (.tmp 6) 40 rfl w.heap.size 22 (.int .u64 0) 8 Tryz.underlying40 Tryz.info22 rfl (by decide) _ 0 [] rfl _ L.length _ (Qz (L.take L.length)) rfl hlt hc0 (Ya _) ho hb0 hb0.size (by omega) ?_)
  intro v1 w1 ho1 hb1 _;have HG:Qb (Qr w1 v1 L):=by have h1:=ho1.o;exact Qr.of_own (by simpa using h1) (HT.o.below hb1) HD.o
  clear ho1 ho;go_wp2;go_ret;exact⟨_,rfl,HG.o,hb1⟩
theorem Xp{L:List Nat}{v:Value}{w:World}(h:Qr w v L)(hlen:L.length<=1000000):Calls Tryz.prog 70 #[v] w (J2 (Qc L) w):=by
 have HR:=h_ h;obtain⟨t,hL,hd,hcap⟩:=h;obtain⟨a,c,rfl,hcell⟩:=hL.form;have hcc:=hcap.le;have HC:=h_ hcell;have HD:=h_ hd;clear hcell hL hd t hcap;go_enter Tryz.func70,Tryz.ntmps70;go_wp2;go_loop [3] (fun i=>∃(k:Nat),i=.int .i64 k/\k<=L.length/\Qb (Qc (L.drop k)=0)) (fun i=>(intOf i).toNat)
 case atStart=>exact⟨L.length,rfl,Nat.le_refl _,Vz (Nat.le_refl _)⟩
 case round =>
  obtain⟨k,rfl,hk,hh⟩:=hrel;have fin:∀(k:Nat),k<=L.length->Qb (Qc (L.drop k)=0)->(k=0\/0<dg L (k-1))->Qb (Qr w (.slice a k c) (L.take k)/\Zf (L.take k) (Qc L)):=by intro k hk hz ht;refine⟨⟨HR.o.tab,?_,HD.o.take k,⟨_,_,_,rfl,by omega⟩⟩,Zf.norm HD.o hz.o ht hk⟩;refine⟨a,c,by rw[Zo,List.length_take,Nat.min_eq_left hk],fun h0=>?_⟩;rw[Zo,List.length_take,Nat.min_eq_left hk]at h0;have:=Wl HC.o k hk (w':=w) (fun _ _ h=>h);exact this.o h0
  rcases k with _|j
  .have HF:=fin 0 hk hh (.inl rfl);clear fin;go_wp2_with fail;refine(Hx HF.o.1 (by rw[List.length_take];omega)).mono ?_;rintro e w1 ⟨u,rfl,hu,hb⟩;have HU:=h_ hu;go_wp2;go_ret;exact⟨_,rfl,⟨_,HU.o,HF.o.2⟩,hb⟩
  .obtain⟨b,off,rfl,hc2⟩:=HC.o (by omega);have hc3:=hc2 j _ (Qu (by omega));clear hc2;have hd2:=Qy HD.o j;have e1:((↑(j+1):Int)-1)=j:=by omega
   by_cases hz:dg L j=0
   .have HH:Qb (Qc (L.drop j)=0):=by rw[Qb,Zw,hz,hh.o]
    rw[hz]at hc3;have hc4:w.cell? ⟨b,off+j,none⟩=some (.int .u64 0):=hc3;have hjl:j<L.length:=by omega
    clear fin hz hd2 hc3;go_wp2_with fail;go_round
    case rel=>exact⟨j,rfl,by omega,HH⟩
    case measure=>simp[intOf]
   .have HF:=fin (j+1) hk hh (.inr (by rw[Nat.add_sub_cancel];omega));generalize dg L j=d at *
    have e2:((d:Int)==0)=false:=by simp;omega
    have hjl:j<L.length:=by omega
    have hjc:(j:Int)+1<=c:=by omega
    have hj0:0<=(j:Int)+1:=by omega
    clear fin;go_wp2_with fail;refine(Hx (L:=L.take (j+1)) HF.o.1 (by rw[List.length_take];omega)).mono ?_;rintro e w1 ⟨u,rfl,hu,hb⟩;have HU:=h_ hu;go_wp2;go_ret;exact⟨_,rfl,⟨_,HU.o,HF.o.2⟩,hb⟩
theorem Wr{w:World}(t:Qq w){n:Nat}(hn:n<18446744073709551616):Qr (w.alloc (.cells #[.int .u64 (n:Int)] 22)) (.slice (some ⟨w.heap.size,0,none⟩) 1 1) [n]:=by
 refine⟨t.alloc _,⟨_,1,rfl,fun _=>⟨w.heap.size,0,rfl,fun i u hu=>?_⟩⟩,?_,⟨_,_,_,rfl,Nat.le_refl _⟩⟩
 .have hi:i=0:=by have:=(List.getElem?_eq_some_iff.1 hu).1;simp[Qz]at this;omega
  subst hi;simp[Qz]at hu;subst hu;exact(cell_of_row _ _ _ _ _ _ (heap_alloc_new w _)).trans rfl
 .intro d hd;simp at hd;omega
theorem Zu{n:Nat}(hn:n<18446744073709551616){w:World}(t:Qq w):Calls Tryz.prog 124 #[.int .u64 (n:Int)] w (J2 n w):=by
 have HR:=h_ (Wr t hn);have hb:=h_ ((Below.refl w.heap.size w).alloc (Nat.le_refl _) (.cells #[.int .u64 (n:Int)] 22));clear t hn;go_enter Tryz.func124,Tryz.ntmps124;go_wp2_with fail;refine(Xp HR.o (by simp)).mono ?_;rintro e w1 ⟨u,rfl,hu,hb1⟩;have HU:Qb (Dg w1 u n):=by
  have:Qc [n]=n:=by simp[Qc]
  rw[this]at hu;exact hu
 have HB:=h_ (hb.o.trans (hb1.mono hb.o.size));clear hu hb hb1 HR;go_wp2;go_ret;exact⟨_,rfl,HU.o,HB.o⟩
def Ws(L:List Nat)(i:Int):Nat:=if i<0 then 0 else dg L i.toNat
theorem Qa7{L:List Nat}(h:Ql L)(i:Int):Ws L i<18446744073709551616:=by
 unfold Ws;split
 .omega
 .exact Qy h _
theorem Vg(L:List Nat)(i:Nat):Ws L (i:Int)=dg L i:=by unfold Ws;rw[if_neg (by omega),Int.toNat_natCast]
theorem Vw{L:List Nat}{v:Value}{w:World}(h:Qr w v L)(i:Int):Calls Tryz.prog 108 #[v,.int .i64 i] w fun e w'=>e=.returned (.int .u64 (Ws L i:Nat))/\w=w':=by
 obtain⟨t,hL,hd,hcap⟩:=h;obtain⟨a,c,rfl,hcell⟩:=hL.form;by_cases h1:i<0
 .have hz:Ws L i=0:=by unfold Ws;rw[if_pos h1]
  rw[hz];clear hcell hL hd hcap t hz;go_enter Tryz.func108,Tryz.ntmps108;go_wp2;go_ret;exact⟨rfl,rfl⟩
 .obtain⟨k,rfl⟩:=Int.eq_ofNat_of_zero_le (Int.not_lt.1 h1);rw[Vg];by_cases h2:L.length<=k
  .rw[Jm h2];clear hcell hL hd hcap t;go_enter Tryz.func108,Tryz.ntmps108;go_wp2;go_ret;exact⟨rfl,rfl⟩
  .obtain⟨b,off,rfl,hc2⟩:=hcell (by omega);have hc3:=hc2 k _ (Qu (by omega));generalize dg L k=d at *
   clear hc2 hcell hL hd hcap t;go_enter Tryz.func108,Tryz.ntmps108;go_wp2;go_ret;exact⟨rfl,rfl⟩
theorem Zf.bits_len{L:List Nat}{n:Nat}(h:Zf L n)(hn:n≠0):bl n=64*(L.length-1)+bl (dg L (L.length-1)):=(Jl h hn).1
theorem Ka{L:List Nat}{v:Value}{w:World}(h:Qr w v L)(hlen:L.length<=1000000):Calls Tryz.prog 36 #[v] w fun e w'=>e=.returned (.int .i64 (bl (Qc L):Nat))/\Below w.heap.size w w':=by
 have HR:=h_ h;have hlen':=hlen;obtain⟨n,hn⟩:∃n,n=Qc L:=⟨_,rfl⟩
 have HBn:Qb (bl n<=64000000):=by have h1:=J0 h.digs;rw[<-hn,Wf]at h1;exact Nat.le_trans (Zp h1) (by omega)
 have HB:Qb (∀w,Qr w v L->Calls Tryz.prog 70 #[v] w (J2 n w)):=fun w h=>hn▸Xp h hlen';rw[<-hn];clear h hn hlen hlen';go_enter Tryz.func36,Tryz.ntmps36;go_wp2_with fail;refine(HB.o _ HR.o).mono ?_;rintro e w1 ⟨u,rfl,hu,hb1⟩;obtain⟨K,⟨t,hK,hd,hcap⟩,hc⟩:=hu;obtain⟨a,c,rfl,hcell⟩:=hK.form;by_cases h0:n=0
 .subst h0;obtain rfl:=hc.zero;clear hcell hK hd hcap t hc HB HR;go_wp2;go_ret;exact⟨rfl,hb1⟩
 .have hp:=hc.pos h0;have e0:((K.length:Int)==0)=false:=by rw[beq_eq_false_iff_ne];omega
  have hl:=hc.bits_len h0;have hm:=HBn.o;obtain⟨b,off,rfl,hc2⟩:=hcell hp;obtain⟨j,hj⟩:∃j,K.length=j+1:=⟨K.length-1,by omega⟩
  have hc3:=hc2 j _ (Qu (by omega));have hd3:=Qy hd j;rw[hj,Nat.add_sub_cancel]at hl;rw[hj]at e0;have HL:=h_ (fun w=>Ij _ hd3 w);have hb64:=Zs hd3;generalize dg K j=d at *
  generalize bl d=bd at *
  have HBN:Qb (∃bn,bl n=bn):=⟨_,rfl⟩
  obtain⟨bn,hbn'⟩:=HBN.o;have hbn:=hbn';rw[hbn]at hl hm;have HBN:=h_ hbn;have e1:((↑(j+1):Int)-1)=j:=by omega
  have e2:IntKind.i64.wrap ((64*(j:Int))+bd)=bn:=(IntWalk.i64_in _ (by omega)).trans (by omega);have e3:IntKind.i64.wrap (64*(j:Int))=64*j:=IntWalk.i64_in _ (by omega);have HBB:=h_ hb1;have hjm:j<=1000000:=by omega
  rw[hj];clear hc2 hcell hK hd hcap t hc HB HR h0 hl hm hp hd3 hb1 hbn hbn' hj;go_wp2_with fail;refine(HL.o _).mono ?_;rintro e w2 ⟨rfl,rfl⟩;go_wp2;go_ret;exact⟨Mk (congrArg (Value.int .i64) (congrArg Nat.cast HBN.o.symm)),HBB.o⟩
def lo(n:Nat):Nat:=if n=0 then 0 else Lib.ctzFrom n n
theorem Pl{n:Nat}(h:n≠0):∃m,n=2^lo n*(2*m+1):=by unfold lo;rw[if_neg h];obtain⟨m,h1,_⟩:=Lib.ctzFrom_spec n n (by omega) Nat.lt_two_pow_self;exact⟨m,h1⟩
theorem Mt:∀{a b m k:Nat},2^a*(2*m+1)=2^b*(2*k+1)->a=b
 | 0,0,_,_,_=>rfl
 | 0,b+1,m,k,h=>by
  rw[Nat.pow_succ,Nat.mul_assoc,Nat.mul_left_comm]at h;simp only[Nat.pow_zero,Nat.one_mul]at h;omega
 | a+1,0,m,k,h=>by
  rw[Nat.pow_succ,Nat.mul_assoc,Nat.mul_left_comm]at h;simp only[Nat.pow_zero,Nat.one_mul]at h;omega
 | a+1,b+1,m,k,h=>by rw[Nat.pow_succ,Nat.mul_assoc,Nat.mul_left_comm,Nat.pow_succ,Nat.mul_assoc (2^b),Nat.mul_left_comm (2^b)]at h;have:=Mt (Nat.eq_of_mul_eq_mul_left (by omega) h);omega
theorem Fg{n a m:Nat}(h:n=2^a*(2*m+1)):lo n=a:=by
 have h0:n≠0:=by have:=Nat.mul_pos (Nat.two_pow_pos a) (by omega:0<2*m+1);omega
 obtain⟨k,hk⟩:=Pl h0;exact Mt (hk.symm.trans h)
theorem Qf9:lo 0=0:=rfl
theorem Qa6{L:List Nat}{i x:Nat}(hz:Qc (L.take i)=0)(hx:dg L i=x)(h0:x≠0)(hl:x<18446744073709551616):lo (Qc L)=64*i+Lib.ctz 64 x/\Lib.ctz 64 x<64:=by
 have e:Lib.ctz 64 x=Lib.ctzFrom 64 x:=by simp[Lib.ctz,h0]
 obtain⟨m,h1,h2⟩:=Lib.ctzFrom_spec 64 x (by omega) hl;rw[e];generalize Lib.ctzFrom 64 x=c at *
 refine⟨?_,h2⟩;have h3:=Je L i;rw[hz,Nat.zero_add,Zw,hx,Wf]at h3;generalize Qc (L.drop (i+1))=R at *
 have hp:(18446744073709551616:Nat)=2^c*(2*2^(63-c)):=by rw[Nat.mul_left_comm,<-Nat.pow_add,show c+(63-c)=63 by omega]
 refine Fg (m:=m+2^(63-c)*R) ?_;rw[h3,Nat.pow_add,Nat.mul_assoc];congr 1;have h4:18446744073709551616*R=2^c*(2*(2^(63-c)*R)):=by rw[hp,Nat.mul_assoc,Nat.mul_assoc]
 rw[h4,h1,<-Nat.mul_add];congr 1;omega
theorem Ec{L:List Nat}{v:Value}{w:World}(h:Qr w v L)(hlen:L.length<=1000000):Calls Tryz.prog 75 #[v] w fun e w'=>e=.returned (.int .i64 (lo (Qc L):Nat))/\w=w':=by
 have HT:=h_ h.tab;have HD:=h_ h.digs;obtain⟨a,c,rfl,hcell⟩:=h.sl.form;have HC:=h_ hcell;clear h hcell;go_enter Tryz.func75,Tryz.ntmps75;go_wp2;go_loop [7] (fun i=>∃(k:Nat),i=.int .i64 k/\k<=L.length/\Qb (Qc (L.take k)=0)) (fun i=>L.length-(intOf i).toNat)
 case atStart=>exact⟨0,rfl,Nat.zero_le _,by rw[Qb];rfl⟩
 case round =>
  obtain⟨k,rfl,hk,hh⟩:=hrel;by_cases hlt:k<L.length
  .obtain⟨b,off,rfl,hc2⟩:=HC.o (by omega);have hc3:=hc2 k _ (Qu hlt);have hd:=Qy HD.o k;by_cases hz:dg L k=0
   .rw[hz]at hc3;have hc4:w.cell? ⟨b,off+k,none⟩=some (.int .u64 0):=hc3;have HH:Qb (Qc (L.take (k+1))=0):=by rw[Qb,Xc,hz,hh.o];simp
    clear hc2 hc3 hz hd;go_wp2;go_round
    case rel=>exact⟨k+1,by go_num,by omega,HH⟩
    case measure=>simp[intOf];omega
   .obtain⟨e1,e2⟩:=Qa6 hh.o rfl hz hd;have HL:=h_ (fun w (t:Qq w)=>Qk4 _ hd hz w t);have hz':((dg L k:Nat):Int)≠0:=by omega
    have e3:(((dg L k:Nat):Int)==0)=false:=by rw[beq_eq_false_iff_ne];exact hz'
    generalize Lib.ctz 64 (dg L k)=ct at *
    have E1:=h_ e1;generalize dg L k=d at *
    have e4:IntKind.i64.wrap (64*(k:Int))=64*k:=IntWalk.i64_in _ (by omega);have e5:IntKind.i64.wrap (64*(k:Int)+ct)=64*k+ct:=IntWalk.i64_in _ (by omega);clear hc2 hz hd hz' e1 e2;go_wp2_with fail;refine(HL.o _ HT.o).mono ?_;rintro e w1 ⟨rfl,rfl⟩;go_wp2;go_ret;exact⟨Mk (congrArg (Value.int .i64) (by have:=E1.o;omega)),rfl⟩
  .have e1:Qb (Qc L=0):=by rw[Qb,<-hh.o,Xu (by omega)]
   go_wp2;go_ret;exact⟨Mk (congrArg (Value.int .i64) (by rw[e1.o,Qf9];rfl)),rfl⟩
theorem Qf3{L:List Nat}{v:Value}{w:World}(h:Qr w v L):Calls Tryz.prog 68 #[v] w fun e w'=>e=.returned (.bool (Qc L%2==1))/\w=w':=by
 have HL:=h_ (fun w (h:Qr w v L)=>Vw h 0);have HR:=h_ h;have e0:Ws L 0=dg L 0:=Vg L 0;have e1:Qc L%2=dg L 0%2:=by have:=Zw L 0;rw[List.drop_zero]at this;omega
 have hd:=Qy h.digs 0;rw[e0]at HL;rw[e1];generalize dg L 0=d at *
 have e2:bits .and .u64 (d:Int) 1=((d%2:Nat):Int):=by rw[u64_and _ _ (by omega) (by omega) (by omega) (by omega)];congr 1;exact Nat.and_two_pow_sub_one_eq_mod _ 1
 clear h e0 e1;rcases Nat.mod_two_eq_zero_or_one d with hm|hm
 all_goals
  rw[hm]at e2 |-;go_enter Tryz.func68,Tryz.ntmps68;go_wp2_with fail;refine(HL.o _ HR.o).mono ?_;rintro e w1 ⟨rfl,rfl⟩;go_wp2;go_ret;exact⟨rfl,rfl⟩
theorem Jw(xs:List Nat)(k y:Nat)(hk:k<xs.length):Qc (xs.set k y)+18446744073709551616^k*dg xs k=Qc xs+18446744073709551616^k*y:=by
 induction xs generalizing k with
 | nil=>simp at hk
 | cons x xs ih =>
  rcases k with _|k
  .simp[Qc,dg];omega
  .have h:=ih k (by simpa using hk);rw[set_cons_succ,Qc,Qc,Nat.pow_succ];have e:dg (x :: xs) (k+1)=dg xs k:=by simp[dg]
   rw[e,Nat.mul_comm (18446744073709551616^k) 18446744073709551616,Nat.mul_assoc,Nat.mul_assoc];omega
theorem Wi(xs:List Nat)(k y:Nat):(Qz xs).set k (.int .u64 (y:Int))=Qz (xs.set k y):=by unfold Qz;rw[List.map_set]
theorem Wc(xs:List Nat)(k y j:Nat)(hj:j≠k):dg (xs.set k y) j=dg xs j:=by unfold dg;rw[List.getD_eq_getElem?_getD,List.getD_eq_getElem?_getD,List.getElem?_set_ne (Ne.symm hj)]
theorem Ql.set{xs:List Nat}(h:Ql xs){k y:Nat}(hy:y<18446744073709551616):Ql (xs.set k y):=by
 intro d hd;rcases List.mem_or_eq_of_mem_set hd with hd|hd
 .exact h d hd
 .omega
theorem Dm{w:World}{B:Nat}{e:TypeId}{v:Value}{n:Nat}{xs:List Value}(h:w.ownsRow B e 1 v n xs):∃a c,v=.slice a n c:=by
 rcases h.2 with⟨rfl,h0⟩|⟨g,cap,cur,rfl,_⟩
 .subst h0;exact⟨_,_,rfl⟩
 .exact⟨_,_,rfl⟩
theorem Gr{w:World}{B:Nat}{e:TypeId}{v:Value}{n:Nat}{xs:List Value}(h:w.ownsRow B e 1 v n xs):xs.length=n:=by have:=h.1;omega
theorem Zn{w:World}{B:Nat}{e:TypeId}{v:Value}{n:Nat}{xs:List Nat}(h:w.ownsRow B e 1 v n (Qz xs)):xs.length=n:=by have:=Gr h;rwa[Zo]at this
theorem Vy(n:Nat):List.replicate n (Value.int .u64 0)=Qz (List.replicate n 0):=by simp[Qz]
theorem Kl(n:Nat):Ql (List.replicate n 0):=by intro d hd;obtain⟨_,rfl⟩:=List.mem_replicate.1 hd;decide
theorem Px(n j:Nat):dg (List.replicate n 0) j=0:=by unfold dg;rw[List.getD_eq_getElem?_getD,List.getElem?_replicate];split<;>rfl
structure Xq(n:Nat)(w wr:World)(out:Value)(O:List Nat)(k:Nat):Prop where
 own:wr.ownsRow w.heap.size 22 1 out n (Qz O)
 digs:Ql O
 zero:∀j,k<=j->dg O j=0
 b:Below w.heap.size w wr
theorem Xq.start{n:Nat}{w wr:World}{out:Value}(h:Qb (wr.ownsRow w.heap.size 22 1 out n (List.replicate n (.int .u64 0))))(hb:Below w.heap.size w wr):Xq n w wr out (List.replicate n 0) 0 :=
 ⟨by have:=h.o;rwa[Vy]at this,Kl n,fun j _=>Px n j,hb⟩
theorem Xq.len{n:Nat}{w wr:World}{out:Value}{O:List Nat}{k:Nat}(h:Xq n w wr out O k):O.length=n:=Zn h.own
theorem Xq.step{n:Nat}{w wr:World}{g cap:Nat}{O:List Nat}{k:Nat}(h:Xq n w wr (.slice (some ⟨g,0,none⟩) n cap) O k)(hg:w.heap.size<=g)(y:Nat)(u:Value)(hy:y<18446744073709551616)(hu:u=.int .u64 (y:Int)) :
  Xq n w (wr.setCell ⟨g,k,none⟩ u) (.slice (some ⟨g,0,none⟩) n cap) (O.set k y) (k+1):=by
 subst hu;refine⟨?_,h.digs.set hy,fun j hj=>?_,h.b.setCell hg _⟩
 .rw[<-Wi];exact(h.own.stored k _).1
 .rw[Wc _ _ _ _ (by omega)];exact h.zero j (by omega)
theorem Xq.val{n:Nat}{w wr:World}{out:Value}{O:List Nat}{k:Nat}(h:Xq n w wr out O k)(hk:k<n)(y:Nat):Qc (O.set k y)=Qc O+18446744073709551616^k*y:=by have:=Jw O k y (by rw[h.len];exact hk);rw[h.zero k (Nat.le_refl _),Nat.mul_zero]at this;omega
theorem Xq.raw{n:Nat}{w wr:World}{out:Value}{O:List Nat}{k:Nat}(h:Xq n w wr out O k)(t:Qq w):Qr wr out O:=Qr.of_own h.own (t.below h.b) h.digs
theorem Vc{a b:Nat}(h:a<=b):18446744073709551616^a<=18446744073709551616^b:=Nat.pow_le_pow_right (Nat.zero_lt_succ _) h
theorem Qcp{A B C Q R c:Nat}(hR:2<=R)(hB:B<Q)(hC:C<Q)(h:A+Q*R*c=B+C):A=B+C:=by
 rcases Nat.eq_zero_or_pos c with h0|h0
 .subst h0;simpa using h
 .have h1:=Nat.mul_le_mul_left Q hR;have h2:=Nat.le_mul_of_pos_right (Q*R) h0;omega
theorem Qfo{A B C n c:Nat}(hB:B<18446744073709551616^n)(hC:C<18446744073709551616^n)(h:A+18446744073709551616^(n+1)*c=B+C):A=B+C:=by rw[Nat.pow_succ]at h;exact Qcp (by omega) hB hC h
theorem Rp{L K:List Nat}{u v:Value}{w:World}(h:Qr w u L)(k:Qr w v K)(hl:L.length<=100000)(kl:K.length<=100000) :
  Calls Tryz.prog 123 #[u,v] w (J2 (Qc L+Qc K) w):=by
 have HL:=h_ h;have HK:=h_ k;obtain⟨n,hn⟩:∃n,n=max L.length K.length+1:=⟨_,rfl⟩
 have hn1:n<=100001:=by omega
 have HEND:Qb (∀(O:List Nat) (c:Nat),Qc O+18446744073709551616^n*c=Qc (L.take n)+Qc (K.take n)->Qc O=Qc L+Qc K):=by intro O c hs;rw[Xu (by omega),Xu (by omega),show n=n-1+1 by omega]at hs;exact Qfo (Nat.lt_of_lt_of_le (J0 h.digs) (Vc (by omega))) (Nat.lt_of_lt_of_le (J0 k.digs) (Vc (by omega))) hs
 obtain⟨a,c,rfl,-⟩:=h.sl.form;obtain⟨a',c',rfl,-⟩:=k.sl.form;have HN:=h_ hn;clear h k hn;go_enter Tryz.func123,Tryz.ntmps123;go_wp2_with (refine Jb (w0:=w) rfl (.tmp 13) 40 rfl w.heap.size 22 (.int .u64 0) 8 Tryz.underlying40 Tryz.info22 rfl (by decide) _ _ n rfl (by have:=HN.o;omega) (by omega) (Below.refl _ _) (Nat.le_refl _) ?_)
 intro w1 ho1 hb1 hB1;have hS:Qb (Xq n w w1 _ (List.replicate n 0) 0/\Qc (List.replicate n 0)+18446744073709551616^0*0=Qc (L.take 0)+Qc (K.take 0)):=⟨Xq.start ho1 hb1,by rw[Js];rfl⟩
 clear ho1 hb1 hB1;go_wp2
 go_loopw [6,17] (fun cc i wr=>∃(k c:Nat) (O:List Nat),i=.int .i64 k/\cc=.int .u64 c/\k<=n/\c<=1/\Qb (Xq n w wr (.slice (some ⟨w.heap.size,0,none⟩) n n) O k/\Qc O+18446744073709551616^k*c=Qc (L.take k)+Qc (K.take k))) (fun _ i _=>n-(intOf i).toNat)
 case atStart=>exact⟨0,0,_,rfl,rfl,by omega,by omega,hS⟩
 case round =>
  obtain⟨k,cc,O,rfl,rfl,hk,hcc,hh⟩:=hrel;by_cases hkl:k<n
  .have hfz:=hh.o.1.own.frozenAt k;have hx:wr.cell? ⟨w.heap.size,k,none⟩=some (.int .u64 (dg O k:Nat)):=by rw[hh.o.1.own.cellAt k (by omega)];exact Jj (Qu (by rw[hh.o.1.len];exact hkl))
   have C1:Qb (∀w',wr=w'->Calls Tryz.prog 108 #[.slice a L.length c,.int .i64 (k:Int)] w' fun e w''=>e=.returned (.int .u64 (dg L k:Nat))/\w'=w''):=by rintro w' rfl;have:=Vw (HL.o.below hh.o.1.b) (k:Int);rwa[Vg]at this
   have C2:Qb (∀w',wr=w'->Calls Tryz.prog 108 #[.slice a' K.length c',.int .i64 (k:Int)] w' fun e w''=>e=.returned (.int .u64 (dg K k:Nat))/\w'=w''):=by rintro w' rfl;have:=Vw (HK.o.below hh.o.1.b) (k:Int);rwa[Vg]at this
   have hA:=fun w=>I0 (dg L k) (dg K k) cc hcc w;have d1:=Qy HL.o.digs k;have d2:=Qy HK.o.digs k;have HST:Qb (∀u y b,y=(dg L k+dg K k+cc)%18446744073709551616->b=(dg L k+dg K k+cc)/18446744073709551616->u=.int .u64 (y:Int)->Xq n w (wr.setCell ⟨w.heap.size,k,none⟩ u) (.slice (some ⟨w.heap.size,0,none⟩) n n) (O.set k y) (k+1)/\Qc (O.set k y)+18446744073709551616^(k+1)*b=Qc (L.take (k+1))+Qc (K.take (k+1))):=by intro u y b hy hb hu;refine⟨hh.o.1.step (Nat.le_refl _) y u (by omega) hu,?_⟩;rw[hh.o.1.val hkl,Xc,Xc,Nat.pow_succ];have:=Rj (s:=dg L k+dg K k+cc) (d:=dg L k+dg K k) hh.o.2 (by omega);rw[<-hy,<-hb,Nat.mul_add]at this;omega
   generalize dg L k=x at *
   generalize dg K k=y at *
   obtain⟨s,hs⟩:∃s,s=(x+y+cc)%18446744073709551616:=⟨_,rfl⟩
   obtain⟨b,hb⟩:∃b,b=(x+y+cc)/18446744073709551616:=⟨_,rfl⟩
   rw[<-hs,<-hb]at hA;have HH:=HST.o (.int .u64 (s:Int)) s b hs hb rfl;have hb1:b<=1:=by omega
   have HH':=h_ HH;clear HH HST hs hb d1 d2;go_wp2_with fail;refine(C1.o _ rfl).mono ?_;rintro e w2 ⟨rfl,rfl⟩;go_wp2_with fail;refine(C2.o _ rfl).mono ?_;rintro e w2 ⟨rfl,rfl⟩;go_wp2;go_roundw
   case rel=>exact⟨k+1,b,_,by go_num,rfl,by omega,by omega,HH'⟩
   case measure=>simp[intOf];omega
  .obtain rfl:k=n:=by omega
   have HF:=h_ (HEND.o O cc hh.o.2);go_wp2_with fail;refine(Xp (hh.o.1.raw HL.o.tab) (by rw[hh.o.1.len];omega)).mono ?_;rintro e w2 ⟨u,rfl,hd2,hb2⟩;have HG:Qb (Dg w2 u (Qc L+Qc K)/\Below w.heap.size w w2):=⟨by rw[<-HF.o];exact hd2,hh.o.1.b.trans (hb2.mono hh.o.1.b.size)⟩
   clear hd2 hb2;go_wp2;go_ret;exact⟨_,rfl,HG.o.1,HG.o.2⟩
theorem Ue{L:List Nat}(h:Ql L)(k:Nat):Qc L/18446744073709551616^k=Qc (L.drop k):=by
 have h1:=Je L k;have h2:=Ja h k;have hp:0<18446744073709551616^k:=Nat.pow_pos (Nat.zero_lt_succ _);generalize 18446744073709551616^k=Q at *
 rw[h1,Nat.add_mul_div_left _ _ hp,Nat.div_eq_of_lt h2,Nat.zero_add]
theorem Hv{y x s R a b:Nat}(hR:R=a*b)(ha:a=2^s)(z:Nat)(hy:y<R):(y+R*(x+R*z))/a%R=y/a+x*b%R:=by
 have hap:0<a:=by rw[ha];exact Nat.two_pow_pos s
 have e1:y+R*(x+R*z)=y+a*(b*(x+R*z)):=by rw[<-Nat.mul_assoc,<-hR]
 rw[e1,Nat.add_mul_div_left _ _ hap];have e2:b*(x+R*z)=x*b+R*(b*z):=by rw[Nat.mul_add,Nat.mul_comm b x,Nat.mul_left_comm]
 rw[e2,<-Nat.add_assoc,Nat.add_mul_mod_self_left];have h1:y/a<b:=by rw[hR]at hy;exact Nat.div_lt_of_lt_mul hy
 have h2:x*b%R=x%a*b:=by rw[hR,Nat.mul_mod_mul_right]
 rw[Nat.add_mod,h2,Nat.mod_eq_of_lt (a:=y/a)]
 .have h3:x%a<a:=Nat.mod_lt _ hap;have h4:(x%a+1)*b<=a*b:=Nat.mul_le_mul_right _ h3;rw[Nat.add_mul,Nat.one_mul,<-hR]at h4;exact Nat.mod_eq_of_lt (by omega)
 .have:b<=R:=by rw[hR];exact Nat.le_mul_of_pos_left _ hap
  omega
theorem Qaq{L:List Nat}(h:Ql L){p q i:Nat}(hp:p<=64):Qc L/2^(64*q+p)/18446744073709551616^i%18446744073709551616=dg L (q+i)/2^p+dg L (q+i+1)*2^(64-p)%18446744073709551616:=by
 have e1:Qc L/2^(64*q+p)/18446744073709551616^i=Qc L/18446744073709551616^(q+i)/2^p:=by rw[Wf,Wf,Nat.div_div_eq_div_mul,Nat.div_div_eq_div_mul,<-Nat.pow_add,<-Nat.pow_add];congr 2;omega
 rw[e1,Ue h,Zw,Zw];refine Hv (s:=p) (a:=2^p) (b:=2^(64-p)) ?_ rfl _ (Qy h _);rw[<-Nat.pow_add,show p+(64-p)=64 by omega]
theorem Qar{L:List Nat}(h:Ql L){p q i:Nat}(hp:p<=64):Qc L*2^(64*q+p)/18446744073709551616^i%18446744073709551616=Ws L ((i:Int)-q-1)/2^(64-p)+Ws L ((i:Int)-q)*2^p%18446744073709551616:=by
 have hRp:(18446744073709551616:Nat)=2^64:=by decide
 rcases Nat.lt_trichotomy i q with hi|hi|hi
 .have z1:Ws L ((i:Int)-q-1)=0:=by unfold Ws;rw[if_pos (by omega)]
  have z2:Ws L ((i:Int)-q)=0:=by unfold Ws;rw[if_pos (by omega)]
  rw[z1,z2,Nat.zero_div,Nat.zero_mul,Nat.zero_mod];obtain⟨d,rfl⟩:∃d,q=i+(d+1):=⟨q-i-1,by omega⟩
  rw[show 64*(i+(d+1))+p=64*i+(64+(64*d+p))by omega,Nat.pow_add,Nat.pow_add,Wf,Nat.mul_left_comm,Nat.mul_div_cancel_left _ (Nat.two_pow_pos _),<-Nat.mul_assoc,Nat.mul_comm (Qc L),Nat.mul_assoc,<-hRp];exact Nat.mul_mod_right _ _
 .subst hi;have z1:Ws L ((i:Int)-i-1)=0:=by unfold Ws;rw[if_pos (by omega)]
  have z2:Ws L ((i:Int)-i)=dg L 0:=by rw[Int.sub_self];exact Vg L 0
  rw[z1,z2,Nat.zero_div,Nat.zero_add,Nat.pow_add,Wf,Nat.mul_left_comm,Nat.mul_div_cancel_left _ (Nat.two_pow_pos _)];have:=Zw L 0;rw[List.drop_zero]at this;rw[this,Nat.add_mul,Nat.mul_assoc,Nat.add_mul_mod_self_left]
 .obtain⟨j,rfl⟩:∃j,i=q+(j+1):=⟨i-q-1,by omega⟩
  have z1:Ws L (((q+(j+1):Nat):Int)-q-1)=dg L j:=by rw[show((q+(j+1):Nat):Int)-q-1=(j:Int)by omega];exact Vg L j
  have z2:Ws L (((q+(j+1):Nat):Int)-q)=dg L (j+1):=by rw[show((q+(j+1):Nat):Int)-q=((j+1:Nat):Int)by omega];exact Vg L (j+1)
  rw[z1,z2];have e1:Qc L*2^(64*q+p)/18446744073709551616^(q+(j+1))=Qc L/18446744073709551616^j/2^(64-p):=by rw[Wf,Wf,Nat.div_div_eq_div_mul,<-Nat.pow_add,show 64*(q+(j+1))=64*j+(64-p)+(64*q+p)by omega,Nat.pow_add 2 (64*j+(64-p))];exact Nat.mul_div_mul_right _ _ (Nat.two_pow_pos _)
  rw[e1,Ue h,Zw,Zw];refine Hv (s:=64-p) (a:=2^(64-p)) (b:=2^p) ?_ rfl _ (Qy h _);rw[<-Nat.pow_add,show 64-p+p=64 by omega]
theorem Gz{a b t:Nat}(ha:a<2^t):2^t*b ||| a=2^t*b+a:=(Nat.two_pow_add_eq_or_of_lt ha b).symm
theorem Xq.mod{n:Nat}{w wr:World}{out:Value}{O:List Nat}{k M:Nat}(h:Xq n w wr out O k)(hk:k<n)(hs:Qc O=M%18446744073709551616^k):Qc (O.set k (M/18446744073709551616^k%18446744073709551616))=M%18446744073709551616^(k+1):=by rw[h.val hk,hs,Nat.mod_pow_succ]
end Go.Proofs.YtobpioceopfkpaaGreatDoor
