/-
  Lemmas for WholeCompare (part 4); without conditions.
-/
import Derived.RangeFuncNested
import Derived.RangeFuncBound
import Derived.RangeFuncCalls
import Derived.RangeFuncLeaves
import Derived.RangeFuncBox
import Derived.Shelf.Abstract
import Derived.Shelf.RegionOpen
import Derived.OwnWalkIn
import Derived.TacticsInMore
import Derived.LoopNIn
import Derived.LoopIn
import Derived.Deep.DeepCutAuto
import Derived.Deep.CutRange
import Derived.Deep.RegionWith
import Derived.Deep.RegionHeld3
import Derived.Test.YtobpioceopfkpaaGreatDoorM01
set_option maxRecDepth 100000
set_option maxHeartbeats 4000000
namespace Go.Proofs.YtobpioceopfkpaaGreatDoor
open Go.RowKit
open World (setCell alloc drew)
open List (set_cons_zero set_cons_succ setIfInBounds_toArray cons_append nil_append)
open Go.Shelf
attribute [local go_sem] Oper.semAt_some
def dn(N k:Nat):List { i:Nat // i<N }:=if h:0<N then(List.range k).map fun j=>⟨N-1-j,by omega⟩else []
theorem El{N k:Nat}(h:0<N):dn N (k+1)=dn N k++[⟨N-1-k,by omega⟩]:=by unfold dn;rw[dif_pos h,dif_pos h,List.range_succ,List.map_append];rfl
theorem Hs{N k:Nat}(h:0<N):(dn N k).length=k:=by unfold dn;rw[dif_pos h];simp
theorem Qgq(N:Nat):dn N 0=[]:=by unfold dn;split<;>rfl
theorem Qbm{N k:Nat}(h:0<N){i:Nat}(hi:i<N)(hk:N<=i+k):(⟨i,hi⟩:{ i:Nat // i<N })∈dn N k:=by unfold dn;rw[dif_pos h];exact List.mem_map.2 ⟨N-1-i,List.mem_range.2 (by omega),by congr 1;omega⟩
abbrev Qdg(L:List Nat)(x:{ i:Nat // i<L.length }):Array Value:=#[.int .i64 ((x.1:Nat):Int),.int .u64 ((dg L x.1:Nat):Int)]
theorem Qdr(F:Fence)(n:Nat)(hf:F.fn 146)(hro:F.round=none)(hn:1<=n)(l Bs n₀ b off cap:Nat)(L:List Nat)(hL0:0<L.length)(hreach:L.length<=1000000)(hb:b<n₀)(J Jx:List { i:Nat // i<L.length }->World->Prop)
  (hY:∀pre x W,J pre W->pre.length<L.length->YieldAt F (n-1) Tryz.prog l (Qdg L x) W fun e W' =>
   (e=.returned (.bool true)/\J (pre++[x]) W'/\Below n₀ W W')\/(e=.returned (.bool false)/\Jx (pre++[x]) W'))
  (W:World) (hBn:Bs<n₀) (hBs:W.cell? ⟨Bs,0,none⟩=some (.slice (some ⟨b,off,none⟩) L.length cap)) (hc:∀(j x:Nat),L[j]?=some x->W.cell? ⟨b,off+j,none⟩=some (.int .u64 (x:Int))) (h0:J [] W) :
  CallsIn F n Tryz.prog 146 #[.func (.yield l) #[] #[],.pointer (some ⟨Bs,0,none⟩)] W fun e W'=>(∃v,e=.returned v) /\
   ((∃ys,ys=dn L.length L.length/\J ys W')\/(∃pre,(∃k,k<=L.length/\pre=dn L.length k)/\Jx pre W')):=by
 refine callsIn_of_wp Tryz.func146 rfl hf ?_ hro;simp only[Tryz.ntmps146,List.size_toArray,List.length_cons,List.length_nil,Nat.reduceAdd,Nat.reduceSub,Array.replicate_succ,Array.replicate_zero,List.push_toArray,List.append_toArray,nil_append,cons_append];gi_wp2
 gi_loopw [3] (fun i wr=>∃k:Nat,k<=L.length/\i=.int .i64 ((L.length:Int)-1-k)/\J (dn L.length k) wr/\Below n₀ W wr)
  (fun i _=>(intOf i+1).toNat)
 case atStart=>exact⟨0,Nat.zero_le _,by simp,by rw[Qgq];exact h0,Below.refl _ _⟩
 case round =>
  obtain⟨k,hk,rfl,hJs,hnx⟩:=hrel;by_cases hlt:k<L.length
  .obtain⟨j,hj⟩:∃j,j=L.length-1-k:=⟨_,rfl⟩
   have hji:(L.length:Int)-1-k=j:=by omega
   rw[hji];have hjl:j<L.length:=by omega
   have hcx:wr.cell? ⟨b,off+j,none⟩=some (.int .u64 (dg L j:Nat)):=(hnx.cell (p:=⟨b,off+j,none⟩) hb).trans (hc j _ (Qu (by omega)));have hbx:wr.cell? ⟨Bs,0,none⟩=some (.slice (some ⟨b,off,none⟩) L.length cap):=(hnx.cell (p:=⟨Bs,0,none⟩) hBn).trans hBs;obtain⟨fn,tmps,assign,body,hy,hR⟩:=hY _ ⟨j,hjl⟩ wr hJs (by rw[Hs hL0];exact hlt)
   (try dsimp only[Qdg]at hy)
   have HS:Qb (dn L.length (k+1)=dn L.length k++[⟨j,hjl⟩]):=by have:=El (k:=k) hL0;rw[Qb,this];congr 3;exact hj.symm
   clear hj;gi_wp2;refine hR.mono ?_;rintro e W3 (⟨rfl,hJ3,hk3⟩|⟨rfl,hJx3⟩)
   .gi_wp2;go_roundw
    case rel=>exact⟨k+1,by omega,by first|rfl|(congr 1<;>omega)|skip,HS.o▸hJ3,hnx.trans hk3⟩
    case measure=>simp[intOf]<;>omega
   .gi_wp2;refine bodyPost_ret (results_none rfl _ _ _) rfl ?_;exact⟨⟨_,rfl⟩,.inr ⟨_,⟨k+1,by omega,HS.o.symm⟩,hJx3⟩⟩
  .obtain rfl:k=L.length:=by omega
   rw[show(L.length:Int)-1-L.length=-1 by omega];gi_wp2
   go_end0
   exact⟨⟨_,rfl⟩,.inl ⟨_,rfl,hJs⟩⟩
theorem Qds(F:Fence)(n:Nat)(hf:F.fn 146)(hro:F.round=none)(l Bs cap:Nat)(a:Option Addr)(J:List { i:Nat // i<([]:List Nat).length }->World->Prop)
  (W:World) (hBs:W.cell? ⟨Bs,0,none⟩=some (.slice a 0 cap)) (h0:J [] W) :
  CallsIn F n Tryz.prog 146 #[.func (.yield l) #[] #[],.pointer (some ⟨Bs,0,none⟩)] W fun e W'=>(∃v,e=.returned v)/\J [] W':=by
 refine callsIn_of_wp Tryz.func146 rfl hf ?_ hro;simp only[Tryz.ntmps146,List.size_toArray,List.length_cons,List.length_nil,Nat.reduceAdd,Nat.reduceSub,Array.replicate_succ,Array.replicate_zero,List.push_toArray,List.append_toArray,nil_append,cons_append];gi_wp2
 gi_loopw [3] (fun i wr=>i=.int .i64 (-1)/\J [] wr) (fun _ _=>0)
 case atStart=>exact⟨rfl,h0⟩
 case round =>
  obtain⟨rfl,hJs⟩:=hrel;gi_wp2
  go_end0
  exact⟨⟨_,rfl⟩,hJs⟩
theorem Iw(F:Fence)(n:Nat)(hf:F.fn 146)(hro:F.round=none)(hn:1<=n)(Bs n₀ cap:Nat)(a:Option Addr)(L:List Nat)(hreach:L.length<=1000000)(w:World)(hBs:Bs<n₀)(hn₀:n₀<=w.heap.size)
  (hc:w.cell? ⟨Bs,0,none⟩=some (.slice a L.length cap)) (hd:0<L.length->∃b off,a=some ⟨b,off,none⟩/\∀(j x:Nat),L[j]?=some x->w.cell? ⟨b,off+j,none⟩=some (.int .u64 (x:Int))) :
  SeqStopsK F n Tryz.prog 146 #[.pointer (some ⟨Bs,0,none⟩)] (Qdg L) (Below w.heap.size) (fun ys=>ys=dn L.length L.length) (fun pre=>∃k,k<=L.length/\pre=dn L.length k) L.length w:=fun l J Jx W hW _ _ hY h0=>by
 rcases Nat.eq_zero_or_pos L.length with hz|hp
 .obtain rfl:L=[]:=List.eq_nil_of_length_eq_zero hz;refine(Qds F n hf hro l Bs cap a J W ((hW.cell (p:=⟨Bs,0,none⟩) (Nat.lt_of_lt_of_le hBs hn₀)).trans hc) h0).mono ?_;rintro e W' ⟨h1,h2⟩;exact⟨h1,.inl ⟨_,rfl,h2⟩⟩
 .obtain⟨b,off,rfl,hd2⟩:=hd hp;have hbl:b<w.heap.size:=Wu (hd2 0 _ (Qu hp));exact Qdr F n hf hro hn l Bs w.heap.size b off cap L hp hreach hbl J Jx hY W (Nat.lt_of_lt_of_le hBs hn₀) ((hW.cell (p:=⟨Bs,0,none⟩) (Nat.lt_of_lt_of_le hBs hn₀)).trans hc) (fun j x hx=>(hW.cell (p:=⟨b,off+j,none⟩) (Wu (hd2 j x hx))).trans (hd2 j x hx)) h0
theorem Ct(a:Option Addr)(len cap:Nat)(w:World) :
  Calls Tryz.prog 111 #[.slice a len cap] w fun e w'=>e=.returned (.func (.func 146) #[] #[.pointer (some ⟨w.heap.size,0,none⟩)])/\w'=w.alloc (.cells #[.slice a len cap] 40):=by
 go_enter Tryz.func111,Tryz.ntmps111;go_wp2;go_ret;exact⟨rfl,rfl⟩
theorem Dg.form{w:World}{v:Value}{n:Nat}(h:Dg w v n):∃a k c,v=.slice a k c:=by obtain⟨L,h1,_⟩:=h;obtain⟨a,c,rfl,_⟩:=h1.sl;exact⟨_,_,_,rfl⟩
theorem Qr.drew{w:World}{v:Value}{L:List Nat}(h:Qr w v L):Qr w.drew v L:=⟨h.tab,h.sl,h.digs,h.cap⟩
theorem Dg.drew{w:World}{v:Value}{n:Nat}(h:Dg w v n):Dg w.drew v n:=by obtain⟨L,h1,h2⟩:=h;exact⟨L,h1.drew,h2⟩
theorem Zf.len_le{A L:List Nat}(h:Zf A (Qc L))(d:Ql L):A.length<=L.length:=by apply Nat.le_of_not_lt;intro hlt;have h1:=h.top (by intro he;subst he;simp at hlt);have h2:=J0 d;have h3:=Vc (show L.length<=A.length-1 by omega);exact Nat.lt_irrefl _ (Nat.lt_of_lt_of_le h2 (Nat.le_trans h3 h1))
structure Zz(x y:Value)(w wr:World):Prop where
 x:Qi wr w.heap.size 40 #[x]
 y:Qi wr (w.heap.size+1) 40 #[y]
 r:Qi wr (w.heap.size+2) 3 #[.int .i64 0]
 b:Below w.heap.size w wr
theorem Zz.below{x y:Value}{w wr w':World}(h:Zz x y w wr)(hb:Below wr.heap.size wr w'):Zz x y w w':=⟨h.x.below hb,h.y.below hb,h.r.below hb,h.b.trans (hb.mono h.b.size)⟩
theorem Zz.alloc{x y:Value}{w wr:World}(h:Zz x y w wr)(o:Obj):Zz x y w (wr.alloc o):=⟨h.x.alloc o,h.y.alloc o,h.r.alloc o,h.b.alloc h.b.size o⟩
theorem Zz.drew{x y:Value}{w wr:World}(h:Zz x y w wr):Zz x y w wr.drew:=⟨h.x,h.y,h.r,Qw h.b 1⟩
theorem Zz.start(x y:Value)(w:World):Zz x y w (((w.alloc (.cells #[x] 40)).alloc (.cells #[y] 40)).alloc (.cells #[.int .i64 0] 3)):=by
 refine⟨((Qi.new w 40 _).alloc _).alloc _,?_,?_,(((Below.refl _ _).alloc (Nat.le_refl _) _).alloc (by simp) _).alloc (by simp;omega) _⟩
 .have:=Qi.new (w.alloc (.cells #[x] 40)) 40 #[y];rw[show(w.alloc (.cells #[x] 40)).heap.size=w.heap.size+1 by simp]at this;exact this.alloc _
 .have:=Qi.new ((w.alloc (.cells #[x] 40)).alloc (.cells #[y] 40)) 3 #[.int .i64 0];rwa[show((w.alloc (.cells #[x] 40)).alloc (.cells #[y] 40)).heap.size=w.heap.size+2 by simp]at this
theorem Zz.cells{x y:Value}{w wr:World}(h:Zz x y w wr):wr.cell? ⟨w.heap.size,0,none⟩=some x/\wr.cell? ⟨w.heap.size+1,0,none⟩=some y/\wr.cell? ⟨w.heap.size+2,0,none⟩=some (.int .i64 0) /\
  wr.frozen? ⟨w.heap.size,0,none⟩=false/\wr.frozen? ⟨w.heap.size+1,0,none⟩=false/\wr.frozen? ⟨w.heap.size+2,0,none⟩=false :=
 ⟨h.x.at 0 x rfl,h.y.at 0 y rfl,h.r.at 0 (.int .i64 0) rfl,h.x.frozen 0,h.y.frozen 0,h.r.frozen 0⟩
theorem Zz.set{x y x' y':Value}{w wr:World}(h:Zz x y w wr):Zz x' y' w ((wr.setCell ⟨w.heap.size,0,none⟩ x').setCell ⟨w.heap.size+1,0,none⟩ y') :=
 ⟨(h.x.set 0 x').far (by simp) _,(h.y.far (by simp) _).set 0 y',(h.r.far (by simp) _).far (by simp) _,(h.b.setCell (Nat.le_refl _) _).setCell (Nat.le_succ _) _⟩
theorem Qq.keep{w w':World}(h:Qq w)(hk:∀p u,w.cell? p=some u->w'.cell? p=some u):Qq w':=fun j hj=>hk _ _ (h j hj)
theorem Qr.keep{w w':World}{v:Value}{L:List Nat}(h:Qr w v L)(hk:∀p u,w.cell? p=some u->w'.cell? p=some u):Qr w' v L:=⟨h.tab.keep hk,h.sl.keep hk,h.digs,h.cap⟩
theorem Qr.set{w:World}{v:Value}{L:List Nat}{g:Nat}{u x:Value}{t:TypeId}(h:Qr w v L)(hg:Qi w g t #[x])(hx:∀k z,x=.int k z->k=.i64):Qr (w.setCell ⟨g,0,none⟩ u) v L:=by
 have key:∀b o k z,(k=.u8\/k=.u64)->w.cell? ⟨b,o,none⟩=some (.int k z)->(w.setCell ⟨g,0,none⟩ u).cell? ⟨b,o,none⟩=some (.int k z):=by
  intro b o k z hk hc;rw[World.cell?_setCell_other]
  .exact hc
  .intro he;injection he with e1 e2;subst e1 e2;have:=hg.at 0 x rfl;rw[hc]at this;have:=hx _ _ (Option.some.inj this).symm;rcases hk with rfl|rfl<;>cases this
 refine⟨fun j hj=>key _ _ _ _ (.inl rfl) (h.tab j hj),?_,h.digs,h.cap⟩;obtain⟨a,c,rfl,hc⟩:=h.sl;refine⟨a,c,rfl,fun hl=>?_⟩;obtain⟨b,off,rfl,hc2⟩:=hc hl;refine⟨b,off,rfl,fun i y hy=>?_⟩;have h1:=hc2 i y hy;rw[Qz,List.getElem?_map]at hy;obtain⟨d,_,rfl⟩:=Option.map_eq_some_iff.1 hy;exact key _ _ _ _ (.inr rfl) h1
theorem Dg.set{w:World}{v:Value}{n:Nat}{g:Nat}{u x:Value}{t:TypeId}(h:Dg w v n)(hg:Qi w g t #[x])(hx:∀k z,x=.int k z->k=.i64):Dg (w.setCell ⟨g,0,none⟩ u) v n:=by obtain⟨L,h1,h2⟩:=h;exact⟨L,h1.set hg hx,h2⟩
theorem Qr.notint{w:World}{v:Value}{L:List Nat}(h:Qr w v L):∀k z,v=.int k z->k=.i64:=by obtain⟨a,c,rfl,_⟩:=h.sl;intro k z he;cases he
def Qjs(m n:Nat)(w wx:World):Prop:=∃x y,Zz x y w wx/\Dg wx x m/\Dg wx y n
theorem Qlg{m n:Nat}{u v x y:Value}{w V:World}(h:Zz u v w V)(hu:∀k z,u=.int k z->k=.i64)(hv:∀k z,v=.int k z->k=.i64)(hx:Dg V x m)(hy:Dg V y n):Qb (Qjs m n w ((V.setCell ⟨w.heap.size,0,none⟩ x).setCell ⟨w.heap.size+1,0,none⟩ y)) :=
 ⟨x,y,h.set,(hx.set h.x hu).set (h.y.far (by simp) _) hv,(hy.set h.x hu).set (h.y.far (by simp) _) hv⟩
theorem Hr{A B:List Nat}(hl:A.length=B.length){i:Nat}(h:∀j,i<=j->j<A.length->dg A j=dg B j):A.drop i=B.drop i:=by
 apply List.ext_getElem?;intro j;rw[List.getElem?_drop,List.getElem?_drop];by_cases hj:i+j<A.length
 .rw[Qu hj,Qu (by omega),h _ (by omega) hj]
 .rw[List.getElem?_eq_none (by omega),List.getElem?_eq_none (by omega)]
theorem Qdn{A B:List Nat}{m n:Nat}(cA:Zf A m)(cB:Zf B n)(hl:A.length=B.length)(h:∀p∈dn A.length A.length,dg A p.1=dg B p.1):Qm m n=0:=by have:A.drop 0=B.drop 0:=Hr hl fun j _ hj=>h ⟨j,hj⟩ (Qbm (by omega) hj (by omega));rw[List.drop_zero,List.drop_zero]at this;exact G9 (by rw[<-cA.val,<-cB.val,this])
theorem Qdl{A B:List Nat}{m n k:Nat}(cA:Zf A m)(cB:Zf B n)(hl:A.length=B.length){ini:List { i:Nat // i<A.length }}{last:{ i:Nat // i<A.length }}(he:dn A.length k=ini++[last])
  (h:∀p∈ini,dg A p.1=dg B p.1) (hne:dg A last.1≠dg B last.1):Xb (dg A last.1) (dg B last.1)=Qm m n:=by
 have hp:0<A.length:=Nat.lt_of_le_of_lt (Nat.zero_le _) last.2;have hk:k=ini.length+1:=by have:=congrArg List.length he;rw[Hs hp,List.length_append]at this;exact this
 rw[hk,El hp]at he;obtain⟨e1,e2⟩:=List.append_inj' he rfl;have e3:last.1=A.length-1-ini.length:=by have:=List.head_eq_of_cons_eq e2;rw[<-this]
 have hd:A.drop (last.1+1)=B.drop (last.1+1):=Hr hl fun j h1 h2=>h ⟨j,h2⟩ (by rw[<-e1];exact Qbm hp h2 (by omega));have hd':Qc (A.drop (last.1+1))=Qc (B.drop (last.1+1)):=by rw[hd]
 rcases Nat.lt_or_gt_of_ne hne with hlt|hgt
 .have:=Py cA.digs hd' hlt;rw[cA.val,cB.val]at this;rw[Yc this,Ta (by omega)]
 .have:=Py cB.digs hd'.symm hgt;rw[cA.val,cB.val]at this;rw[Ug this,Tb (by omega)]
theorem Em{x y:Nat}{c:Int}(h:c=Xb (x:Int) (y:Int))(hc:¬c=0):x≠y:=by rintro rfl;exact hc (h.trans (Rm rfl))
theorem Qbu{x y:Nat}(h:0=Xb (x:Int) (y:Int)):x=y:=by
 rcases Nat.lt_trichotomy x y with h1|h1|h1
 .rw[Ta (by omega)]at h;omega
 .exact h1
 .rw[Tb (by omega)]at h;omega
attribute [local go_sem] Oper.semAt_some
theorem G6{L K:List Nat}{u v:Value}{w:World}(h:Qr w u L)(k:Qr w v K)(hl:L.length<=100000)(kl:K.length<=100000) :
  Calls Tryz.prog 73 #[u,v] w fun e w'=>e=.returned (.int .i64 (Qm (Qc L) (Qc K)))/\Below w.heap.size w w':=by
 have HM:=h_ (Zz.start u v w);have HU:=h_ h;have HV:=h_ k;have C1:Qb (∀w',Qr w' u L->Calls Tryz.prog 70 #[u] w' (J2 (Qc L) w')):=fun w' h=>Xp h (by omega);have C2:Qb (∀w',Qr w' v K->Calls Tryz.prog 70 #[v] w' (J2 (Qc K) w')):=fun w' h=>Xp h (by omega);have LA:Qb (∀A,Zf A (Qc L)->A.length<=100000):=fun A hA=>Nat.le_trans (hA.len_le h.digs) hl;have N1:=h_ h.notint;have N2:=h_ k.notint;obtain⟨la,lc,rfl,-⟩:=h.sl.form;obtain⟨ka,kc,rfl,-⟩:=k.sl.form;clear h k;generalize Qc L=m at *
 generalize Qc K=n at *
 refine callsIn_wide.1 (callsIn_of_wp_marks (F:=Fence.wide) (n:=9) Tryz.func73 rfl trivial ?_ rfl);refine wpIn_wide.2 ?_;simp only[Tryz.ntmps73,List.size_toArray,List.length_cons,List.length_nil,Nat.reduceAdd,Nat.reduceSub,Array.replicate_succ,Array.replicate_zero,List.push_toArray,List.append_toArray,nil_append,cons_append];go_upto_region 1 with(fail)
 generalize (alloc (alloc (alloc _ _) _) _)=w1 at HM |-;have HR1:=h_ (HU.o.below HM.o.b);have HR2:=h_ (HV.o.below HM.o.b);go_cut []from 8 to 11 (fun wx=>Qb (Qjs m n w wx))
 case first =>
  obtain⟨x0,x1,x2,x3,x4,x5⟩:=HM.o.cells;obtain⟨y0,y1,y2,y3,y4,y5⟩:=HM.o.drew.cells;have D0:=h_ HM.o.drew;go_region_with (first|(have RR:=D1.o;go_at_call 70;(with_reducible refine(C2.o _ (Qr.below (Qr.drew HR2.o) S1.o)).mono ?_);rintro qq v2 ⟨u2,rfl,hu2,hb⟩;obtain⟨a2,l2,c2,rfl⟩:=hu2.form;have D2:=h_ (RR.below hb);have G1:=h_ (Dg.below U1.o hb);have G2:=h_ hu2;obtain⟨b0,b1,b2,b3,b4,b5⟩:=D2.o.cells;clear hb RR hu2)|(have RR:=D0.o;go_at_call 70;(with_reducible refine(C1.o _ (Qr.drew HR1.o)).mono ?_);rintro qq v1 ⟨u1,rfl,hu1,hb⟩;obtain⟨p1,l1,c1,rfl⟩:=hu1.form;have D1:=h_ (RR.below hb);have U1:=h_ hu1;have S1:=h_ hb;obtain⟨a0,a1,a2,a3,a4,a5⟩:=D1.o.cells;clear hb RR hu1))
  all_goals go_wp2_with fail
  all_goals go_meet
  all_goals exact Qlg D2.o N1.o N2.o G1.o G2.o
 case rest =>
  obtain⟨x,y,hM,⟨A,hA,cA⟩,⟨B,hB,cB⟩⟩:=hcut.o;rename_i wc;obtain⟨a1,c1,rfl,hcA⟩:=hA.sl.form;obtain⟨a2,c2,rfl,hcB⟩:=hB.sl.form;have HM2:=h_ hM;obtain⟨x0,x1,x2,x3,x4,x5⟩:=hM.cells;have HA:=h_ hA;have HB:=h_ hB;have CA:=h_ cA;have CB:=h_ cB;clear hcut hM hA hB cA cB HM HU HV C1 C2 N1 N2 HR1 HR2;rcases Nat.lt_trichotomy A.length B.length with hlt|heq|hgt
  .have hr:Qb (Qm m n=-1):=Yc (CA.o.len_lt CB.o hlt);have hc:Xb (A.length:Int) (B.length:Int)=-1:=Ta (by omega);go_wp2_with fail;refine(Pn _ _ _).mono ?_;rintro e w2 ⟨rfl,rfl⟩;rw[hc];go_wp2;have g0:(wc.setCell ⟨w.heap.size+1+1,0,none⟩ (.int .i64 (-1))).cell? ⟨w.heap.size+1+1,0,none⟩=some (.int .i64 (-1)):=(HM2.o.r.set 0 (.int .i64 (-1))).at 0 _ rfl;exact⟨.int .i64 (Qm m n),by simp[results,Tryz.f73,go_sem,hr.o,g0],rfl,HM2.o.b.setCell (by simp;omega) _⟩
  .have HEQ:=h_ heq;have hal:=h_ (LA.o _ CA.o);rw[heq]at x0 HM2 HA hcA;clear heq;have hc:Xb (B.length:Int) (B.length:Int)=0:=Rm rfl;go_wp2_with fail;refine(Pn _ _ _).mono ?_;rintro e w2 ⟨rfl,rfl⟩;rw[hc];go_wp2_with fail;refine(Ct _ _ _ _).mono ?_;rintro e w2 ⟨rfl,rfl⟩;go_wp2_with fail;have BX:=Qi.new wc 40 #[.slice a1 B.length c1];have HM3:=h_ (HM2.o.alloc (.cells #[.slice a1 B.length c1] 40));have HA3:=h_ (HA.o.alloc (.cells #[.slice a1 B.length c1] 40));have HB3:=h_ (HB.o.alloc (.cells #[.slice a1 B.length c1] 40));have hw0:w.heap.size+2<wc.heap.size:=HM2.o.r.lt;have hbx:(wc.alloc (.cells #[.slice a1 B.length c1] 40)).cell? ⟨wc.heap.size,0,none⟩=some (.slice a1 A.length c1):=by rw[HEQ.o];exact BX.at 0 _ rfl
   have hsz:(wc.alloc (.cells #[.slice a1 B.length c1] 40)).heap.size=wc.heap.size+1:=by simp
   have hda:0<A.length->∃b off,a1=some ⟨b,off,none⟩/\∀(j x:Nat),A[j]?=some x->(wc.alloc (.cells #[.slice a1 B.length c1] 40)).cell? ⟨b,off+j,none⟩=some (.int .u64 (x:Int)):=by intro hp;rw[HEQ.o]at hp;obtain⟨b,off,e,h⟩:=hcA hp;exact⟨b,off,e,fun j x hx=>Kk _ _ _ (h j x hx)⟩
   generalize wc.alloc (.cells #[.slice a1 B.length c1] 40)=wd at *
   refine wpIn_wide.1 (wpIn_rangeFunc_ownF (F:=Fence.wide) (n:=9) rfl (by omega) (gf:=146) (lb:=#[.pointer (some ⟨wc.heap.size,0,none⟩)]) rfl trivial (enters_of Tryz.func146 (by kernel_rfl) rfl)
    (Iw Fence.wide 8 trivial rfl (by omega) wc.heap.size wd.heap.size c1 a1 A (by have:=hal.o;omega) wd (by omega) (Nat.le_refl _) hbx hda) belowK_t (belowK_b (Nat.le_refl _)) (Below.refl _ _) (fun _=>rfl)
    (fun pre W=>((∀p∈pre,dg A p.1=dg B p.1)/\(W.cell? ⟨w.heap.size,0,none⟩=some (.slice a1 B.length c1)/\W.cell? ⟨w.heap.size+1,0,none⟩=some (.slice a2 B.length c2)/\W.cell? ⟨w.heap.size+1+1,0,none⟩=some (.int .i64 0)/\W.frozen? ⟨w.heap.size+1+1,0,none⟩=false)/\Qr W (.slice a1 B.length c1) A/\Qr W (.slice a2 B.length c2) B)/\Below w.heap.size w W)
    (fun c pre W=>(c=.ret/\∃ini last,pre=ini++[last]/\(∀p∈ini,dg A p.1=dg B p.1)/\dg A last.1≠dg B last.1/\W.cell? ⟨w.heap.size+1+1,0,none⟩=some (.int .i64 (Xb (dg A last.1) (dg B last.1))))/\Below w.heap.size w W)
    ?hI ?hIx ?h0 (fun x=>{ tmps:=#[.slice la L.length lc,.slice ka K.length kc,.pointer (some ⟨w.heap.size,0,none⟩),.pointer (some ⟨w.heap.size+1,0,none⟩),.pointer (some ⟨w.heap.size+1+1,0,none⟩),.int .i64 0,.int .i64 ((x.1:Nat):Int),undef,u8,u9,u10,u11,.slice a1 B.length c1,.int .i64 (B.length:Int),.slice a2 B.length c2,.int .i64 (B.length:Int),.int .i64 0,.int .i64 0,.bool false,undef,.slice a1 B.length c1,
     .func (.func 146) #[] #[.pointer (some ⟨wc.heap.size,0,none⟩)],.int .i64 ((x.1:Nat):Int),.int .u64 ((dg A x.1:Nat):Int),undef,undef,undef,undef,undef,undef,undef,undef,undef,undef,undef,undef],defers:=[] }) ?assign ?body ?done ?stop)
   case hI =>refine OwnFrom.and (Own.from (fun s W W' row hs hg hr=>?_) _) (ownFrom_below (Nat.le_refl _) (by have:=HM3.o.b.size;omega));have hk:∀p u,W.cell? p=some u->W'.cell? p=some u:=fun p u h=>cell_kept h hg hr;obtain⟨h1,⟨h2,h3,h4,h5⟩,h6,h7⟩:=hs;exact⟨h1,⟨hk _ _ h2,hk _ _ h3,hk _ _ h4,(frozen_kept h4 hg hr).trans h5⟩,h6.keep hk,h7.keep hk⟩
   case hIx =>intro c;refine OwnFrom.and (Own.from (fun s W W' row hs hg hr=>?_) _) (ownFrom_below (Nat.le_refl _) (by have:=HM3.o.b.size;omega));obtain⟨h1,ini,last,h2,h3,h4,h5⟩:=hs;exact⟨h1,ini,last,h2,h3,h4,cell_kept h5 hg hr⟩
   case h0 =>obtain⟨g0,g1,g2,-,-,g5⟩:=HM3.o.cells;exact⟨⟨by simp,⟨g0,g1,g2,g5⟩,HA3.o,HB3.o⟩,HM3.o.b⟩
   case assign =>intro l x W K hK;gi_wp2;exact hK
   case body =>
    rintro l pre ⟨i,hi⟩ W ⟨⟨h1,⟨g0,g1,g2,g5⟩,rA,rB⟩,hb⟩ -
    have hiB:i<B.length:=by rw[<-HEQ.o];exact hi
    obtain⟨p1,q1,e1,hd1⟩:=rA.sl.form;obtain⟨p2,q2,e2,hd2⟩:=rB.sl.form;injection e1 with e10 e11 e12;injection e2 with e20 e21 e22;subst e10 e12 e20 e22;obtain⟨b1,o1,rfl,he1⟩:=hd1 (by omega);obtain⟨b2,o2,rfl,he2⟩:=hd2 (by omega);have d1:=he1 i _ (Qu hi);have d2:=he2 i _ (Qu hiB);have G0:W.drew.cell? ⟨w.heap.size,0,none⟩=_:=g0;have G1:W.drew.cell? ⟨w.heap.size+1,0,none⟩=_:=g1;have D1:W.drew.cell? ⟨b1,o1+i,none⟩=_:=d1;have D2:W.drew.cell? ⟨b2,o2+i,none⟩=_:=d2;clear hd1 hd2 he1 he2 e11 e21;dsimp only;obtain⟨y1,hy1⟩:∃y,y=dg A i:=⟨_,rfl⟩
    obtain⟨y2,hy2⟩:∃y,y=dg B i:=⟨_,rfl⟩
    rw[<-hy1]at d1 D1 |-;rw[<-hy2]at d2 D2;have HY1:=h_ hy1;have HY2:=h_ hy2;have RA:=h_ rA;have RB:=h_ rB;have H1:=h_ h1;have HBW:=h_ hb;clear rA rB hy1 hy2 h1 hb HA HB HM2 HM3 HA3 HB3 hda hcA hcB;have hmx:Tryz.prog.follows .mixedOrders=true:=by kernel_rfl
    have hd:1<=9-1-1:=by omega
    obtain⟨cc,hcc⟩:∃cc,cc=Xb (y1:Int) (y2:Int):=⟨_,rfl⟩
    have HC:=h_ hcc;have HG2:=h_ g2;have HG5:=h_ g5;have HG0:=h_ g0;have HG1:=h_ g1;clear hcc g0 g1 g2 g5 d1 d2 LA hal HEQ CA CB hbx hsz BX hc hl kl;gi_wp2
    gi_region_with_o (refine⟨trivial,?_⟩;gi_at_call 112;refine(CallsIn.inRound l (callsIn_wide.2 (Qgy _ _ _))).mono ?_;rintro e w' ⟨rfl,rfl⟩;rw[<-HC.o])
    all_goals(have w2:W.drew.cell? ⟨w.heap.size+1+1,0,none⟩=_:=HG2.o)
    all_goals(have w5:W.drew.frozen? ⟨w.heap.size+1+1,0,none⟩=false:=HG5.o)
    all_goals(by_cases hz:cc=0)
    all_goals first
     | (subst hz;gi_wp2;exact⟨KeepsOthers.drew _,Qw (Below.refl _ _) 1,⟨⟨fun p hp=>(List.mem_append.1 hp).elim (H1.o p) (fun e=>by simp at e;subst e;rw[<-HY1.o,<-HY2.o];exact Qbu HC.o),⟨HG0.o,HG1.o,HG2.o,HG5.o⟩,RA.o.drew,RB.o.drew⟩,Qw HBW.o 1⟩⟩)
     | (gi_wp2;exact⟨(KeepsOthers.setCell _ _ _).trans (KeepsOthers.drew _),⟨rfl,pre,⟨i,hi⟩,rfl,H1.o,by rw[<-HY1.o,<-HY2.o];exact Em HC.o hz,by rw[<-HY1.o,<-HY2.o,<-HC.o];exact World.cell?_setCell_same' _ _ _ (by rw[HG2.o];rfl)⟩,Qw (HBW.o.setCell (by simp;omega) _) 1⟩)
     | (gi_wp2;exact⟨(KeepsOthers.drew _).trans (KeepsOthers.setCell _ _ _),⟨rfl,pre,⟨i,hi⟩,rfl,H1.o,by rw[<-HY1.o,<-HY2.o];exact Em HC.o hz,by rw[<-HY1.o,<-HY2.o,<-HC.o];exact World.cell?_setCell_same' _ _ _ (by rw[w2];rfl)⟩,(Qw HBW.o 1).setCell (by simp;omega) _⟩)
     | (gi_wp2;trace_state)
   case done =>rintro D ys W hD rfl ⟨⟨h1,⟨g0,g1,g2,g5⟩,rA,rB⟩,hb⟩ hK;have hr:Qb (Qm m n=0):=Qdn CA.o CB.o HEQ.o h1;have HK:=h_ hK;have HBW:=h_ hb;have HG2:=h_ g2;have HD:=h_ hD;clear rA rB h1 hb hK hD HA HB HM2 HM3 HA3 HB3 hda hcA hcB;go_wp2;have hK':=(KeepsOthers.setCell W ⟨w.heap.size+1+1,0,none⟩ (.int .i64 0)).same D _ HK.o rfl;refine⟨by simp,.inl ⟨_,_,rfl,run_takeDeferred hK',?_⟩⟩;have hc5:=cell_kept (World.cell?_setCell_same' W ⟨w.heap.size+1+1,0,none⟩ (.int .i64 0) (by rw[HG2.o];rfl)) (grownBy_putObj' _ D (.deferred none)) (fun r e=>by cases e;exact⟨_,hK',rfl⟩);refine⟨.int .i64 (Qm m n),?_,rfl,(HBW.o.setCell (p:=⟨w.heap.size+1+1,0,none⟩) (by simp;omega) _).trans (belowK_b (w:=w) (Nat.le_refl _) _ D _ _ (by have:=HD.o;omega) hK' rfl rfl)⟩;rw[hr.o];simp[results,Tryz.f73,go_sem,hc5]
   case stop =>rintro D c pre W hD ⟨k,hk,rfl⟩ ⟨⟨rfl,ini,last,e1,e2,e3,hcr⟩,hB⟩ hK;have hr:Qb (Xb (dg A last.1) (dg B last.1)=Qm m n):=Qdl CA.o CB.o HEQ.o e1 e2 e3;rw[hr.o]at hcr;clear HA HB HM2 HM3 HA3 HB3 hda hcA hcB;gi_wp2;refine⟨by simp,.inl ⟨_,_,rfl,run_takeDeferred hK,?_⟩⟩;have hc5:=cell_kept hcr (grownBy_putObj' _ D (.deferred none)) (fun r e=>by cases e;exact⟨_,hK,rfl⟩);refine⟨.int .i64 (Qm m n),?_,rfl,hB.trans (belowK_b (w:=w) (Nat.le_refl _) W D _ _ (by omega) hK rfl rfl)⟩;simp[results,Tryz.f73,go_sem,hc5]
  .have hr:Qb (Qm m n=1):=Ug (CB.o.len_lt CA.o hgt);have hc:Xb (A.length:Int) (B.length:Int)=1:=Tb (by omega);go_wp2_with fail;refine(Pn _ _ _).mono ?_;rintro e w2 ⟨rfl,rfl⟩;rw[hc];go_wp2;have g0:(wc.setCell ⟨w.heap.size+1+1,0,none⟩ (.int .i64 1)).cell? ⟨w.heap.size+1+1,0,none⟩=some (.int .i64 1):=(HM2.o.r.set 0 (.int .i64 1)).at 0 _ rfl;exact⟨.int .i64 (Qm m n),by simp[results,Tryz.f73,go_sem,hr.o,g0],rfl,HM2.o.b.setCell (by simp;omega) _⟩
end Go.Proofs.YtobpioceopfkpaaGreatDoor
