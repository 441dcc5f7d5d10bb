/-
  Lemmas for WholeCompare (part 5); without conditions.
-/
import Derived.Test.YtobpioceopfkpaaGreatDoorM01
set_option maxRecDepth 100000
set_option maxHeartbeats 4000000
namespace Go.Proofs.YtobpioceopfkpaaGreatDoor.Rf
open Go.RowKit
open World (setCell alloc drew)
open List (set_cons_zero set_cons_succ setIfInBounds_toArray cons_append nil_append)
def Qc:List Nat->Nat
 | []=>0
 | x :: xs=>x+65536*Qc xs
theorem Kh(xs ys:List Nat):Qc (xs++ys)=Qc xs+65536^xs.length*Qc ys:=by
 induction xs with
 | nil=>simp[Qc]
 | cons x xs ih =>
  rw[cons_append,Qc,ih,Qc,List.length_cons,Nat.pow_succ,Nat.mul_add,Nat.add_assoc,Nat.mul_comm (65536^xs.length) 65536,Nat.mul_assoc]
theorem Wo(xs:List Nat)(d:Nat):Qc (xs++[d])=Qc xs+65536^xs.length*d:=by rw[Kh];simp[Qc]
def Ql(xs:List Nat):Prop:=∀d∈xs,d<65536
theorem J0{xs:List Nat}(h:Ql xs):Qc xs<65536^xs.length:=by
 induction xs with
 | nil=>simp[Qc]
 | cons x xs ih =>
  have h1:x<65536:=h x (by simp);have h2:=ih (fun d hd=>h d (by simp[hd]));rw[Qc,List.length_cons,Nat.pow_succ];omega
theorem Ql.get{xs:List Nat}(h:Ql xs){i x:Nat}(hx:xs[i]?=some x):x<65536:=h x (List.mem_of_getElem? hx)
theorem Ql.snoc{xs:List Nat}(h:Ql xs){d:Nat}(hd:d<65536):Ql (xs++[d]):=by
 intro x hx;rw[List.mem_append]at hx;rcases hx with hx|hx
 .exact h x hx
 .simp at hx;omega
theorem Ql.take{xs:List Nat}(h:Ql xs)(i:Nat):Ql (xs.take i):=fun d hd=>h d (List.mem_of_mem_take hd)
theorem Nq{xs:List Nat}{i x:Nat}(h:xs[i]?=some x):Qc (xs.take (i+1))=Qc (xs.take i)+65536^i*x:=by
 have hi:i<xs.length:=(List.getElem?_eq_some_iff.1 h).1;have:xs.take (i+1)=xs.take i++[x]:=by rw[List.take_add_one,h];rfl
 rw[this,Wo,List.length_take,Nat.min_eq_left (by omega)]
theorem Js(k:Nat):Qc (List.replicate k 0)=0:=by
 induction k with
 | zero=>rfl
 | succ k ih=>rw[List.replicate_succ,Qc,ih]
structure Zf(L:List Nat)(n:Nat):Prop where
 digs:Ql L
 val:Qc L=n
 top:L≠[]->65536^(L.length-1)<=n
theorem Zf.nil:Zf [] 0:=⟨fun _ h=>by simp at h,rfl,fun h=>absurd rfl h⟩
theorem Zf.zero{L:List Nat}(h:Zf L 0):L=[]:=by
 by_cases hl:L=[]
 .exact hl
 .have:=h.top hl;have:=Nat.two_pow_pos 0;have:0<65536^(L.length-1):=Nat.pow_pos (by omega);omega
theorem Zf.ne{L:List Nat}{n:Nat}(h:Zf L n)(hn:n≠0):L≠[]:=by intro hl;subst hl;exact hn (by rw[<-h.val];rfl)
theorem Zf.pos{L:List Nat}{n:Nat}(h:Zf L n)(hn:n≠0):0<L.length:=List.length_pos_iff.2 (h.ne hn)
theorem Zf.lt{L:List Nat}{n:Nat}(h:Zf L n):n<65536^L.length:=h.val▸J0 h.digs
theorem Mq(k:Nat):65536^k=2^(16*k):=by rw[Nat.pow_mul]
theorem Zf.len_lt{L K:List Nat}{m n:Nat}(h:Zf L m)(k:Zf K n)(hl:L.length<K.length):m<n:=by have h1:=h.lt;have h2:=k.top (by intro he;subst he;simp at hl);have h3:65536^L.length<=65536^(K.length-1):=Nat.pow_le_pow_right (by omega) (by omega);omega
def Qz(xs:List Nat):List Value:=xs.map fun(d:Nat)=>Value.int .u32 (d:Int)
theorem Zo(xs:List Nat):(Qz xs).length=xs.length:=by simp[Qz]
theorem Jj{xs:List Nat}{i x:Nat}(h:xs[i]?=some x):(Qz xs)[i]?=some (.int .u32 (x:Int)):=by simp[Qz,h]
theorem Pm(xs ys:List Nat):Qz (xs++ys)=Qz xs++Qz ys:=by simp[Qz]
def Dg(w:World)(v:Value)(n:Nat):Prop:=∃L,Sl w v (Qz L)/\Zf L n
theorem Dg.below{w w':World}{v:Value}{n:Nat}(h:Dg w v n)(hb:Below w.heap.size w w'):Dg w' v n:=by obtain⟨L,h1,h2⟩:=h;exact⟨L,h1.below hb,h2⟩
theorem Dg.alloc{w:World}{v:Value}{n:Nat}(h:Dg w v n)(o:Obj):Dg (w.alloc o) v n:=by obtain⟨L,h1,h2⟩:=h;exact⟨L,h1.alloc o,h2⟩
theorem Dg.nil(w:World):Dg w (.slice none 0 0) 0:=⟨[],Sl.nil w,Zf.nil⟩
theorem Sl.form{w:World}{v:Value}{xs:List Nat}(h:Sl w v (Qz xs)) :
  ∃a c,v=.slice a xs.length c/\(0<xs.length->∃b off,a=some ⟨b,off,none⟩/\∀(i x:Nat),xs[i]?=some x->w.cell? ⟨b,off+i,none⟩=some (.int .u32 (x:Int))):=by
 obtain⟨a,c,rfl,h⟩:=h;rw[Zo]at h;refine⟨a,c,by rw[Zo],fun hl=>?_⟩;obtain⟨b,off,rfl,hc⟩:=h hl;exact⟨b,off,rfl,fun i x hx=>hc i _ (Jj hx)⟩
def dg(xs:List Nat)(i:Nat):Nat:=xs.getD i 0
theorem Qu{xs:List Nat}{i:Nat}(h:i<xs.length):xs[i]?=some (dg xs i):=by unfold dg;rw[List.getD_eq_getElem?_getD,List.getElem?_eq_getElem h];rfl
theorem Jm{xs:List Nat}{i:Nat}(h:xs.length<=i):dg xs i=0:=by unfold dg;rw[List.getD_eq_getElem?_getD,List.getElem?_eq_none h];rfl
theorem Qy{xs:List Nat}(h:Ql xs)(i:Nat):dg xs i<65536:=by
 by_cases hi:i<xs.length
 .exact h.get (Qu hi)
 .rw[Jm (by omega)];omega
theorem Xc(xs:List Nat)(i:Nat):Qc (xs.take (i+1))=Qc (xs.take i)+65536^i*dg xs i:=by
 by_cases hi:i<xs.length
 .exact Nq (Qu hi)
 .rw[Jm (by omega),List.take_of_length_le (by omega),List.take_of_length_le (by omega)];omega
theorem Xu{xs:List Nat}{i:Nat}(h:xs.length<=i):Qc (xs.take i)=Qc xs:=by rw[List.take_of_length_le h]
theorem Je(xs:List Nat)(i:Nat):Qc xs=Qc (xs.take i)+65536^i*Qc (xs.drop i):=by
 by_cases hi:i<=xs.length
 .conv=>lhs;rw[<-List.take_append_drop i xs,Kh,List.length_take,Nat.min_eq_left hi]
 .rw[List.take_of_length_le (by omega),List.drop_of_length_le (by omega)];simp[Qc]
theorem Ja{xs:List Nat}(h:Ql xs)(i:Nat):Qc (xs.take i)<65536^i:=by refine Nat.lt_of_lt_of_le (J0 (h.take i)) (Nat.pow_le_pow_right (by omega) ?_);exact List.length_take_le _ _
theorem Zw(xs:List Nat)(i:Nat):Qc (xs.drop i)=dg xs i+65536*Qc (xs.drop (i+1)):=by
 by_cases hi:i<xs.length
 .rw[List.drop_eq_getElem_cons hi,Qc];have:=Qu hi;rw[List.getElem?_eq_getElem hi]at this;rw[Option.some.inj this]
 .rw[Jm (by omega),List.drop_of_length_le (by omega),List.drop_of_length_le (by omega)];rfl
theorem Vz{xs:List Nat}{i:Nat}(h:xs.length<=i):Qc (xs.drop i)=0:=by rw[List.drop_of_length_le h];rfl
def bl(n:Nat):Nat:=if n=0 then 0 else n.log2+1
theorem Tc:bl 0=0:=rfl
theorem Zi{n:Nat}(h:n≠0):bl n=n.log2+1:=by unfold bl;rw[if_neg h]
theorem Td{n:Nat}(h:0<n):bl n=bl (n/2)+1:=by
 rw[Zi (by omega)];by_cases h1:n/2=0
 .rw[h1,Tc];have:n=1:=by omega
  subst this;decide
 .rw[Zi h1];rw[Nat.log2_def n,if_pos (by omega)]
theorem Zp{n k:Nat}(h:n<2^k):bl n<=k:=by
 unfold bl;split
 .omega
 .have:=(Nat.log2_lt (by assumption)).2 h;omega
theorem Zb(n:Nat):n<2^bl n:=by
 unfold bl;split
 .subst n;decide
 .exact Nat.lt_log2_self
theorem Jl{xs:List Nat}{n:Nat}(h:Zf xs n)(hn:n≠0):bl n=16*(xs.length-1)+bl (dg xs (xs.length-1))/\0<dg xs (xs.length-1):=by
 have hp:=h.pos hn;have ht:=h.top (h.ne hn);have hv:=h.val;have h1:=Xc xs (xs.length-1);rw[Xu (by omega),hv]at h1;have h2:=Ja h.digs (xs.length-1);generalize Qc (xs.take (xs.length-1))=A at *
 generalize dg xs (xs.length-1)=d at *
 have hd:0<d:=by apply Nat.pos_of_ne_zero;intro h0;subst h0;omega
 refine⟨?_,hd⟩;rw[Zi hn,Zi (by omega)];rw[Mq]at *
 generalize 16*(xs.length-1)=k at *
 have hd1:2^d.log2<=d:=Nat.log2_self_le (by omega);have hd2:d<2^(d.log2+1):=Nat.lt_log2_self;have:n.log2=k+d.log2:=by
  rw[Nat.log2_eq_iff hn];constructor
  .rw[Nat.pow_add];have:=Nat.mul_le_mul_left (2^k) hd1;omega
  .rw[Nat.add_assoc,Nat.pow_add 2 k];have:=Nat.mul_le_mul_left (2^k) (Nat.succ_le_of_lt hd2);rw[Nat.mul_succ]at this;omega
 omega
theorem Lg{xs:List Nat}{n:Nat}(h:Ql xs)(hv:Qc xs=n)(i:Nat):n/2^i%2=dg xs (i/16)/2^(i%16)%2:=by
 have h1:=Je xs (i/16);have h2:=Ja h (i/16);rw[Zw,hv]at h1;rw[Mq]at h1 h2;generalize Qc (xs.take (i/16))=A at *
 generalize dg xs (i/16)=d at *
 generalize Qc (xs.drop (i/16+1))=R at *
 have h3:n/2^(16*(i/16))=d+65536*R:=by rw[h1,Nat.add_mul_div_left _ _ (Nat.two_pow_pos _),Nat.div_eq_of_lt h2];omega
 have h4:n/2^i=(d+65536*R)/2^(i%16):=by rw[<-h3,Nat.div_div_eq_div_mul,<-Nat.pow_add];congr 2;omega
 rw[h4];have hr:i%16<16:=Nat.mod_lt _ (by omega);generalize i%16=r at *
 have h5:65536*R=2^r*(2*(2^(15-r)*R)):=by
  have:65536=2^r*(2*2^(15-r)):=by rw[Nat.mul_left_comm,<-Nat.pow_add,show r+(15-r)=15 by omega]
  rw[this,Nat.mul_assoc,Nat.mul_assoc]
 rw[h5,Nat.add_mul_div_left _ _ (Nat.two_pow_pos _)];omega
theorem Tv(n k:Nat):n/2^k/2=n/2^(k+1):=by rw[Nat.div_div_eq_div_mul,Nat.pow_succ]
theorem Ns(n k:Nat):n/2^k=2*(n/2^(k+1))+n/2^k%2:=by rw[<-Tv];omega
def Qm(m n:Nat):Int:=if m<n then -1 else if n<m then 1 else 0
theorem Py{xs ys:List Nat}(hx:Ql xs){i:Nat}(he:Qc (xs.drop (i+1))=Qc (ys.drop (i+1)))(h:dg xs i<dg ys i):Qc xs<Qc ys:=by
 have h1:=Je xs i;have h2:=Je ys i;have h3:=Ja hx i;rw[Zw]at h1 h2;rw[he]at h1;generalize Qc (ys.drop (i+1))=R at *
 have h4:65536^i*(dg xs i+65536*R+1)<=65536^i*(dg ys i+65536*R):=Nat.mul_le_mul_left _ (by omega);rw[Nat.mul_add,Nat.mul_one]at h4;omega
theorem Yc{m n:Nat}(h:m<n):Qm m n=-1:=by unfold Qm;rw[if_pos h]
theorem Ug{m n:Nat}(h:n<m):Qm m n=1:=by unfold Qm;rw[if_neg (by omega),if_pos h]
theorem G9{m n:Nat}(h:m=n):Qm m n=0:=by unfold Qm;rw[if_neg (by omega),if_neg (by omega)]
theorem Rj{A B O s P c d:Nat}(h:O+P*c=A+B)(hs:s=c+d):O+P*(s%65536)+P*65536*(s/65536)=A+B+P*d:=by
 have h1:P*(s%65536)+P*65536*(s/65536)=P*s:=by rw[Nat.mul_assoc,<-Nat.mul_add,Nat.add_comm,Nat.div_add_mod]
 have h2:P*s=P*c+P*d:=by rw[hs,Nat.mul_add]
 omega
theorem Zf.mk_top{L:List Nat}{n:Nat}(hd:Ql L)(hv:Qc L=n)(ht:0<L.length->65536^(L.length-1)<=n):Zf L n :=
 ⟨hd,hv,fun h=>ht (List.length_pos_iff.2 h)⟩
theorem Zf.norm{L:List Nat}(hd:Ql L){k:Nat}(hz:Qc (L.drop k)=0)(ht:k=0\/0<dg L (k-1))(hk:k<=L.length):Zf (L.take k) (Qc L):=by have h1:=Je L k;rw[hz,Nat.mul_zero]at h1;refine Zf.mk_top (hd.take k) (by omega) ?_;rw[List.length_take,Nat.min_eq_left hk];intro h0;have h2:=Xc L (k-1);rw[Nat.sub_add_cancel h0]at h2;have h3:65536^(k-1)*1<=65536^(k-1)*dg L (k-1):=Nat.mul_le_mul_left _ (by omega);omega
theorem Tryz.info113:(Tryz.prog.info? 113).map (fun i=>(i.zero,i.size,i.bytes))=some (some (.int .u32 0),1,4):=by kernel_rfl
def Sm(n:Nat):Prop:=bl n<=1000000
theorem Sm.len{L:List Nat}{n:Nat}(h:Sm n)(hc:Zf L n):L.length<=62501:=by
 by_cases hn:n=0
 .subst hn;rw[hc.zero];simp
 .have:=(Jl hc hn).1;unfold Sm at h;omega
theorem Gr{w:World}{B:Nat}{e:TypeId}{v:Value}{n:Nat}{xs:List Value}(h:w.ownsRow B e 1 v n xs):xs.length=n:=by have:=h.1;omega
theorem Zn{w:World}{B:Nat}{e:TypeId}{v:Value}{n:Nat}{xs:List Nat}(h:w.ownsRow B e 1 v n (Qz xs)):xs.length=n:=by have:=Gr h;rwa[Zo]at this
theorem No{w:World}{B:Nat}{e:TypeId}{v:Value}{n:Nat}{xs:List Nat}{z:Int}(d:Nat)(h:Qb (w.ownsRow B e 1 v n (Qz xs++[.int .u32 z])))(hz:z=(d:Int)):w.ownsRow B e 1 v n (Qz (xs++[d])):=by subst hz;rw[Pm];exact h.o
structure Ng(L:List Nat)(more:Nat)(w wr:World)(out:Value)(O:List Nat)(k c:Nat):Prop where
 own:wr.ownsRow w.heap.size 113 1 out k (Qz O)
 digs:Ql O
 sum:Qc O+65536^k*c=2*Qc (L.take k)+more
 top:k<=L.length\/(k=L.length+1/\c=0/\65536^(k-1)<=Qc O)
 b:Below w.heap.size w wr
theorem Ql.nil:Ql []:=by intro d h;simp at h
theorem Ng.start(L:List Nat)(more:Nat)(w:World):Ng L more w w (.slice none 0 0) [] 0 more :=
 ⟨World.ownsRow_nil _ _ _ _,Ql.nil,by simp[Qc],.inl (Nat.zero_le _),Below.refl _ _⟩
theorem Ng.step{L:List Nat}{more:Nat}{w wr:World}{out:Value}{O:List Nat}{k c:Nat}(h:Ng L more w wr out O k c){w1:World}{v1:Value}{z:Int}(s:Nat)
  (hO:Qb (w1.ownsRow w.heap.size 113 1 v1 (k+1) (Qz O++[.int .u32 z]))) (hb:Below w.heap.size w w1) (hz:z=((s%65536:Nat):Int)) (hs:s=c+2*dg L k) (hend:L.length<=k->k=L.length/\0<c/\s/65536=0/\s<65536) :
  Ng L more w w1 v1 (O++[s%65536]) (k+1) (s/65536):=by
 obtain⟨h1,h2,h3,h4,_⟩:=h;refine⟨No _ hO hz,h2.snoc (Nat.mod_lt _ (by omega)),?_,?_,hb⟩
 .rw[Wo,Zn h1,Xc,Nat.pow_succ];have:=Rj (A:=2*Qc (L.take k)) (B:=more) h3 hs;rw[show 65536^k*(2*dg L k)=2*(65536^k*dg L k)by rw[Nat.mul_left_comm]]at this;omega
 .by_cases hk:k<L.length
  .exact .inl hk
  .obtain⟨e1,e2,e3,e4⟩:=hend (by omega);refine .inr ⟨by omega,e3,?_⟩;rw[Wo,Zn h1,Nat.add_sub_cancel];have:dg L k=0:=Jm (by omega);have h5:65536^k*1<=65536^k*(s%65536):=Nat.mul_le_mul_left _ (by omega);omega
theorem Ng.fin{L:List Nat}{more n:Nat}{w wr:World}{out:Value}{O:List Nat}{k:Nat}(hc:Zf L n)(h:Ng L more w wr out O k 0)(hk:L.length<=k):Dg wr out (2*n+more):=by
 obtain⟨h1,h2,h3,h4,_⟩:=h;refine⟨O,Sl.of_own h1,Zf.mk_top h2 ?_ ?_⟩
 .rw[Xu hk,hc.val]at h3;omega
 .rw[Xu hk,hc.val]at h3;rw[Zn h1];intro h0;rcases h4 with h4|⟨_,_,h4⟩
  .have e:k=L.length:=by omega
   have:=hc.top (by intro hl;rw[hl]at e;simp at e;omega);rw[<-e]at this;omega
  .omega
theorem Ld{n more:Nat}{v:Value}{w:World}(h:Dg w v n)(hs:Sm n)(hm:more<=1) :
  Calls Tryz.prog 107 #[v,.int .u32 (more:Int)] w fun e w'=>∃u,e=.returned u/\Dg w' u (2*n+more)/\Below w.heap.size w w':=by
 obtain⟨L,hL,hc⟩:=h;have hlen:=hs.len hc;obtain⟨a,c,rfl,hcell⟩:=(Sl.form hL)
 have HC:=h_ hcell;have HD:=h_ hc;clear hcell hc hs hL;go_enter Tryz.func107,Tryz.ntmps107;go_wp2
 go_loopw [5,6,7] (fun out cc i wr=>∃(k c:Nat) (O:List Nat),i=.int .i64 k/\cc=.int .u32 c/\k<=L.length+1/\c<=1/\Qb (Ng L more w wr out O k c)) (fun _ _ i _=>L.length+1-(intOf i).toNat)
 case atStart=>exact⟨0,more,[],rfl,rfl,by omega,hm,Ng.start _ _ _⟩
 case round =>
  obtain⟨k,cc,O,rfl,rfl,hk,hcc,hh⟩:=hrel;have hO:=hh.o.own;have hb:=hh.o.b;by_cases hlt:k<L.length
  .have hd:=Qy HD.o.digs k;obtain⟨b,off,rfl,hc2⟩:=HC.o (by omega);have hc3:wr.cell? ⟨b,off+k,none⟩=some (.int .u32 (dg L k:Nat)):=Qj hb (Nat.le_refl _) (hc2 k _ (Qu hlt));clear hc2;generalize hD:dg L k=d at hd hc3;have HDD:=h_ hD;clear hD;go_wp2_with (at_builtin;refine Zj rfl (.tmp 32) (.tmp 35) 63 rfl w.heap.size 113 (.int .u32 0) 4 Tryz.underlying63 Tryz.info113 rfl (by decide) _ _ _ rfl _ 1 rfl rfl hO hb hb.size (by omega) ?_)
   intro v1 w1 hown1 hb1 _;have HH:=h_ (hh.o.step (cc+2*d) hown1 hb1 (by omega) (by rw[HDD.o]) (fun _=>by omega));clear hown1 hb1 hO hb;go_wp2;go_roundw
   case rel=>exact⟨k+1,(cc+2*d)/65536,_,by go_num,by go_num,by omega,by omega,HH⟩
   case measure=>simp[intOf];omega
  .have hge:L.length<=k:=by omega
   by_cases hc0:0<cc
   .have hk2:k=L.length:=by rcases hh.o.top with h|⟨_,h,_⟩<;>omega
    have HK:=h_ hk2;clear hk2;go_wp2_with (at_builtin;refine Zj rfl (.tmp 32) (.tmp 35) 63 rfl w.heap.size 113 (.int .u32 0) 4 Tryz.underlying63 Tryz.info113 rfl (by decide) _ _ _ rfl _ 1 rfl rfl hO hb hb.size (by omega) ?_)
    intro v1 w1 hown1 hb1 _;have HH:=h_ (hh.o.step cc hown1 hb1 (by omega) (by rw[Jm hge];omega) (fun _=>⟨HK.o,hc0,by omega,by omega⟩));clear hown1 hb1 hO hb;go_wp2;go_roundw
    case rel=>exact⟨k+1,cc/65536,_,by go_num,by go_num,by have:=HK.o;omega,by omega,HH⟩
    case measure=>simp[intOf];have:=HK.o;omega
   .obtain rfl:cc=0:=by omega
    have HF:=h_ (Ng.fin HD.o hh.o hge);clear hO;go_wp2;go_ret;exact⟨_,rfl,HF.o,hb⟩
theorem Jd{a b:Int}(h:a=b):Ending.returned (.int .i64 a)=.returned (.int .i64 b):=by rw[h]
theorem At{a b:Int}(h:a=b):Ending.returned (.int .u32 a)=.returned (.int .u32 b):=by rw[h]
theorem Ka{n:Nat}{v:Value}{w:World}(h:Dg w v n)(hs:Sm n) :
  Calls Tryz.prog 106 #[v] w fun e w'=>e=.returned (.int .i64 (bl n:Nat))/\w=w':=by
 obtain⟨L,hL,hc⟩:=h;have hlen:=hs.len hc;obtain⟨a,c,rfl,hcell⟩:=(Sl.form hL)
 by_cases hn:n=0
 .subst hn;obtain rfl:=hc.zero;clear hcell hL hc hs hlen;go_enter Tryz.func106,Tryz.ntmps106;go_wp2;go_ret;exact⟨rfl,rfl⟩
 .have hp:=hc.pos hn;obtain⟨hb,hd⟩:=Jl hc hn;have hd2:=Qy hc.digs (L.length-1);obtain⟨b,off,rfl,hc2⟩:=hcell (by omega);have hc3:=hc2 (L.length-1) _ (Qu (by omega));clear hc2 hcell hL hc hs hn;generalize dg L (L.length-1)=d at *
  obtain⟨m,hm⟩:∃m,L.length=m+1:=⟨L.length-1,by omega⟩
  have hm1:L.length-1=m:=by omega
  have hm2:m<=62500:=by omega
  have hbd:=Zp (n:=d) (k:=16) (by omega);rw[hm1]at hb hc3;rw[hm];have HB:=h_ hb;clear hm hlen hp hb hm1;have e1:(((m+1:Nat):Int)==0)=false:=by simp;omega
  have e2:(((m+1:Nat):Int)-1)=m:=by omega
  go_enter Tryz.func106,Tryz.ntmps106;go_wp2;go_loop [3,4] (fun r x=>∃(k y:Nat),r=.int .i64 k/\x=.int .u32 y/\y<65536/\k<=16*m+16/\Qb (k+bl y=bl n)) (fun _ x=>(intOf x).toNat)
  case atStart=>exact⟨16*m,d,by go_num,rfl,hd2,by omega,by rw[Qb,HB.o]⟩
  case round =>
   obtain⟨k,y,rfl,rfl,hy,hk,hh⟩:=hrel;by_cases h0:0<y
   .have h2:=Td h0;have HH:Qb (k+1+bl (y/2)=bl n):=by have:=hh.o;unfold Qb;omega
    have hk2:k+1<=16*m+16:=by have:=HH.o;have:=HB.o;omega
    clear h2;go_wp2;go_round
    case rel=>exact⟨k+1,y/2,by go_num,by go_num,by omega,hk2,HH⟩
    case measure=>simp[intOf];omega
   .obtain rfl:y=0:=by omega
    have HE:Qb (k=bl n):=by have:=hh.o;rw[Tc]at this;exact this
    go_wp2;go_ret;exact⟨Jd (by rw[HE.o]),rfl⟩
def Sb(n i:Nat):Nat:=n/2^i%2
theorem Eo(n i:Nat):Sb n i<2:=Nat.mod_lt _ (by decide)
theorem Hf{n:Nat}{v:Value}{w:World}(h:Dg w v n)(hs:Sm n)(i:Nat)(hi:i<=2000000) :
  Calls Tryz.prog 56 #[v,.int .i64 i] w fun e w'=>e=.returned (.int .u32 (Sb n i:Nat))/\w=w':=by
 obtain⟨L,hL,hc⟩:=h;have hlen:=hs.len hc;obtain⟨a,c,rfl,hcell⟩:=(Sl.form hL)
 have hbit:Sb n i=dg L (i/16)/2^(i%16)%2:=Lg hc.digs hc.val i;by_cases hn:L.length<=i/16
 .rw[Jm hn]at hbit;have HE:Qb (0=Sb n i):=by rw[Qb,hbit];simp
  have hge:(L.length:Int)<=(i:Int)/16:=by omega
  clear hcell hL hc hs hbit;go_enter Tryz.func56,Tryz.ntmps56;go_wp2;go_ret;exact⟨At (by rw[<-HE.o];rfl),rfl⟩
 .have hd2:=Qy hc.digs (i/16);obtain⟨b,off,rfl,hc2⟩:=hcell (by omega);have hc3:=hc2 (i/16) _ (Qu (by omega));have HB:=h_ hbit;clear hc2 hcell hL hc hs hbit;generalize dg L (i/16)=d at *
  obtain⟨q,hq⟩:∃q,q=i/16:=⟨_,rfl⟩
  obtain⟨r,hr⟩:∃r,r=i%16:=⟨_,rfl⟩
  have hi16:i=16*q+r:=by omega
  rw[<-hq]at hc3 hn;rw[<-hr]at HB;have hr16:r<16:=by omega
  have hq2:q<L.length:=by omega
  clear hq hr hn;have e1:((i:Int)/16)=q:=by omega
  have e2:((i:Int)%16)=r:=by omega
  have HI:=h_ hi16;clear hi16;go_enter Tryz.func56,Tryz.ntmps56;go_wp2;go_loop [5,6] (fun x k=>∃(j y:Nat),k=.int .i64 j/\x=.int .u32 y/\y<65536/\j<=r/\Qb (y=d/2^j)) (fun _ k=>r-(intOf k).toNat)
  case atStart=>exact⟨0,d,rfl,rfl,hd2,by omega,by simp[Qb]⟩
  case round =>
   obtain⟨j,y,rfl,rfl,hy,hj,hh⟩:=hrel;by_cases h0:j<r
   .have HH:Qb (y/2=d/2^(j+1)):=by rw[Qb,hh.o,Tv]
    go_wp2;go_round
    case rel=>exact⟨j+1,y/2,by go_num,by go_num,by omega,by omega,HH⟩
    case measure=>simp[intOf];omega
   .have HE:Qb (y%2=Sb n i):=by
     have h1:=hh.o;have h2:=HB.o;have h3:j=r:=by omega
     rw[Qb,h1,h2,h3]
    have hge:r<=j:=by omega
    go_wp2;go_ret;exact⟨At (by rw[<-HE.o];rfl),rfl⟩
theorem G6{m n:Nat}{u v:Value}{w:World}(h:Dg w u m)(k:Dg w v n)(hs:Sm m) :
  Calls Tryz.prog 143 #[u,v] w fun e w'=>e=.returned (.int .i64 (Qm m n))/\Below w.heap.size w w':=by
 obtain⟨L,hL,hc⟩:=h;obtain⟨K,hK,kc⟩:=k;have hlen:=hs.len hc;obtain⟨a,c,rfl,hcell⟩:=(Sl.form hL)
 obtain⟨a',c',rfl,kcell⟩:=(Sl.form hK)
 by_cases hn:L.length=K.length
 .have e1:((L.length:Int) != (K.length:Int))=false:=by simp[hn]
  have HC:=h_ hcell;have HK:=h_ kcell;have HL:=h_ hc;have HM:=h_ kc;have HN:=h_ hn;clear hcell kcell hL hK hc kc hs hn;go_enter Tryz.func143,Tryz.ntmps143;go_wp2
  go_loopw [5] (fun i wr=>∃(k:Nat) (z:Int),i=.int .i64 z/\Qb (z=(k:Int)-1)/\k<=L.length/\Qb (Below w.heap.size w wr)/\Qb (Qc (L.drop k)=Qc (K.drop k))) (fun i _=>(intOf i+1).toNat)
  case atStart=>exact⟨L.length,_,rfl,rfl,Nat.le_refl _,Below.refl _ _,by rw[Qb,Vz (Nat.le_refl _),Vz (by rw[HN.o];exact Nat.le_refl _)]⟩
  case round =>
   obtain⟨k,z,rfl,hz,hk,hb,hh⟩:=hrel;rcases k with _|j
   .obtain rfl:z=-1:=hz.o;have HE:Qb (Qm m n=0):=G9 (by rw[<-HL.o.val,<-HM.o.val];exact hh.o);clear hz;go_wp2;go_ret;exact⟨Jd (by rw[HE.o]),hb.o⟩
   .obtain rfl:z=(j:Int):=by have:=hz.o;omega
    clear hz;have hlt:j<L.length:=by omega
    have hlt2:j<K.length:=by have:=HN.o;omega
    obtain⟨b1,o1,rfl,hc1⟩:=HC.o (by omega);obtain⟨b2,o2,rfl,hc2⟩:=HK.o (by omega);have c1:=Qj hb.o (Nat.le_refl _) (hc1 j _ (Qu hlt));have c2:=Qj hb.o (Nat.le_refl _) (hc2 j _ (Qu hlt2));have d1:=Qy HL.o.digs j;have d2:=Qy HM.o.digs j;have s1:=fun h=>Py HL.o.digs (ys:=K) (i:=j) hh.o h;have s2:=fun h=>Py HM.o.digs (ys:=L) (i:=j) hh.o.symm h;rw[HL.o.val,HM.o.val]at s1 s2;have HE:=h_ (Zw L j);have HF:=h_ (Zw K j);generalize dg L j=x at *
    generalize dg K j=y at *
    have S1:=h_ s1;have S2:=h_ s2;clear hc1 hc2 s1 s2 HC HK;rcases Nat.lt_trichotomy x y with hxy|hxy|hxy
    .have HR:Qb (Qm m n=-1):=Yc (S1.o hxy);go_wp2;go_quiet (fail);go_wp2;go_ret;exact⟨Jd (by rw[HR.o]),Qw hb.o _⟩
    .subst hxy;have HR:Qb (Qc (L.drop j)=Qc (K.drop j)):=by rw[Qb,HE.o,HF.o,hh.o]
     have hxx:decide (x<x)=false:=by simp
     go_wp2;go_quiet (fail);go_wp2;go_quiet (fail);go_wp2;go_roundw
     case rel=>exact⟨j,(j:Int)-1,rfl,rfl,by omega,Qw hb.o _,HR⟩
     case measure=>simp[intOf]
    .have HR:Qb (Qm m n=1):=Ug (S2.o hxy);have hxy':decide (x<y)=false:=by simp;omega
     go_wp2;go_quiet (fail);go_wp2;go_quiet (fail);go_wp2;go_ret;exact⟨Jd (by rw[HR.o]),Qw (Qw hb.o _) _⟩
 .have e1:((L.length:Int) != (K.length:Int))=true:=by simp;omega
  have HR:Qb (L.length<K.length/\Qm m n=-1\/K.length<L.length/\Qm m n=1):=by
   rcases Nat.lt_or_ge L.length K.length with h|h
   .exact .inl ⟨h,Yc (hc.len_lt kc h)⟩
   .exact .inr ⟨by omega,Ug (kc.len_lt hc (by omega))⟩
  clear hcell kcell hL hK hc kc hs hn;rcases HR.o with⟨h1,h2⟩|⟨h1,h2⟩
  .have H2:=h_ h2;clear h2 HR;go_enter Tryz.func143,Tryz.ntmps143;go_wp2;go_ret;exact⟨Jd (by rw[H2.o]),Below.refl _ _⟩
  .have H2:=h_ h2;clear h2 HR;have h3:decide (L.length<K.length)=false:=by simp;omega
   go_enter Tryz.func143,Tryz.ntmps143;go_wp2;go_ret;exact⟨Jd (by rw[H2.o]),Below.refl _ _⟩
theorem Sm.mono{m n:Nat}(h:Sm n)(hm:m<=n):Sm m:=by
 unfold Sm at *
 have:=Zb n;exact Nat.le_trans (Zp (n:=m) (k:=bl n) (by omega)) h
theorem Ya(xs:List Nat):∀u∈Qz xs,u.oneCell'=true:=by intro u hu;obtain⟨x,_,rfl⟩:=List.mem_map.1 hu;rfl
theorem Wl{w:World}{a:Option Addr}{xs:List Nat}(hc:0<xs.length->∃b off,a=some ⟨b,off,none⟩/\∀(i x:Nat),xs[i]?=some x->w.cell? ⟨b,off+i,none⟩=some (.int .u32 (x:Int)))(k:Nat)(hk:k<=xs.length){w':World}(hw:∀p u,w.cell? p=some u->w'.cell? p=some u) :
  Qb (0<k->∃b off,a=some ⟨b,off,none⟩/\∀j u,(Qz (xs.take k))[j]?=some u->w'.cell? ⟨b,off+j,none⟩=some u):=by
 intro h0;obtain⟨b,off,rfl,h⟩:=hc (by omega);refine⟨b,off,rfl,fun j u hu=>?_⟩;rw[Qz,List.getElem?_map]at hu;obtain⟨x,hx,rfl⟩:=Option.map_eq_some_iff.1 hu;rw[List.getElem?_take]at hx;split at hx
 .exact hw _ _ (h j x hx)
 .cases hx
theorem Kk{w:World}(o:Obj):∀p u,w.cell? p=some u->(w.alloc o).cell? p=some u:=fun p _ hp=>(World.cell?_alloc_lt w o p (Wu hp)).trans hp
def K5(v:Value):Prop:=∃a n c,v=.slice a n c/\n<=c
theorem K5.of_own{w:World}{B:Nat}{e:TypeId}{v:Value}{n:Nat}{xs:List Value}(h:w.ownsRow B e 1 v n xs):K5 v:=by
 rcases h.2 with⟨rfl,_⟩|⟨g,cap,cur,rfl,_,_,h,_⟩
 .exact⟨_,_,_,rfl,Nat.le_refl _⟩
 .exact⟨_,_,_,rfl,h⟩
theorem Dr{L:List Nat}{v:Value}{w:World}(hL:Sl w v (Qz L))(hd:Ql L)(hlen:L.length<=1000000)(hcap:K5 v) :
  Calls Tryz.prog 105 #[v] w fun e w'=>∃u,e=.returned u/\Dg w' u (Qc L)/\Below w.heap.size w w':=by
 obtain⟨a,c,rfl,hcell⟩:=(Sl.form hL)
 obtain⟨_,_,_,he,hcap⟩:=hcap;injection he with e0 e1 e2;subst e0 e1 e2;have HC:=h_ hcell;have HD:=h_ hd;clear hcell hL hd;go_enter Tryz.func105,Tryz.ntmps105;go_wp2;go_loop [3] (fun i=>∃(k:Nat),i=.int .i64 k/\k<=L.length/\Qb (Qc (L.drop k)=0)) (fun i=>(intOf i).toNat)
 case atStart=>exact⟨L.length,rfl,Nat.le_refl _,Vz (Nat.le_refl _)⟩
 case round =>
  obtain⟨k,rfl,hk,hh⟩:=hrel;have fin:∀(k:Nat),k<=L.length->Qb (Qc (L.drop k)=0)->(k=0\/0<dg L (k-1))->Qb (∀(w1:World) v1,w1.ownsRow w.heap.size 113 1 v1 k (Qz (L.take k))->Dg w1 v1 (Qc L)):=by intro k hk hz ht w1 v1 ho;exact⟨L.take k,Sl.of_own ho,Zf.norm HD.o hz.o ht hk⟩
  rcases k with _|j
  .have HF:=fin 0 hk hh (.inl rfl);have hb0:=(Below.refl w.heap.size w).alloc (Nat.le_refl _) (.cells #[] 113);have ho:=Pq w 113;clear fin;rcases a with _|a
   all_goals
    go_wp2_with (at_builtin;refine Wn rfl (.tmp 18) (.tmp 21) 63 rfl w.heap.size 113 (.int .u32 0) 4 Tryz.underlying63 Tryz.info113 rfl (by decide) _ 0 [] rfl _ 0 _ (Qz (L.take 0)) rfl rfl (fun h=>absurd h (by decide)) (Ya _) ho hb0 hb0.size (by omega) ?_)
    intro v1 w1 ho1 hb1 _;have HG:=h_ (HF.o w1 v1 (by have:=ho1.o;simpa using this));clear ho1 ho;go_wp2;go_ret;exact⟨_,rfl,HG.o,hb1⟩
  .obtain⟨b,off,rfl,hc2⟩:=HC.o (by omega);have hc3:=hc2 j _ (Qu (by omega));clear hc2;have hd2:=Qy HD.o j;have e1:((↑(j+1):Int)-1)=j:=by omega
   by_cases hz:dg L j=0
   .have HH:Qb (Qc (L.drop j)=0):=by rw[Qb,Zw,hz,hh.o]
    rw[hz]at hc3;have hc4:w.cell? ⟨b,off+j,none⟩=some (.int .u32 0):=hc3;have hjl:j<L.length:=by omega
    clear fin hz hd2 hc3;go_wp2;go_round
    case rel=>exact⟨j,rfl,by omega,HH⟩
    case measure=>simp[intOf]
   .have HF:=fin (j+1) hk hh (.inr (by rw[Nat.add_sub_cancel];omega));have hc0:=Wl HC.o (j+1) hk (w':=w.alloc (.cells #[] 113)) (Kk _);have hb0:=(Below.refl w.heap.size w).alloc (Nat.le_refl _) (.cells #[] 113);have ho:=Pq w 113;have hlt:(Qz (L.take (j+1))).length=j+1:=by rw[Zo,List.length_take,Nat.min_eq_left hk]
    generalize dg L j=d at *
    have e2:((d:Int)==0)=false:=by simp;omega
    have hjl:j<L.length:=by omega
    have hjc:(j:Int)+1<=c:=by omega
    have hj0:0<=(j:Int)+1:=by omega
    clear fin;go_wp2_with (at_builtin;refine Wn rfl (.tmp 18) (.tmp 21) 63 rfl w.heap.size 113 (.int .u32 0) 4 Tryz.underlying63 Tryz.info113 rfl (by decide) _ 0 [] rfl _ (j+1) _ (Qz (L.take (j+1))) rfl hlt hc0 (Ya _) ho hb0 hb0.size (by omega) ?_)
    intro v1 w1 ho1 hb1 _;have HG:=h_ (HF.o w1 v1 (by have:=ho1.o;simpa using this));clear ho1 ho;go_wp2;go_ret;exact⟨_,rfl,HG.o,hb1⟩
theorem Pj{m:Nat}{v:Value}{w:World}(h:Dg w v m)(n:Nat)(hs:Sm (m*2^n))(hn:n<=1000000) :
  Calls Tryz.prog 141 #[v,.int .i64 n] w fun e w'=>∃u,e=.returned u/\Dg w' u (m*2^n)/\Below w.heap.size w w':=by
 obtain⟨L,hL,hc⟩:=h;by_cases hm:m=0
 .subst hm;obtain rfl:=hc.zero;obtain⟨a,c,rfl,hcell⟩:=(Sl.form hL)
  have HZ:Qb (∀w,Dg w (.slice none 0 0) (0*2^n)):=fun w=>by rw[Nat.zero_mul];exact Dg.nil w
  clear hcell hL hc hs;go_enter Tryz.func141,Tryz.ntmps141;go_wp2;go_ret;exact⟨_,rfl,HZ.o _,Below.refl _ _⟩
 .have hp:=hc.pos hm;have hlen:=(hs.mono (Nat.le_mul_of_pos_right m (Nat.two_pow_pos n))).len hc;obtain⟨a,c,rfl,hcell⟩:=(Sl.form hL)
  have HC:=h_ hcell;have HD:=h_ hc;have HS:=h_ hs;obtain⟨q,hq⟩:∃q,q=n/16:=⟨_,rfl⟩
  obtain⟨r,hr⟩:∃r,r=n%16:=⟨_,rfl⟩
  have hn16:n=16*q+r:=by omega
  have hr16:r<16:=by omega
  have hq2:q<=62500:=by omega
  clear hq hr hcell hL hc hs;have e1:((n:Int)/16)=q:=by omega
  have e2:((n:Int)%16)=r:=by omega
  have e3:((L.length:Int)==0)=false:=by rw[beq_eq_false_iff_ne];omega
  have HN:=h_ hn16;clear hn16;have HZ:Qb (∀(w1:World) v1,w1.ownsRow w.heap.size 113 1 v1 (q+L.length) (List.replicate q (.int .u32 0)++Qz (L.take L.length))->Dg w1 v1 (m*2^(16*q))):=by
   intro w1 v1 ho;have h1:=Sl.of_own ho;have e:List.replicate q (Value.int .u32 0)=Qz (List.replicate q 0):=by simp[Qz]
   rw[e,<-Pm,List.take_length]at h1;refine⟨_,h1,Zf.mk_top ?_ ?_ ?_⟩
   .intro d hd;rw[List.mem_append]at hd;rcases hd with hd|hd
    .obtain⟨_,rfl⟩:=List.mem_replicate.1 hd;decide
    .exact HD.o.digs d hd
   .rw[Kh,Js,List.length_replicate,HD.o.val,Mq];rw[Nat.zero_add,Nat.mul_comm]
   .intro _;rw[List.length_append,List.length_replicate,show q+L.length-1=(L.length-1)+q by omega,Nat.pow_add,Mq q];exact Nat.mul_le_mul_right _ (HD.o.top (List.length_pos_iff.1 hp))
  go_enter Tryz.func141,Tryz.ntmps141;go_wp2_with (refine Jb (w0:=w) rfl (.tmp 11) 63 rfl w.heap.size 113 (.int .u32 0) 4 Tryz.underlying63 Tryz.info113 rfl (by decide) _ _ q rfl rfl (by omega) (Below.refl _ _) (Nat.le_refl _) ?_)
  intro w1 ho1 hb1 hB1;have hc1:=Wl HC.o L.length (Nat.le_refl _) (w':=w1) (fun p u hp=>Qj hb1 (Nat.le_refl _) hp);have hlt:(Qz (L.take L.length)).length=L.length:=by rw[Zo,List.take_length]
  have hO:=ho1.o;clear ho1;go_wp2_with (at_builtin;refine Wn rfl (.tmp 12) (.tmp 13) 63 rfl w.heap.size 113 (.int .u32 0) 4 Tryz.underlying63 Tryz.info113 rfl (by decide) _ _ _ rfl _ L.length _ (Qz (L.take L.length)) rfl hlt hc1 (Ya _) hO hb1 hB1 (by omega) ?_)
  intro v2 w2 ho2 hb2 hB2;have HG:=h_ (HZ.o w2 v2 (by have:=ho2.o;simpa using this));clear ho2 hO hc1 hlt HC hb1 hB1;go_wp2
  go_loopw [5,6] (fun out i wr=>∃(j:Nat),i=.int .i64 j/\j<=r/\Qb (Dg wr out (m*2^(16*q+j))/\Below w.heap.size w wr)) (fun _ i _=>r-(intOf i).toNat)
  case atStart=>exact⟨0,rfl,Nat.zero_le _,HG.o,hb2⟩
  case round =>
   obtain⟨j,rfl,hj,hh⟩:=hrel;by_cases hlt:j<r
   .have hsm:Sm (m*2^(16*q+j)):=HS.o.mono (Nat.mul_le_mul_left _ (Nat.pow_le_pow_right (by omega) (by have:=HN.o;omega)));have HM:=h_ hsm;clear hsm;go_wp2_with fail;refine(Ld (more:=0) hh.o.1 HM.o (by omega)).mono ?_;rintro e w3 ⟨u,rfl,hd3,hb3⟩;have HH:Qb (Dg w3 u (m*2^(16*q+(j+1)))/\Below w.heap.size w w3):=by refine⟨?_,hh.o.2.trans (hb3.mono hh.o.2.size)⟩;rw[show m*2^(16*q+(j+1))=2*(m*2^(16*q+j))+0 by rw[<-Nat.add_assoc,Nat.pow_succ,<-Nat.mul_assoc];omega];exact hd3
    clear hd3 hb3;go_wp2;go_roundw
    case rel=>exact⟨j+1,by go_num,by omega,HH⟩
    case measure=>simp[intOf];omega
   .have HH:Qb (Dg wr u5 (m*2^n)/\Below w.heap.size w wr):=by
     have h1:=HN.o;have h2:j=r:=by omega
     rw[h1,<-h2];exact hh
    have hge:r<=j:=by omega
    go_wp2;go_ret;exact⟨_,rfl,HH.o.1,HH.o.2⟩
theorem Jw(xs:List Nat)(k y:Nat)(hk:k<xs.length):Qc (xs.set k y)+65536^k*dg xs k=Qc xs+65536^k*y:=by
 induction xs generalizing k with
 | nil=>simp at hk
 | cons x xs ih =>
  rcases k with _|k
  .simp[Qc,dg];omega
  .have h:=ih k (by simpa using hk);rw[set_cons_succ,Qc,Qc,Nat.pow_succ];have e:dg (x :: xs) (k+1)=dg xs k:=by simp[dg]
   rw[e,Nat.mul_comm (65536^k) 65536,Nat.mul_assoc,Nat.mul_assoc];omega
theorem Wi(xs:List Nat)(k y:Nat):(Qz xs).set k (.int .u32 (y:Int))=Qz (xs.set k y):=by unfold Qz;rw[List.map_set]
theorem Ql.set{xs:List Nat}(h:Ql xs){k y:Nat}(hy:y<65536):Ql (xs.set k y):=by
 intro d hd;rcases List.mem_or_eq_of_mem_set hd with hd|hd
 .exact h d hd
 .omega
theorem Dm{w:World}{B:Nat}{e:TypeId}{v:Value}{n:Nat}{xs:List Value}(h:w.ownsRow B e 1 v n xs):∃a c,v=.slice a n c:=by
 rcases h.2 with⟨rfl,h0⟩|⟨g,cap,cur,rfl,_⟩
 .subst h0;exact⟨_,_,rfl⟩
 .exact⟨_,_,rfl⟩
theorem Ri{O O' P x y T d c b m:Nat}(hs:O'+P*x=O+P*y)(h:O+T=m+P*c)(hy:y+(c+d)=x+65536*b):O'+(T+P*d)=m+P*65536*b:=by
 have h1:P*(y+(c+d))=P*(x+65536*b):=by rw[hy]
 rw[Nat.mul_add,Nat.mul_add,Nat.mul_add,<-Nat.mul_assoc]at h1;omega
structure Pz(K:List Nat)(m la:Nat)(w wr:World)(out:Value)(O:List Nat)(k c:Nat):Prop where
 own:wr.ownsRow w.heap.size 113 1 out la (Qz O)
 digs:Ql O
 sum:Qc O+Qc (K.take k)=m+65536^k*c
 b:Below w.heap.size w wr
theorem Pz.step{K:List Nat}{m la g cap:Nat}{w wr:World}{O:List Nat}{k c:Nat}(h:Pz K m la w wr (.slice (some ⟨g,0,none⟩) la cap) O k c)(hk:k<la)(hg:w.heap.size<=g)(y b:Nat)(u:Value)
  (hy:y+(c+dg K k)=dg O k+65536*b) (hy2:y<65536) (hu:u=.int .u32 (y:Int)):Pz K m la w (wr.setCell ⟨g,k,none⟩ u) (.slice (some ⟨g,0,none⟩) la cap) (O.set k y) (k+1) b:=by
 subst hu;refine⟨?_,h.digs.set hy2,?_,h.b.setCell hg _⟩
 .rw[<-Wi];exact(h.own.stored k _).1
 .rw[Xc,Nat.pow_succ];exact Ri (Jw O k y (by rw[Zn h.own];exact hk)) h.sum hy
theorem Pz.step2{K:List Nat}{m la g cap:Nat}{w wr:World}{O:List Nat}{k c:Nat}(h:Pz K m la w wr (.slice (some ⟨g,0,none⟩) la cap) O k c)(hk:k<la)(hg:w.heap.size<=g)(y b:Nat)(u' u:Value)
  (hy:y+(c+dg K k)=dg O k+65536*b) (hy2:y<65536) (hu:u=.int .u32 (y:Int)):Pz K m la w ((wr.setCell ⟨g,k,none⟩ u').setCell ⟨g,k,none⟩ u) (.slice (some ⟨g,0,none⟩) la cap) (O.set k y) (k+1) b:=by
 subst hu;refine⟨?_,h.digs.set hy2,?_,(h.b.setCell hg _).setCell hg _⟩
 .have:=((h.own.stored k u').1.stored k (.int .u32 (y:Int))).1;rw[List.set_set,Wi]at this;exact this
 .rw[Xc,Nat.pow_succ];exact Ri (Jw O k y (by rw[Zn h.own];exact hk)) h.sum hy
theorem Pz.fin{L K:List Nat}{m n la:Nat}{w wr:World}{out:Value}{O:List Nat}{c:Nat}(hc:Zf L m)(kc:Zf K n)(hla:la=L.length)(hmn:n<=m)(h:Pz K m la w wr out O la c)(hc1:c<=1):Qc O=m-n:=by
 have hlen:K.length<=la:=by apply Nat.le_of_not_lt;intro hlt;have:=hc.len_lt kc (by omega);omega
 have h1:=h.sum;rw[Xu hlen,kc.val]at h1;have h2:=J0 h.digs;rw[Zn h.own]at h2;rcases Nat.eq_zero_or_pos c with h0|h0
 .subst h0;omega
 .obtain rfl:c=1:=by omega
  omega
theorem Pf{m n:Nat}{u v:Value}{w:World}(h:Dg w u m)(k:Dg w v n)(hs:Sm m)(hmn:n<=m) :
  Calls Tryz.prog 144 #[u,v] w fun e w'=>∃u,e=.returned u/\Dg w' u (m-n)/\Below w.heap.size w w':=by
 obtain⟨L,hL,hc⟩:=h;obtain⟨K,hK,kc⟩:=k;have hlen:=hs.len hc;have klen:=(hs.mono hmn).len kc;obtain⟨a,c,rfl,hcell⟩:=(Sl.form hL)
 obtain⟨a',c',rfl,kcell⟩:=(Sl.form hK)
 have HL:=h_ hc;have HM:=h_ kc;have HK:=h_ kcell;have hc0:=Wl hcell L.length (Nat.le_refl _) (w':=w.alloc (.cells #[] 113)) (Kk _);rw[List.take_length]at hc0;have hlt:(Qz L).length=L.length:=Zo L;have hb0:=(Below.refl w.heap.size w).alloc (Nat.le_refl _) (.cells #[] 113);have ho:=Pq w 113;clear hcell kcell hL hK hc kc hs;go_enter Tryz.func144,Tryz.ntmps144;go_wp2_with (at_builtin;refine Wn rfl (.tmp 9) (.tmp 10) 63 rfl w.heap.size 113 (.int .u32 0) 4 Tryz.underlying63 Tryz.info113 rfl (by decide) _ 0 [] rfl _ L.length _ (Qz L) rfl hlt hc0 (Ya _) ho hb0 hb0.size (by omega) ?_)
 intro v1 w1 ho1 hb1 _;have hS:Qb (Pz K m L.length w w1 v1 L 0 0):=⟨by have:=ho1.o;simpa using this,HL.o.digs,by simp[Qc,HL.o.val],hb1⟩
 obtain⟨ad,cap,rfl⟩:=Dm hS.o.own;clear ho1 hb1 ho hb0 hc0 hlt;go_wp2
 go_loopw [6,7] (fun cc i wr=>∃(k c:Nat) (O:List Nat),i=.int .i64 k/\cc=.int .u32 c/\k<=L.length/\c<=1/\Qb (Pz K m L.length w wr (.slice ad L.length cap) O k c)) (fun _ i _=>L.length-(intOf i).toNat)
 case atStart=>exact⟨0,0,L,rfl,rfl,by omega,by omega,hS⟩
 case round =>
  obtain⟨k,cc,O,rfl,rfl,hk,hcc,hh⟩:=hrel;by_cases hkl:k<L.length
  .obtain⟨g,cap',he,hg,_⟩:=hh.o.own.form (by omega);injection he with e0 e1 e2;subst e0 e2;clear e1;have hx:wr.cell? ⟨g,k,none⟩=some (.int .u32 (dg O k:Nat)):=by rw[hh.o.own.cellAt k (by omega)];exact Jj (Qu (by rw[Zn hh.o.own];exact hkl))
   have hfz:=hh.o.own.frozenAt k;have hdx:=Qy hh.o.digs k;have HST:=h_ (fun y b u h1 h2 h3=>hh.o.step hkl hg y b u h1 h2 h3);have HST2:=h_ (fun y b u' u h1 h2 h3=>hh.o.step2 hkl hg y b u' u h1 h2 h3);generalize hD:dg O k=x at hx hdx HST HST2;clear hD;by_cases h2:k<K.length
   .have d2:=Qy HM.o.digs k;obtain⟨b2,o2,rfl,hc2⟩:=HK.o (by omega);have x2:wr.cell? ⟨b2,o2+k,none⟩=some (.int .u32 (dg K k:Nat)):=Qj hh.o.b (Nat.le_refl _) (hc2 k _ (Qu h2));clear hc2;generalize dg K k=y at d2 x2 HST HST2;by_cases hbr:x<cc+y
    .go_wp2;have HH:=h_ (HST2.o (x+65536-(cc+y)) 1 (.int .u32 ((x:Int)+65536)) (.int .u32 ((x:Int)+65536-((cc:Int)+y))) (by omega) (by omega) (by congr 1;omega));go_roundw
     case rel=>exact⟨k+1,1,_,by go_num,rfl,by omega,by omega,HH⟩
     case measure=>simp[intOf];omega
    .have hge:cc+y<=x:=by omega
     go_wp2;have HH:=h_ (HST.o (x-(cc+y)) 0 (.int .u32 ((x:Int)-((cc:Int)+y))) (by omega) (by omega) (by congr 1;omega));go_roundw
     case rel=>exact⟨k+1,0,_,by go_num,rfl,by omega,by omega,HH⟩
     case measure=>simp[intOf];omega
   .have z2:dg K k=0:=Jm (by omega);rw[z2]at HST HST2;have g2:decide (k<K.length)=false:=decide_eq_false h2;clear z2;by_cases hbr:x<cc
    .go_wp2;have HH:=h_ (HST2.o (x+65536-(cc)) 1 (.int .u32 ((x:Int)+65536)) (.int .u32 ((x:Int)+65536-(cc:Int))) (by omega) (by omega) (by congr 1;omega));go_roundw
     case rel=>exact⟨k+1,1,_,by go_num,rfl,by omega,by omega,HH⟩
     case measure=>simp[intOf];omega
    .have hge:cc<=x:=by omega
     go_wp2;have HH:=h_ (HST.o (x-(cc)) 0 (.int .u32 ((x:Int)-(cc:Int))) (by omega) (by omega) (by congr 1;omega));go_roundw
     case rel=>exact⟨k+1,0,_,by go_num,rfl,by omega,by omega,HH⟩
     case measure=>simp[intOf];omega
  .obtain rfl:k=L.length:=by omega
   have HF:=h_ (Pz.fin HL.o HM.o rfl hmn hh.o hcc);have hge:L.length<=L.length:=Nat.le_refl _;go_wp2_with fail;refine(Dr (Sl.of_own hh.o.own) hh.o.digs (by rw[Zn hh.o.own];omega) (K5.of_own hh.o.own)).mono ?_;rintro e w2 ⟨u,rfl,hd2,hb2⟩;have HG:Qb (Dg w2 u (m-n)/\Below w.heap.size w w2):=⟨by rw[<-HF.o];exact hd2,hh.o.b.trans (hb2.mono hh.o.b.size)⟩
   clear hd2 hb2;go_wp2;go_ret;exact⟨_,rfl,HG.o.1,HG.o.2⟩
structure C7(x:Nat)(w wr:World)(out:Value)(O:List Nat)(k y:Nat):Prop where
 own:wr.ownsRow w.heap.size 113 1 out k (Qz O)
 digs:Ql O
 sum:Qc O+65536^k*y=x
 b:Below w.heap.size w wr
theorem C7.step{x:Nat}{w wr:World}{out:Value}{O:List Nat}{k y:Nat}(h:C7 x w wr out O k y){w1:World}{v1:Value}{z:Int}
  (hO:Qb (w1.ownsRow w.heap.size 113 1 v1 (k+1) (Qz O++[.int .u32 z]))) (hb:Below w.heap.size w w1) (hz:z=((y%65536:Nat):Int)) :
  C7 x w w1 v1 (O++[y%65536]) (k+1) (y/65536):=by
 obtain⟨h1,h2,h3,_⟩:=h;refine⟨No _ hO hz,h2.snoc (Nat.mod_lt _ (by omega)),?_,hb⟩;rw[Wo,Zn h1,Nat.pow_succ];have e:65536^k*(y%65536)+65536^k*65536*(y/65536)=65536^k*y:=by rw[Nat.mul_assoc,<-Nat.mul_add,Nat.add_comm,Nat.div_add_mod]
 omega
theorem C7.fin{x y:Nat}{w wr:World}{out:Value}{O:List Nat}(h:C7 x w wr out O 4 y)(hx:x<2^64):Qc O=x:=by have:=h.sum;omega
theorem Qh0{x:Nat}{v:Value}{w:World}(h:Sl w v [.int .u64 (x:Int)])(hx:x<18446744073709551616) :
  Calls Tryz.prog 55 #[v] w fun e w'=>∃u,e=.returned u/\Dg w' u x/\Below w.heap.size w w':=by
 obtain⟨a,c,rfl,hcell⟩:=h;obtain⟨b,off,rfl,hc⟩:=hcell (by simp);have hc1:w.cell? ⟨b,off,none⟩=some (.int .u64 (x:Int)):=hc 0 _ rfl;clear hcell hc;go_enter Tryz.func55,Tryz.ntmps55;go_wp2
 go_loopw [3,4] (fun out i wr=>(out=.slice none 0 0/\i=.int .i64 0/\w=wr)\/(i=.int .i64 1/\∃O y,C7 x w wr out O 4 y)) (fun _ i _=>1-(intOf i).toNat)
 case atStart=>exact .inl ⟨rfl,rfl,rfl⟩
 case round =>
  rcases hrel with⟨rfl,rfl,rfl⟩|⟨rfl,O,y,hh⟩
  .go_wp2
   go_loopw [3,5,6] (fun out z i w1=>∃(k y:Nat) (O:List Nat),i=.int .i64 k/\z=.int .u64 y/\k<=4/\y<18446744073709551616/\Qb (C7 x w w1 out O k y)) (fun _ _ i _=>4-(intOf i).toNat)
   case atStart=>exact⟨0,x,[],rfl,rfl,by omega,hx,World.ownsRow_nil _ _ _ _,Ql.nil,by simp[Qc],Below.refl _ _⟩
   case round =>
    obtain⟨k,y,O,rfl,rfl,hk,hy,hh⟩:=hrel;have hO:=hh.o.own;have hb:=hh.o.b;by_cases hlt:k<4
    .go_wp2_with (at_builtin;refine Zj rfl (.tmp 21) (.tmp 25) 63 rfl w.heap.size 113 (.int .u32 0) 4 Tryz.underlying63 Tryz.info113 rfl (by decide) _ _ _ rfl _ 1 rfl rfl hO hb hb.size (by omega) ?_)
     intro v1 w1 hown1 hb1 _;have HH:=h_ (hh.o.step hown1 hb1 (by omega));clear hown1 hb1 hO hb;go_wp2;go_roundw
     case rel=>exact⟨k+1,y/65536,_,by go_num,by go_num,by omega,by omega,HH⟩
     case measure=>simp[intOf];omega
    .obtain rfl:k=4:=by omega
     clear hO hb;go_wp2;go_roundw
     case rel=>exact .inr ⟨rfl,_,_,hh.o⟩
     case measure=>simp[intOf]
  .have HH:=h_ hh;clear hh;go_wp2_with fail;refine(Dr (Sl.of_own HH.o.own) HH.o.digs (by rw[Zn HH.o.own];decide) (K5.of_own HH.o.own)).mono ?_;rintro e w2 ⟨u,rfl,hd2,hb2⟩;have HG:Qb (Dg w2 u x/\Below w.heap.size w w2):=⟨by rw[<-HH.o.fin hx];exact hd2,HH.o.b.trans (hb2.mono HH.o.b.size)⟩
   clear hd2 hb2;go_wp2;go_ret;exact⟨_,rfl,HG.o.1,HG.o.2⟩
def Qjf(n:Nat)(w:World)(e:Ending)(w':World):Prop:=∃u r,e=.returned (.tuple #[u,.bool r])/\Dg w' u n/\Below w.heap.size w w'
theorem S8{m:Nat}{v:Value}{w:World}(h:Dg w v m)(n:Nat)(hs:Sm m)(hn:n<=1000000) :
  Calls Tryz.prog 57 #[v,.int .i64 n] w (Qjf (m/2^n) w):=by
 have hall:bl m<=1000000:=hs;have HS:=h_ hs;have HV:=h_ h;have hB:=fun w (h:Dg w v m)=>Ka h hs;have HB:=h_ hB;obtain⟨all,hA⟩:∃all,bl m=all:=⟨_,rfl⟩
 have HA:=h_ hA;rw[hA]at hall;clear hs h hA hB;go_enter Tryz.func57,Tryz.ntmps57;go_wp2_with fail;refine(HB.o _ HV.o).mono ?_;rintro e w1 ⟨rfl,rfl⟩;rw[HA.o];go_wp2
 go_loopw [7,8] (fun out i wr=>∃(k:Nat) (z:Int),i=.int .i64 z/\Qb (z=(k:Int)-1)/\k<=all/\Qb (n<=k\/k=all)/\Qb (Dg wr out (m/2^k)/\Below w.heap.size w wr)) (fun _ i _=>(intOf i+1).toNat)
 case atStart=>exact⟨all,_,rfl,rfl,Nat.le_refl _,.inr rfl,by
  refine⟨?_,Below.refl _ _⟩;rw[Nat.div_eq_of_lt (by rw[<-HA.o];exact Zb m)];exact Dg.nil w⟩
 case round =>
  obtain⟨k,z,rfl,hz,hk,hnk,hh⟩:=hrel;by_cases hlt:n<k
  .obtain⟨j,rfl⟩:∃j,k=j+1:=⟨k-1,by omega⟩
   obtain rfl:z=(j:Int):=by have:=hz.o;omega
   clear hz;have hnj:n<=j:=by omega
   have HBit:=h_ (fun w (h:Dg w v m)=>Hf h HS.o j (by omega));go_wp2_with fail;refine(HBit.o _ (HV.o.below hh.o.2)).mono ?_;rintro e w2 ⟨rfl,rfl⟩;have hb2:=Eo m j;have hsm:Sm (m/2^(j+1)):=HS.o.mono (Nat.div_le_self _ _);have HM:=h_ hsm;clear hsm;go_wp2_with fail;refine(Ld hh.o.1 HM.o (by omega)).mono ?_;rintro e w3 ⟨u,rfl,hd3,hb3⟩;have HH:Qb (Dg w3 u (m/2^j)/\Below w.heap.size w w3):=by refine⟨?_,hh.o.2.trans (hb3.mono hh.o.2.size)⟩;rw[Ns m j];exact hd3
   clear hd3 hb3;go_wp2;go_roundw
   case rel=>exact⟨j,(j:Int)-1,rfl,rfl,by omega,.inl hnj,HH⟩
   case measure=>simp[intOf]
  .have HE:Qb (m/2^k=m/2^n):=by
    unfold Qb;rcases hnk.o with h|h
    .rw[show k=n by omega]
    .have h1:m<2^k:=by rw[h,<-HA.o];exact Zb m
     rw[Nat.div_eq_of_lt h1,Nat.div_eq_of_lt (Nat.lt_of_lt_of_le h1 (Nat.pow_le_pow_right (by omega) (by omega)))]
   have hzn:z<n:=by have:=hz.o;omega
   clear hz hnk;go_wp2;go_loop [9,10] (fun r i=>∃(b:Bool) (j:Nat),r=.bool b/\i=.int .i64 j/\j<=n) (fun _ i=>n-(intOf i).toNat)
   case atStart=>exact⟨false,0,rfl,rfl,Nat.zero_le _⟩
   case round =>
    obtain⟨b,j,rfl,rfl,hj⟩:=hrel;by_cases h1:j<n
    .by_cases h2:j<all
     .cases b
      .have HBit:=h_ (fun w (h:Dg w v m)=>Hf h HS.o j (by omega));go_wp2_with fail;refine(HBit.o _ (HV.o.below hh.o.2)).mono ?_;rintro e w2 ⟨rfl,rfl⟩;go_wp2;go_round
       case rel=>exact⟨_,j+1,rfl,by go_num,by omega⟩
       case measure=>simp[intOf];omega
      .go_wp2;go_round
       case rel=>exact⟨_,j+1,rfl,by go_num,by omega⟩
       case measure=>simp[intOf];omega
     .have h3:all<=j:=by omega
      have HH:Qb (Dg wr u7 (m/2^n)):=by rw[<-HE.o];exact hh.o.1
      go_wp2;go_ret2;exact⟨_,_,rfl,HH.o,hh.o.2⟩
    .have h3:n<=j:=by omega
     have HH:Qb (Dg wr u7 (m/2^n)):=by rw[<-HE.o];exact hh.o.1
     go_wp2;go_ret2;exact⟨_,_,rfl,HH.o,hh.o.2⟩
structure Gv(L K:List Nat)(w wr:World)(out:Value)(O:List Nat)(k c:Nat):Prop where
 own:wr.ownsRow w.heap.size 113 1 out k (Qz O)
 digs:Ql O
 sum:Qc O+65536^k*c=Qc (L.take k)+Qc (K.take k)
 top:k<=max L.length K.length\/(k=max L.length K.length+1/\c=0/\65536^(k-1)<=Qc O)
 b:Below w.heap.size w wr
theorem Gv.start(L K:List Nat)(w:World):Gv L K w w (.slice none 0 0) [] 0 0 :=
 ⟨World.ownsRow_nil _ _ _ _,Ql.nil,by simp[Qc],.inl (Nat.zero_le _),Below.refl _ _⟩
theorem Gv.step{L K:List Nat}{w wr:World}{out:Value}{O:List Nat}{k c:Nat}(h:Gv L K w wr out O k c){w1:World}{v1:Value}{z:Int}(s:Nat)
  (hO:Qb (w1.ownsRow w.heap.size 113 1 v1 (k+1) (Qz O++[.int .u32 z]))) (hb:Below w.heap.size w w1) (hz:z=((s%65536:Nat):Int)) (hs:s=c+(dg L k+dg K k)) (hend:max L.length K.length<=k->k=max L.length K.length/\0<c/\s/65536=0/\s<65536) :
  Gv L K w w1 v1 (O++[s%65536]) (k+1) (s/65536):=by
 obtain⟨h1,h2,h3,h4,_⟩:=h;refine⟨No _ hO hz,h2.snoc (Nat.mod_lt _ (by omega)),?_,?_,hb⟩
 .rw[Wo,Zn h1,Xc,Xc,Nat.pow_succ];have:=Rj h3 hs;rw[Nat.mul_add]at this;omega
 .by_cases hk:k<max L.length K.length
  .exact .inl hk
  .obtain⟨e1,e2,e3,e4⟩:=hend (by omega);refine .inr ⟨by omega,e3,?_⟩;rw[Wo,Zn h1,Nat.add_sub_cancel];have:dg L k=0:=Jm (by omega);have:dg K k=0:=Jm (by omega);have h5:65536^k*1<=65536^k*(s%65536):=Nat.mul_le_mul_left _ (by omega);omega
theorem Gv.fin{L K:List Nat}{m n:Nat}{w wr:World}{out:Value}{O:List Nat}{k:Nat}(hc:Zf L m)(kc:Zf K n)(h:Gv L K w wr out O k 0)(hk:max L.length K.length<=k):Dg wr out (m+n):=by
 obtain⟨h1,h2,h3,h4,_⟩:=h;rw[Xu (by omega),Xu (by omega),hc.val,kc.val]at h3;refine⟨O,Sl.of_own h1,Zf.mk_top h2 (by omega) ?_⟩;rw[Zn h1];intro h0;rcases h4 with h4|⟨_,_,h4⟩
 .have e:k=max L.length K.length:=by omega
  by_cases hlk:L.length<=K.length
  .have:=kc.top (by intro hl;have hl0:K.length=0:=(by rw[hl];rfl);omega);rw[show K.length=k by omega]at this;omega
  .have:=hc.top (by intro hl;have hl0:L.length=0:=(by rw[hl];rfl);omega);rw[show L.length=k by omega]at this;omega
 .omega
theorem Rp{m n:Nat}{u v:Value}{w:World}(h:Dg w u m)(k:Dg w v n)(hs:Sm m)(ks:Sm n) :
  Calls Tryz.prog 142 #[u,v] w fun e w'=>∃u,e=.returned u/\Dg w' u (m+n)/\Below w.heap.size w w':=by
 obtain⟨L,hL,hc⟩:=h;obtain⟨K,hK,kc⟩:=k;have hlen:=hs.len hc;have klen:=ks.len kc;obtain⟨a,c,rfl,hcell⟩:=(Sl.form hL)
 obtain⟨a',c',rfl,kcell⟩:=(Sl.form hK)
 have HC:=h_ hcell;have HK:=h_ kcell;have HL:=h_ hc;have HM:=h_ kc;clear hcell kcell hL hK hc kc hs ks;go_enter Tryz.func142,Tryz.ntmps142;go_wp2
 go_loopw [5,6,7] (fun out cc i wr=>∃(k c:Nat) (O:List Nat),i=.int .i64 k/\cc=.int .u32 c/\k<=max L.length K.length+1/\c<=1/\Qb (Gv L K w wr out O k c)) (fun _ _ i _=>max L.length K.length+1-(intOf i).toNat)
 case atStart=>exact⟨0,0,[],rfl,rfl,by omega,by omega,Gv.start _ _ _⟩
 case round =>
  obtain⟨k,cc,O,rfl,rfl,hk,hcc,hh⟩:=hrel;have hO:=hh.o.own;have hb:=hh.o.b;by_cases h1:k<L.length
  .by_cases h2:k<K.length
   .have d1:=Qy HL.o.digs k;obtain⟨b1,o1,rfl,hc1⟩:=HC.o (by omega);have x1:wr.cell? ⟨b1,o1+k,none⟩=some (.int .u32 (dg L k:Nat)):=Qj hb (Nat.le_refl _) (hc1 k _ (Qu h1));clear hc1;generalize hD1:dg L k=y1 at d1 x1;have HD1:=h_ hD1;clear hD1;have d2:=Qy HM.o.digs k;obtain⟨b2,o2,rfl,hc2⟩:=HK.o (by omega);have x2:wr.cell? ⟨b2,o2+k,none⟩=some (.int .u32 (dg K k:Nat)):=Qj hb (Nat.le_refl _) (hc2 k _ (Qu h2));clear hc2;generalize hD2:dg K k=y2 at d2 x2;have HD2:=h_ hD2;clear hD2;go_wp2_with (at_builtin;refine Zj rfl (.tmp 46) (.tmp 49) 63 rfl w.heap.size 113 (.int .u32 0) 4 Tryz.underlying63 Tryz.info113 rfl (by decide) _ _ _ rfl _ 1 rfl rfl hO hb hb.size (by omega) ?_)
    intro v1 w1 hown1 hb1 _;have HH:=h_ (hh.o.step (cc+y1+y2) hown1 hb1 (by omega) (by rw[HD1.o,HD2.o];omega) (fun _=>by omega));clear hown1 hb1 hO hb;go_wp2;go_roundw
    case rel=>exact⟨k+1,(cc+y1+y2)/65536,_,by go_num,by go_num,by omega,by omega,HH⟩
    case measure=>simp[intOf];omega
   .have z2:dg K k=0:=Jm (by omega);have HZ:=h_ z2;clear z2;have g2:decide (k<K.length)=false:=decide_eq_false h2;have d1:=Qy HL.o.digs k;obtain⟨b1,o1,rfl,hc1⟩:=HC.o (by omega);have x1:wr.cell? ⟨b1,o1+k,none⟩=some (.int .u32 (dg L k:Nat)):=Qj hb (Nat.le_refl _) (hc1 k _ (Qu h1));clear hc1;generalize hD1:dg L k=y1 at d1 x1;have HD1:=h_ hD1;clear hD1;go_wp2_with (at_builtin;refine Zj rfl (.tmp 46) (.tmp 49) 63 rfl w.heap.size 113 (.int .u32 0) 4 Tryz.underlying63 Tryz.info113 rfl (by decide) _ _ _ rfl _ 1 rfl rfl hO hb hb.size (by omega) ?_)
    intro v1 w1 hown1 hb1 _;have HH:=h_ (hh.o.step (cc+y1) hown1 hb1 (by omega) (by rw[HD1.o,HZ.o];omega) (fun _=>by omega));clear hown1 hb1 hO hb;go_wp2;go_roundw
    case rel=>exact⟨k+1,(cc+y1)/65536,_,by go_num,by go_num,by omega,by omega,HH⟩
    case measure=>simp[intOf];omega
  .have g1:decide (k<L.length)=false:=decide_eq_false h1;by_cases h2:k<K.length
   .have z1:dg L k=0:=Jm (by omega);have HZ:=h_ z1;clear z1;have d2:=Qy HM.o.digs k;obtain⟨b2,o2,rfl,hc2⟩:=HK.o (by omega);have x2:wr.cell? ⟨b2,o2+k,none⟩=some (.int .u32 (dg K k:Nat)):=Qj hb (Nat.le_refl _) (hc2 k _ (Qu h2));clear hc2;generalize hD2:dg K k=y2 at d2 x2;have HD2:=h_ hD2;clear hD2;go_wp2_with (at_builtin;refine Zj rfl (.tmp 46) (.tmp 49) 63 rfl w.heap.size 113 (.int .u32 0) 4 Tryz.underlying63 Tryz.info113 rfl (by decide) _ _ _ rfl _ 1 rfl rfl hO hb hb.size (by omega) ?_)
    intro v1 w1 hown1 hb1 _;have HH:=h_ (hh.o.step (cc+y2) hown1 hb1 (by omega) (by rw[HZ.o,HD2.o];omega) (fun _=>by omega));clear hown1 hb1 hO hb;go_wp2;go_roundw
    case rel=>exact⟨k+1,(cc+y2)/65536,_,by go_num,by go_num,by omega,by omega,HH⟩
    case measure=>simp[intOf];omega
   .have g2:decide (k<K.length)=false:=decide_eq_false h2;by_cases h3:0<cc
    .have z1:dg L k=0:=Jm (by omega);have z2:dg K k=0:=Jm (by omega);have hkk:k=max L.length K.length:=by rcases hh.o.top with h|⟨_,h,_⟩<;>omega
     have HZ1:=h_ z1;have HZ2:=h_ z2;have HKK:=h_ hkk;clear z1 z2 hkk;go_wp2_with (at_builtin;refine Zj rfl (.tmp 46) (.tmp 49) 63 rfl w.heap.size 113 (.int .u32 0) 4 Tryz.underlying63 Tryz.info113 rfl (by decide) _ _ _ rfl _ 1 rfl rfl hO hb hb.size (by omega) ?_)
     intro v1 w1 hown1 hb1 _;have HH:=h_ (hh.o.step (cc) hown1 hb1 (by omega) (by rw[HZ1.o,HZ2.o];omega) (fun _=>⟨HKK.o,h3,by omega,by omega⟩));clear hown1 hb1 hO hb;go_wp2;go_roundw
     case rel=>exact⟨k+1,(cc)/65536,_,by go_num,by go_num,by have:=HKK.o;omega,by omega,HH⟩
     case measure=>simp[intOf];have:=HKK.o;omega
    .obtain rfl:cc=0:=by omega
     have HF:=h_ (Gv.fin HL.o HM.o hh.o (by omega));clear hO;go_wp2;go_ret;exact⟨_,rfl,HF.o,hb⟩
end Go.Proofs.YtobpioceopfkpaaGreatDoor.Rf
set_option exponentiation.threshold 9000
namespace Go.Proofs.YtobpioceopfkpaaGreatDoor.Rf
open Go.RowKit
open World (setCell alloc drew)
open List (set_cons_zero set_cons_succ setIfInBounds_toArray cons_append nil_append)
theorem Cd(n e:Nat)(h:n≠0):(n*2^e).log2=n.log2+e:=by
 have h2:n*2^e≠0:=Nat.mul_ne_zero h (Nat.ne_of_gt (Nat.two_pow_pos e));apply Nat.le_antisymm
 .have:n*2^e<2^(n.log2+e+1):=by rw[show n.log2+e+1=(n.log2+1)+e by omega,Nat.pow_add 2 (n.log2+1)];exact Nat.mul_lt_mul_of_pos_right Nat.lt_log2_self (Nat.two_pow_pos e)
  have:=(Nat.log2_lt h2).2 this;omega
 .rw[Nat.le_log2 h2,Nat.pow_add];exact Nat.mul_le_mul_right _ (Nat.log2_self_le h)
def sg(neg:Bool)(n:Nat):Int:=if neg then -(n:Int)else n
def Uw(b:Nat):Nat:=b/2^52%2048
def Uv(b:Nat):Nat:=b%2^52
theorem Qgj(b:Nat):Uw b<2048:=Nat.mod_lt _ (by decide)
theorem Ej(b:Nat):Uv b<2^52:=Nat.mod_lt _ (by decide)
def Zd(r:Nat):Nat:=if r<2^52 then r else(2^52+r%2^52)*2^(r/2^52-1)
def Km:Nat:=2047*2^52
def Dv(w:Nat):Bool:=w/2^63%2==1
def val(w:Nat):Int:=sg (Dv w) (Zd (w%2^63))
theorem Pb(L k:Nat)(h:L=0/\k<=2^53\/2^52<=k/\k<=2^53):Zd (L*2^52+k)=k*2^L:=by
 unfold Zd;rcases h with⟨rfl,h⟩|⟨h1,h2⟩
 .split
  .omega
  .by_cases hk:k=2^53
   .subst hk;rw[show(0*2^52+2^53)%2^52=0 by omega,show(0*2^52+2^53)/2^52-1=1 by omega]
   .rw[show(0*2^52+k)%2^52=k-2^52 by omega,show(0*2^52+k)/2^52-1=0 by omega];omega
 .have h0:¬(L*2^52+k<2^52):=by omega
  rw[if_neg h0];by_cases hk:k=2^53
  .subst hk;rw[show(L*2^52+2^53)%2^52=0 by omega,show(L*2^52+2^53)/2^52-1=L+1 by omega,Nat.pow_succ 2 L];omega
  .rw[show(L*2^52+k)%2^52=k-2^52 by omega,show(L*2^52+k)/2^52-1=L by omega,show 2^52+(k-2^52)=k by omega]
theorem Ii(r:Nat):∃L k,r=L*2^52+k/\(L=0/\k<2^53\/2^52<=k/\k<2^53)/\Zd r=k*2^L:=by
 by_cases h:r<2^52
 .exact⟨0,r,by omega,.inl ⟨rfl,by omega⟩,by simp[Zd,h]⟩
 .have:=Pb (r/2^52-1) (2^52+r%2^52) (.inr ⟨by omega,by omega⟩);rw[show(r/2^52-1)*2^52+(2^52+r%2^52)=r by omega]at this;exact⟨r/2^52-1,2^52+r%2^52,by omega,.inr ⟨by omega,by omega⟩,this⟩
theorem Ho(r:Nat):Zd r<Zd (r+1):=by
 obtain⟨L,k,hr,hk,hm⟩:=Ii r;have h2:Zd (r+1)=(k+1)*2^L:=by rw[hr,Nat.add_assoc];exact Pb L (k+1) (by omega)
 rw[hm,h2];exact Nat.mul_lt_mul_of_pos_right (by omega) (Nat.two_pow_pos L)
theorem Lx{a b:Nat}(h:a<b):Zd a<Zd b:=by
 induction b with
 | zero=>omega
 | succ b ih =>
  rcases Nat.lt_or_eq_of_le (Nat.le_of_lt_succ h)with h1|h1
  .exact Nat.lt_trans (ih h1) (Ho b)
  .subst h1;exact Ho a
theorem Ly{a b:Nat}(h:a<=b):Zd a<=Zd b:=by
 rcases Nat.lt_or_eq_of_le h with h1|h1
 .exact Nat.le_of_lt (Lx h1)
 .rw[h1];exact Nat.le_refl _
theorem Qa4:Zd 0=0:=by simp[Zd]
theorem Nr:Zd Km=2^2098:=by have:=Pb 2046 (2^52) (.inr ⟨Nat.le_refl _,by omega⟩);rw[show 2046*2^52+2^52=Km by decide]at this;rw[this,<-Nat.pow_add]
theorem Qh8(neg:Bool)(a b:Nat):sg neg (a*b)=sg neg a*b:=by unfold sg;split<;>simp[Int.neg_mul]
theorem Qas(neg:Bool)(n:Nat):(sg neg n).natAbs=n:=by unfold sg;split<;>simp
theorem Qft(b:Nat):b%2^63=Uw b*2^52+Uv b:=by unfold Uw Uv;omega
theorem Qa5(b:Nat):Zd (b%2^63)=if Uw b=0 then Uv b else(2^52+Uv b)*2^(Uw b-1):=by
 have hf:=Ej b;rw[Qft];unfold Zd;by_cases h:Uw b=0
 .rw[if_pos h,h,if_pos (by omega)];omega
 .rw[if_neg h,if_neg (by omega),show(Uw b*2^52+Uv b)%2^52=Uv b by omega,show(Uw b*2^52+Uv b)/2^52=Uw b by omega]
end Go.Proofs.YtobpioceopfkpaaGreatDoor.Rf
