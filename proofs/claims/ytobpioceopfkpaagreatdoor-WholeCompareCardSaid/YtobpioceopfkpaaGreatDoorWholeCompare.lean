/-
  WholeCompare returns true, whatever its arguments; the listed table is tied to the program's text.
-/
import Derived.Test.YtobpioceopfkpaaGreatDoorM31
import Derived.Test.YtobpioceopfkpaaGreatDoorM30
import Derived.Test.YtobpioceopfkpaaGreatDoorM09
import Derived.Test.YtobpioceopfkpaaGreatDoorTie
import Derived.Test.YtobpioceopfkpaaGreatDoorCards
import Derived.SevenTiedAt
namespace Go.Proofs.YtobpioceopfkpaaGreatDoor.wholeCompare
open Go.ChangeShapes Go.WideShapes Go.ChangeAt Go.RowKit
theorem Qk3 (w:World) (t:Qq w) (a0:Int) (w0:(Lit.int .u64 a0).wf=true) (a1:Int) (w1:(Lit.int .i8 a1).wf=true) (a2:Int) (w2:(Lit.int .u8 a2).wf=true) :
  Calls Tryz.prog 7 #[.int .u64 a0,.int .i8 a1,.int .u8 a2] w fun e w'=>e=.returned (.bool true)∧Below w.heap.size w w':=by
 simp only[Lit.wf,IntKind.min,IntKind.max,IntKind.signed,IntKind.bits,Bool.and_eq_true]at w0 w1 w2
 obtain⟨x,rfl⟩:∃x:Nat,a0=(x:Int):=⟨a0.toNat,by simp at w0;omega⟩
 obtain⟨k,rfl⟩:∃x:Nat,a2=(x:Int):=⟨a2.toNat,by simp at w2;omega⟩
 have hx:x<18446744073709551616:=by simp at w0;omega
 have hn:-128≤a1∧a1≤127:=by simp at w1;omega
 have hk:k<256:=by simp at w2;omega
 exact Ck t hx hn hk (fun _ t=>Qg7 t)
set_option linter.unusedVariables false
set_option maxRecDepth 100000 in
theorem Qit (os:Os) (started:os.Started) (H:Type) (enc:TypeId×Value→H) :
  ReturnsInHanded {} Tryz.checked os 7 .any (fun w args=>(Rows.wholeCompareSpec.pre enc Tryz.prog Tryz.f7 [] false w args∧laidMetH Tryz.prog laidT w)∧sizedMet enc Tryz.prog Tryz.f7 (OpenSpec.ofChange Rows.wholeCompareSpec) false w args)
   (Rows.wholeCompareSpec.post enc Tryz.prog Tryz.f7 false true false false):=by
 refine returnsInHanded_of_change_and (C:=Tryz.checked) (X:=fun w _=>laidMetH Tryz.prog laidT w) (fun _ _ _ hh h=>h.of_heap hh) Qk6 started (by kernel_rfl) Tryz.func7
  (ChangeSpec.witness_shaped (enc:=enc) (C:=Tryz.checked) (os:=os) (X:=fun w _=>laidMetH Tryz.prog laidT w) false (World.doorLaid Tryz.prog 400 os) #[.int .u64 0,.int .i8 0,.int .u8 0] 8 rfl (World.shaped_of_RefB (by kernel_rfl) (by kernel_rfl)) (by kernel_rfl) (by kernel_rfl) (by kernel_rfl) (Qdi os _)) ?_
 intro W base args ds gs before hval0 hW _ _ hL _
 have hval:∀(j:Nat) t v,Tryz.f7.params[j]?=some t→args[j]?=some v→Value.okWide Tryz.prog W .any base t v:=hval0
 have hW':=hW
 obtain⟨p,q,hA0,hV,rfl,hfz,hnd⟩:=hW
 have hA:DataW.TrodAll enc Tryz.prog W 0 (fun _=>true) true Tryz.f7.params.toList args.toList ds p:=hA0
 rw[Tryz.params7]at hA hval
 obtain⟨v0,vs0,d0,ds0,p0,q0,hargs,rfl,rfl,h0,r0⟩:=trodAll_cons hA
 obtain⟨v1,vs1,d1,ds1,p1,q1,rfl,rfl,rfl,h1,r1⟩:=trodAll_cons r0
 obtain⟨v2,vs2,d2,ds2,p2,q2,rfl,rfl,rfl,h2,r2⟩:=trodAll_cons r1
 obtain⟨rfl,rfl,rfl⟩:=trodAll_nil r2
 obtain rfl:args=#[v0,v1,v2]:=by cases args;simp_all
 obtain⟨rfl,rfl⟩:=trodVars_none hV
 obtain⟨a0,rfl,rfl,rfl,w0⟩:=open_int Tryz.underlying22 (hval 0 22 v0 rfl rfl) h0
 obtain⟨a1,rfl,rfl,rfl,w1⟩:=open_int Tryz.underlying53 (hval 1 53 v1 rfl rfl) h1
 obtain⟨a2,rfl,rfl,rfl,w2⟩:=open_int Tryz.underlying5 (hval 2 5 v2 rfl rfl) h2
 clear hA0 hval0
 simp only[List.append_nil]at hW'
 refine(Qk3 W (Br hL) a0 w0 a1 w1 a2 w2).mono fun e W' ⟨he,bel⟩=>?_
 subst he
 exact⟨_,rfl,_,_,_,[],_,[],hW',trodAll_mk1 (shut_bool Tryz.underlying4 _),(trodAll_cons_mk (shut_int Tryz.underlying22 w0) (trodAll_cons_mk (shut_int Tryz.underlying53 w1) (trodAll_cons_mk (shut_int Tryz.underlying5 w2) trodAll_mk0))),rfl,bel.frame _,fun h=>by cases h⟩
theorem over:Rows.wholeCompareRow.holds Tryz.pinned (OpenSpec.ofChange Rows.wholeCompareSpec) :=
 OpenClaim.holds_of_wide 7 Tryz.f7 rfl rfl rfl rfl rfl rfl rfl ⟨rfl,rfl,rfl,rfl,rfl⟩ rfl rfl rfl rfl rfl (by kernel_rfl) Tryz.func7 (by kernel_rfl)
  (of_decide_eq_true (by kernel_rfl)) (by unfold Func.isWrapper;first|(rw[if_pos (by decide +kernel)];kernel_rfl)|(rw[if_neg (by decide +kernel)];exact⟨rfl,rfl⟩))
  (fun os started H enc _=>Qit os started H enc)
theorem proved:Rows.WholeCompareCardSaid :=
 Claim7.holds_tied_plain_at .later [] [.data] true (true, "ae838f335373304e1185b5c1dc01eb00db6236a9c5023a181eaeb815c0483d22") false
  over (fun _ h=>by cases h) (by kernel_rfl) (fun _ h=>by cases h) wholeCompare_row_tie rfl ⟨rfl,rfl⟩ (by kernel_rfl) rfl
  (fun f fn hf hfn=>by
   obtain rfl : f = 7 := Option.some.inj ((show Tryz.prog.funcNamed "planimeter/planimetertop.WholeCompare" = some 7 by kernel_rfl).symm.trans hf) |>.symm
   obtain rfl:fn=Tryz.f7:=(Option.some.inj (Tryz.func7.symm.trans hfn)).symm
   exact⟨by kernel_rfl,fun j t ht=>by
    rw[Tryz.params7]at ht
    have h3:t=5∨t=22∨t=53:=by
     rcases j with _|j
     · simp at ht;subst ht;decide
     rcases j with _|j
     · simp at ht;subst ht;decide
     rcases j with _|j
     · simp at ht;subst ht;decide
     simp at ht
    rcases h3 with rfl|rfl|rfl
    · exact(show Tryz.prog.wantsStandIn 5=false by kernel_rfl)
    · exact(show Tryz.prog.wantsStandIn 22=false by kernel_rfl)
    · exact(show Tryz.prog.wantsStandIn 53=false by kernel_rfl)
   ⟩)
  (by kernel_rfl)
end Go.Proofs.YtobpioceopfkpaaGreatDoor.wholeCompare
