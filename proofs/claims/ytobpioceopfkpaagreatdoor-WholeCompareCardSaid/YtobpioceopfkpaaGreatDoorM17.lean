/-
  Lemmas for WholeCompare (part 17); without conditions.
-/
import Derived.Test.YtobpioceopfkpaaGreatDoorM13
import Derived.Test.YtobpioceopfkpaaGreatDoorM12
set_option maxRecDepth 100000
set_option maxHeartbeats 4000000
namespace Go.Proofs.YtobpioceopfkpaaGreatDoor
open Go.RowKit
open World (setCell alloc drew)
open List (set_cons_zero set_cons_succ setIfInBounds_toArray cons_append nil_append)
def Uq:Dn:=⟨false,18014398509481983,-54⟩
def Gi:Dn:=⟨false,1,0⟩
theorem Qhe{w:World}{u:Value}(hu:Ry w u Gi):Calls Tryz.prog 40 #[u,.bool true,.int .i64 0] w fun e w'=>e=.returned (.tuple #[.int .u64 4607182418800017408,.int .u8 1,.int .i64 0])/\Below w.heap.size w w' :=
 Su hu ⟨by decide,by decide,by decide⟩ (by decide) (by decide) true 0 (by decide) (0) (by decide) (by decide) (-52) (by decide) (by decide) 4503599627370496 true (by decide) (by decide) (0) (by decide) (by decide) (by decide) (by decide) 52 (by decide) 4503599627370496 (by decide) (by decide) (by decide) 4607182418800017408 (by kernel_rfl)
theorem Qd2{w:World}{u:Value}(hu:Ry w u Uq):Calls Tryz.prog 40 #[u,.bool true,.int .i64 0] w fun e w'=>e=.returned (.tuple #[.int .u64 4607182418800017408,.int .u8 1,.int .i64 0])/\Below w.heap.size w w' :=
 Su hu ⟨by decide,by decide,by decide⟩ (by decide) (by decide) true 0 (by decide) (-1) (by decide) (by decide) (1) (by decide) (by decide) 9007199254740992 true (by decide) (by decide) (0) (by decide) (by decide) (by decide) (by decide) 52 (by decide) 4503599627370496 (by decide) (by decide) (by decide) 4607182418800017408 (by kernel_rfl)
theorem Qhd{w:World}{u:Value}(hu:Ry w u Gi):Calls Tryz.prog 40 #[u,.bool true,.int .i64 1] w fun e w'=>e=.returned (.tuple #[.int .u64 4607182418800017408,.int .u8 1,.int .i64 0])/\Below w.heap.size w w' :=
 Su hu ⟨by decide,by decide,by decide⟩ (by decide) (by decide) true 1 (by decide) (0) (by decide) (by decide) (-52) (by decide) (by decide) 4503599627370496 true (by decide) (by decide) (0) (by decide) (by decide) (by decide) (by decide) 52 (by decide) 4503599627370496 (by decide) (by decide) (by decide) 4607182418800017408 (by kernel_rfl)
theorem Qd1{w:World}{u:Value}(hu:Ry w u Uq):Calls Tryz.prog 40 #[u,.bool true,.int .i64 1] w fun e w'=>e=.returned (.tuple #[.int .u64 4607182418800017407,.int .u8 1,.int .i64 0])/\Below w.heap.size w w' :=
 Su hu ⟨by decide,by decide,by decide⟩ (by decide) (by decide) true 1 (by decide) (-1) (by decide) (by decide) (1) (by decide) (by decide) 9007199254740991 true (by decide) (by decide) (-1) (by decide) (by decide) (by decide) (by decide) 0 (by decide) 9007199254740991 (by decide) (by decide) (by decide) 4607182418800017407 (by kernel_rfl)
theorem Qhc{w:World}{u:Value}(hu:Ry w u Gi):Calls Tryz.prog 40 #[u,.bool true,.int .i64 2] w fun e w'=>e=.returned (.tuple #[.int .u64 4607182418800017409,.int .u8 1,.int .i64 0])/\Below w.heap.size w w' :=
 Su hu ⟨by decide,by decide,by decide⟩ (by decide) (by decide) true 2 (by decide) (0) (by decide) (by decide) (-52) (by decide) (by decide) 4503599627370497 true (by decide) (by decide) (0) (by decide) (by decide) (by decide) (by decide) 0 (by decide) 4503599627370497 (by decide) (by decide) (by decide) 4607182418800017409 (by kernel_rfl)
theorem Qd0{w:World}{u:Value}(hu:Ry w u Uq):Calls Tryz.prog 40 #[u,.bool true,.int .i64 2] w fun e w'=>e=.returned (.tuple #[.int .u64 4607182418800017408,.int .u8 1,.int .i64 0])/\Below w.heap.size w w' :=
 Su hu ⟨by decide,by decide,by decide⟩ (by decide) (by decide) true 2 (by decide) (-1) (by decide) (by decide) (1) (by decide) (by decide) 9007199254740992 true (by decide) (by decide) (0) (by decide) (by decide) (by decide) (by decide) 52 (by decide) 4503599627370496 (by decide) (by decide) (by decide) 4607182418800017408 (by kernel_rfl)
theorem Qhb{w:World}{u:Value}(hu:Ry w u Gi):Calls Tryz.prog 40 #[u,.bool true,.int .i64 3] w fun e w'=>e=.returned (.tuple #[.int .u64 4607182418800017408,.int .u8 1,.int .i64 0])/\Below w.heap.size w w' :=
 Su hu ⟨by decide,by decide,by decide⟩ (by decide) (by decide) true 3 (by decide) (0) (by decide) (by decide) (-52) (by decide) (by decide) 4503599627370496 true (by decide) (by decide) (0) (by decide) (by decide) (by decide) (by decide) 52 (by decide) 4503599627370496 (by decide) (by decide) (by decide) 4607182418800017408 (by kernel_rfl)
theorem Qdz{w:World}{u:Value}(hu:Ry w u Uq):Calls Tryz.prog 40 #[u,.bool true,.int .i64 3] w fun e w'=>e=.returned (.tuple #[.int .u64 4607182418800017407,.int .u8 1,.int .i64 0])/\Below w.heap.size w w' :=
 Su hu ⟨by decide,by decide,by decide⟩ (by decide) (by decide) true 3 (by decide) (-1) (by decide) (by decide) (1) (by decide) (by decide) 9007199254740991 true (by decide) (by decide) (-1) (by decide) (by decide) (by decide) (by decide) 0 (by decide) 9007199254740991 (by decide) (by decide) (by decide) 4607182418800017407 (by kernel_rfl)
def Ki(z:Int):Int:=if z=2 then 4607182418800017409 else 4607182418800017408
def Kj(z:Int):Int:=if z=1\/z=3 then 4607182418800017407 else 4607182418800017408
theorem By{w:World}(t:Qq w)(z:Int)(hz:0<=z/\z<=3):Calls Tryz.prog 92 #[.int .i64 3,.bool false,.int .i64 z] w fun e w'=>e=.returned (.tuple #[.int .u64 (Ki z),.int .u8 1,.bool true])/\Below w.heap.size w w':=by
 have HT:=h_ t;have HF:=h_ (show Fx w ((w.alloc (.cells #[.int .u64 1] 22)).alloc (.cells #[.bool false,.slice (some ⟨w.heap.size,0,none⟩) 1 1,.int .i64 0] 42)) [(w.heap.size+1,42,#[.bool false,.slice (some ⟨w.heap.size,0,none⟩) 1 1,.int .i64 0])]from by
  have:=((Fx.nil w).alloc (.cells #[.int .u64 1] 22)).new 42 #[.bool false,.slice (some ⟨w.heap.size,0,none⟩) 1 1,.int .i64 0] rfl;simpa using this)
 have HX:=h_ (show Ry ((w.alloc (.cells #[.int .u64 1] 22)).alloc (.cells #[.bool false,.slice (some ⟨w.heap.size,0,none⟩) 1 1,.int .i64 0] 42)) (.agg #[.bool false,.slice (some ⟨w.heap.size,0,none⟩) 1 1,.int .i64 0]) Gi from
  Ry.alloc (w:=w.alloc (.cells #[.int .u64 1] 22)) (d:=Gi) ⟨_,rfl,Vr (Wr t (n:=1) (by decide)),by decide,by decide,by decide⟩ _)
 clear t;rcases(by omega:z=0\/z=1\/z=2\/z=3)with rfl|rfl|rfl|rfl<;>clear hz
 .obtain⟨b,hb⟩:∃b,b=Ki 0:=⟨_,rfl⟩
  rw[<-hb];obtain rfl:b=4607182418800017408:=hb;go_enter Tryz.func92,Tryz.ntmps92;go_upto_region 15 with(fail)
  generalize alloc (alloc _ _) _=w0 at HF HX |-;have c0:=HF.o.c3 0 rfl;go_wp2_with fail;clear c0;refine(Qhe HX.o).mono ?_;rintro q w1 ⟨rfl,hb⟩;have F1:=h_ (HF.o.call hb);clear hb;go_wp2;refine bodyPost_ret (v:=.tuple #[.int .u64 4607182418800017408,.int .u8 1,.bool true]) (by simp[results,Tryz.results92,go_sem]) rfl ?_;exact⟨rfl,F1.o.b⟩
 .obtain⟨b,hb⟩:∃b,b=Ki 1:=⟨_,rfl⟩
  rw[<-hb];obtain rfl:b=4607182418800017408:=hb;go_enter Tryz.func92,Tryz.ntmps92;go_upto_region 15 with(fail)
  generalize alloc (alloc _ _) _=w0 at HF HX |-;have c0:=HF.o.c3 0 rfl;go_wp2_with fail;clear c0;refine(Qhd HX.o).mono ?_;rintro q w1 ⟨rfl,hb⟩;have F1:=h_ (HF.o.call hb);clear hb;go_wp2;refine bodyPost_ret (v:=.tuple #[.int .u64 4607182418800017408,.int .u8 1,.bool true]) (by simp[results,Tryz.results92,go_sem]) rfl ?_;exact⟨rfl,F1.o.b⟩
 .obtain⟨b,hb⟩:∃b,b=Ki 2:=⟨_,rfl⟩
  rw[<-hb];obtain rfl:b=4607182418800017409:=hb;go_enter Tryz.func92,Tryz.ntmps92;go_upto_region 15 with(fail)
  generalize alloc (alloc _ _) _=w0 at HF HX |-;have c0:=HF.o.c3 0 rfl;go_wp2_with fail;clear c0;refine(Qhc HX.o).mono ?_;rintro q w1 ⟨rfl,hb⟩;have F1:=h_ (HF.o.call hb);clear hb;go_wp2;refine bodyPost_ret (v:=.tuple #[.int .u64 4607182418800017409,.int .u8 1,.bool true]) (by simp[results,Tryz.results92,go_sem]) rfl ?_;exact⟨rfl,F1.o.b⟩
 .obtain⟨b,hb⟩:∃b,b=Ki 3:=⟨_,rfl⟩
  rw[<-hb];obtain rfl:b=4607182418800017408:=hb;go_enter Tryz.func92,Tryz.ntmps92;go_upto_region 15 with(fail)
  generalize alloc (alloc _ _) _=w0 at HF HX |-;have c0:=HF.o.c3 0 rfl;go_wp2_with fail;clear c0;refine(Qhb HX.o).mono ?_;rintro q w1 ⟨rfl,hb⟩;have F1:=h_ (HF.o.call hb);clear hb;go_wp2;refine bodyPost_ret (v:=.tuple #[.int .u64 4607182418800017408,.int .u8 1,.bool true]) (by simp[results,Tryz.results92,go_sem]) rfl ?_;exact⟨rfl,F1.o.b⟩
theorem B8{w:World}(t:Qq w)(z:Int)(hz:0<=z/\z<=3):Calls Tryz.prog 92 #[.int .i64 4,.bool false,.int .i64 z] w fun e w'=>e=.returned (.tuple #[.int .u64 (Kj z),.int .u8 1,.bool true])/\Below w.heap.size w w':=by
 have HT:=h_ t;have HF:=h_ (show Fx w ((w.alloc (.cells #[.int .u64 1] 22)).alloc (.cells #[.bool false,.slice (some ⟨w.heap.size,0,none⟩) 1 1,.int .i64 0] 42)) [(w.heap.size+1,42,#[.bool false,.slice (some ⟨w.heap.size,0,none⟩) 1 1,.int .i64 0])]from by
  have:=((Fx.nil w).alloc (.cells #[.int .u64 1] 22)).new 42 #[.bool false,.slice (some ⟨w.heap.size,0,none⟩) 1 1,.int .i64 0] rfl;simpa using this)
 have HX:=h_ (show Ry ((w.alloc (.cells #[.int .u64 1] 22)).alloc (.cells #[.bool false,.slice (some ⟨w.heap.size,0,none⟩) 1 1,.int .i64 0] 42)) (.agg #[.bool false,.slice (some ⟨w.heap.size,0,none⟩) 1 1,.int .i64 0]) Gi from
  Ry.alloc (w:=w.alloc (.cells #[.int .u64 1] 22)) (d:=Gi) ⟨_,rfl,Vr (Wr t (n:=1) (by decide)),by decide,by decide,by decide⟩ _)
 clear t;rcases(by omega:z=0\/z=1\/z=2\/z=3)with rfl|rfl|rfl|rfl<;>clear hz
 .obtain⟨b,hb⟩:∃b,b=Kj 0:=⟨_,rfl⟩
  rw[<-hb];obtain rfl:b=4607182418800017408:=hb;go_enter Tryz.func92,Tryz.ntmps92;go_upto_region 14 with(fail)
  have HTT:=h_ HX.o.tab;generalize alloc (alloc _ _) _=w0 at HF HX HTT |-;have c0:=HF.o.c3 0 rfl;have HF2:=h_ (HF.o.alloc (.cells #[.int .u64 18014398509481983] 22));have HY:=h_ (show Ry (w0.alloc (.cells #[.int .u64 18014398509481983] 22)) (.agg #[.bool false,.slice (some ⟨w0.heap.size,0,none⟩) 1 1,.int .i64 (-54)]) Uq from⟨_,rfl,Vr (Wr HTT.o (n:=18014398509481983) (by decide)),by decide,by decide,by decide⟩);have c1:=HF2.o.c3 0 rfl;go_upto_region 15 with(fail)
  clear c0 c1;obtain⟨f,p⟩:=HF2.o.s3 0 rfl (.bool false) (.slice (some ⟨w0.heap.size,0,none⟩) 1 1) (.int .i64 (-54)) rfl rfl rfl;generalize setCell _ _ _=W at f p |-;have F3:=h_ f;have Y3:=h_ (HY.o.kp p);have c0:=F3.o.c3 0 rfl;go_wp2_with fail;clear c0;refine(Qd2 Y3.o).mono ?_;rintro q w1 ⟨rfl,hb⟩;have F1:=h_ (F3.o.call hb);clear hb;go_wp2;refine bodyPost_ret (v:=.tuple #[.int .u64 4607182418800017408,.int .u8 1,.bool true]) (by simp[results,Tryz.results92,go_sem]) rfl ?_;exact⟨rfl,F1.o.b⟩
 .obtain⟨b,hb⟩:∃b,b=Kj 1:=⟨_,rfl⟩
  rw[<-hb];obtain rfl:b=4607182418800017407:=hb;go_enter Tryz.func92,Tryz.ntmps92;go_upto_region 14 with(fail)
  have HTT:=h_ HX.o.tab;generalize alloc (alloc _ _) _=w0 at HF HX HTT |-;have c0:=HF.o.c3 0 rfl;have HF2:=h_ (HF.o.alloc (.cells #[.int .u64 18014398509481983] 22));have HY:=h_ (show Ry (w0.alloc (.cells #[.int .u64 18014398509481983] 22)) (.agg #[.bool false,.slice (some ⟨w0.heap.size,0,none⟩) 1 1,.int .i64 (-54)]) Uq from⟨_,rfl,Vr (Wr HTT.o (n:=18014398509481983) (by decide)),by decide,by decide,by decide⟩);have c1:=HF2.o.c3 0 rfl;go_upto_region 15 with(fail)
  clear c0 c1;obtain⟨f,p⟩:=HF2.o.s3 0 rfl (.bool false) (.slice (some ⟨w0.heap.size,0,none⟩) 1 1) (.int .i64 (-54)) rfl rfl rfl;generalize setCell _ _ _=W at f p |-;have F3:=h_ f;have Y3:=h_ (HY.o.kp p);have c0:=F3.o.c3 0 rfl;go_wp2_with fail;clear c0;refine(Qd1 Y3.o).mono ?_;rintro q w1 ⟨rfl,hb⟩;have F1:=h_ (F3.o.call hb);clear hb;go_wp2;refine bodyPost_ret (v:=.tuple #[.int .u64 4607182418800017407,.int .u8 1,.bool true]) (by simp[results,Tryz.results92,go_sem]) rfl ?_;exact⟨rfl,F1.o.b⟩
 .obtain⟨b,hb⟩:∃b,b=Kj 2:=⟨_,rfl⟩
  rw[<-hb];obtain rfl:b=4607182418800017408:=hb;go_enter Tryz.func92,Tryz.ntmps92;go_upto_region 14 with(fail)
  have HTT:=h_ HX.o.tab;generalize alloc (alloc _ _) _=w0 at HF HX HTT |-;have c0:=HF.o.c3 0 rfl;have HF2:=h_ (HF.o.alloc (.cells #[.int .u64 18014398509481983] 22));have HY:=h_ (show Ry (w0.alloc (.cells #[.int .u64 18014398509481983] 22)) (.agg #[.bool false,.slice (some ⟨w0.heap.size,0,none⟩) 1 1,.int .i64 (-54)]) Uq from⟨_,rfl,Vr (Wr HTT.o (n:=18014398509481983) (by decide)),by decide,by decide,by decide⟩);have c1:=HF2.o.c3 0 rfl;go_upto_region 15 with(fail)
  clear c0 c1;obtain⟨f,p⟩:=HF2.o.s3 0 rfl (.bool false) (.slice (some ⟨w0.heap.size,0,none⟩) 1 1) (.int .i64 (-54)) rfl rfl rfl;generalize setCell _ _ _=W at f p |-;have F3:=h_ f;have Y3:=h_ (HY.o.kp p);have c0:=F3.o.c3 0 rfl;go_wp2_with fail;clear c0;refine(Qd0 Y3.o).mono ?_;rintro q w1 ⟨rfl,hb⟩;have F1:=h_ (F3.o.call hb);clear hb;go_wp2;refine bodyPost_ret (v:=.tuple #[.int .u64 4607182418800017408,.int .u8 1,.bool true]) (by simp[results,Tryz.results92,go_sem]) rfl ?_;exact⟨rfl,F1.o.b⟩
 .obtain⟨b,hb⟩:∃b,b=Kj 3:=⟨_,rfl⟩
  rw[<-hb];obtain rfl:b=4607182418800017407:=hb;go_enter Tryz.func92,Tryz.ntmps92;go_upto_region 14 with(fail)
  have HTT:=h_ HX.o.tab;generalize alloc (alloc _ _) _=w0 at HF HX HTT |-;have c0:=HF.o.c3 0 rfl;have HF2:=h_ (HF.o.alloc (.cells #[.int .u64 18014398509481983] 22));have HY:=h_ (show Ry (w0.alloc (.cells #[.int .u64 18014398509481983] 22)) (.agg #[.bool false,.slice (some ⟨w0.heap.size,0,none⟩) 1 1,.int .i64 (-54)]) Uq from⟨_,rfl,Vr (Wr HTT.o (n:=18014398509481983) (by decide)),by decide,by decide,by decide⟩);have c1:=HF2.o.c3 0 rfl;go_upto_region 15 with(fail)
  clear c0 c1;obtain⟨f,p⟩:=HF2.o.s3 0 rfl (.bool false) (.slice (some ⟨w0.heap.size,0,none⟩) 1 1) (.int .i64 (-54)) rfl rfl rfl;generalize setCell _ _ _=W at f p |-;have F3:=h_ f;have Y3:=h_ (HY.o.kp p);have c0:=F3.o.c3 0 rfl;go_wp2_with fail;clear c0;refine(Qdz Y3.o).mono ?_;rintro q w1 ⟨rfl,hb⟩;have F1:=h_ (F3.o.call hb);clear hb;go_wp2;refine bodyPost_ret (v:=.tuple #[.int .u64 4607182418800017407,.int .u8 1,.bool true]) (by simp[results,Tryz.results92,go_sem]) rfl ?_;exact⟨rfl,F1.o.b⟩
end Go.Proofs.YtobpioceopfkpaaGreatDoor
