/-
  Lemmas for WholeTurned and WholeGrows and WholeRises, part 32 of 36: what the program's functions do, and plain facts; without conditions.
-/
import Derived.Test.YtobpioceopfkpaaGreatDoorM31
import Derived.Test.YtobpioceopfkpaaGreatDoorM20
import Derived.Test.YtobpioceopfkpaaGreatDoorM18
import Derived.Test.YtobpioceopfkpaaGreatDoorM19
import Derived.LoopN
set_option maxRecDepth 100000
set_option maxHeartbeats 4000000
namespace Go.Proofs.YtobpioceopfkpaaGreatDoor
open Go.RowKit
theorem Blk.kp9 {w:World} {g:Nat} {t:TypeId} {x0 x1 x2 x3 x4 x5 x6 x7 x8:Value} (h:Blk w g t #[x0,x1,x2,x3,x4,x5,x6,x7,x8]) (h2:nlB x2=true) (h3:nlB x3=true) (h4:nlB x4=true) (h5:nlB x5=true) (h6:nlB x6=true) (h7:nlB x7=true) (h8:nlB x8=true) (y2 y3 y4 y5 y6 y7 y8:Value):Kp w (((((((((w.setCell ⟨g,0,none⟩ x0).setCell ⟨g,1,none⟩ x1).setCell ⟨g,2,none⟩ y2).setCell ⟨g,3,none⟩ y3).setCell ⟨g,4,none⟩ y4).setCell ⟨g,5,none⟩ y5).setCell ⟨g,6,none⟩ y6).setCell ⟨g,7,none⟩ y7).setCell ⟨g,8,none⟩ y8):=by
 have p0:Kp _ (w.setCell ⟨g,0,none⟩ x0):=Kp.same (i:=0) h rfl
 have k0:Blk (w.setCell ⟨g,0,none⟩ x0) g t #[x0,x1,x2,x3,x4,x5,x6,x7,x8]:=h.set 0 x0
 have p1:Kp _ ((w.setCell ⟨g,0,none⟩ x0).setCell ⟨g,1,none⟩ x1):=Kp.same (i:=1) k0 rfl
 have k1:Blk ((w.setCell ⟨g,0,none⟩ x0).setCell ⟨g,1,none⟩ x1) g t #[x0,x1,x2,x3,x4,x5,x6,x7,x8]:=k0.set 1 x1
 have p2:Kp _ (((w.setCell ⟨g,0,none⟩ x0).setCell ⟨g,1,none⟩ x1).setCell ⟨g,2,none⟩ y2):=Kp.setnl (i:=2) (x:=x2) k1 rfl h2 y2
 have k2:Blk (((w.setCell ⟨g,0,none⟩ x0).setCell ⟨g,1,none⟩ x1).setCell ⟨g,2,none⟩ y2) g t #[x0,x1,y2,x3,x4,x5,x6,x7,x8]:=k1.set 2 y2
 have p3:Kp _ ((((w.setCell ⟨g,0,none⟩ x0).setCell ⟨g,1,none⟩ x1).setCell ⟨g,2,none⟩ y2).setCell ⟨g,3,none⟩ y3):=Kp.setnl (i:=3) (x:=x3) k2 rfl h3 y3
 have k3:Blk ((((w.setCell ⟨g,0,none⟩ x0).setCell ⟨g,1,none⟩ x1).setCell ⟨g,2,none⟩ y2).setCell ⟨g,3,none⟩ y3) g t #[x0,x1,y2,y3,x4,x5,x6,x7,x8]:=k2.set 3 y3
 have p4:Kp _ (((((w.setCell ⟨g,0,none⟩ x0).setCell ⟨g,1,none⟩ x1).setCell ⟨g,2,none⟩ y2).setCell ⟨g,3,none⟩ y3).setCell ⟨g,4,none⟩ y4):=Kp.setnl (i:=4) (x:=x4) k3 rfl h4 y4
 have k4:Blk (((((w.setCell ⟨g,0,none⟩ x0).setCell ⟨g,1,none⟩ x1).setCell ⟨g,2,none⟩ y2).setCell ⟨g,3,none⟩ y3).setCell ⟨g,4,none⟩ y4) g t #[x0,x1,y2,y3,y4,x5,x6,x7,x8]:=k3.set 4 y4
 have p5:Kp _ ((((((w.setCell ⟨g,0,none⟩ x0).setCell ⟨g,1,none⟩ x1).setCell ⟨g,2,none⟩ y2).setCell ⟨g,3,none⟩ y3).setCell ⟨g,4,none⟩ y4).setCell ⟨g,5,none⟩ y5):=Kp.setnl (i:=5) (x:=x5) k4 rfl h5 y5
 have k5:Blk ((((((w.setCell ⟨g,0,none⟩ x0).setCell ⟨g,1,none⟩ x1).setCell ⟨g,2,none⟩ y2).setCell ⟨g,3,none⟩ y3).setCell ⟨g,4,none⟩ y4).setCell ⟨g,5,none⟩ y5) g t #[x0,x1,y2,y3,y4,y5,x6,x7,x8]:=k4.set 5 y5
 have p6:Kp _ (((((((w.setCell ⟨g,0,none⟩ x0).setCell ⟨g,1,none⟩ x1).setCell ⟨g,2,none⟩ y2).setCell ⟨g,3,none⟩ y3).setCell ⟨g,4,none⟩ y4).setCell ⟨g,5,none⟩ y5).setCell ⟨g,6,none⟩ y6):=Kp.setnl (i:=6) (x:=x6) k5 rfl h6 y6
 have k6:Blk (((((((w.setCell ⟨g,0,none⟩ x0).setCell ⟨g,1,none⟩ x1).setCell ⟨g,2,none⟩ y2).setCell ⟨g,3,none⟩ y3).setCell ⟨g,4,none⟩ y4).setCell ⟨g,5,none⟩ y5).setCell ⟨g,6,none⟩ y6) g t #[x0,x1,y2,y3,y4,y5,y6,x7,x8]:=k5.set 6 y6
 have p7:Kp _ ((((((((w.setCell ⟨g,0,none⟩ x0).setCell ⟨g,1,none⟩ x1).setCell ⟨g,2,none⟩ y2).setCell ⟨g,3,none⟩ y3).setCell ⟨g,4,none⟩ y4).setCell ⟨g,5,none⟩ y5).setCell ⟨g,6,none⟩ y6).setCell ⟨g,7,none⟩ y7):=Kp.setnl (i:=7) (x:=x7) k6 rfl h7 y7
 have k7:Blk ((((((((w.setCell ⟨g,0,none⟩ x0).setCell ⟨g,1,none⟩ x1).setCell ⟨g,2,none⟩ y2).setCell ⟨g,3,none⟩ y3).setCell ⟨g,4,none⟩ y4).setCell ⟨g,5,none⟩ y5).setCell ⟨g,6,none⟩ y6).setCell ⟨g,7,none⟩ y7) g t #[x0,x1,y2,y3,y4,y5,y6,y7,x8]:=k6.set 7 y7
 have p8:Kp _ (((((((((w.setCell ⟨g,0,none⟩ x0).setCell ⟨g,1,none⟩ x1).setCell ⟨g,2,none⟩ y2).setCell ⟨g,3,none⟩ y3).setCell ⟨g,4,none⟩ y4).setCell ⟨g,5,none⟩ y5).setCell ⟨g,6,none⟩ y6).setCell ⟨g,7,none⟩ y7).setCell ⟨g,8,none⟩ y8):=Kp.setnl (i:=8) (x:=x8) k7 rfl h8 y8
 have k8:Blk (((((((((w.setCell ⟨g,0,none⟩ x0).setCell ⟨g,1,none⟩ x1).setCell ⟨g,2,none⟩ y2).setCell ⟨g,3,none⟩ y3).setCell ⟨g,4,none⟩ y4).setCell ⟨g,5,none⟩ y5).setCell ⟨g,6,none⟩ y6).setCell ⟨g,7,none⟩ y7).setCell ⟨g,8,none⟩ y8) g t #[x0,x1,y2,y3,y4,y5,y6,y7,y8]:=k7.set 8 y8
 exact ((((((((p0).trans p1).trans p2).trans p3).trans p4).trans p5).trans p6).trans p7).trans p8
theorem Blk.kp12 {w:World} {g:Nat} {t:TypeId} {x0 x1 x2 x3 x4 x5 x6 x7 x8 x9 x10 x11:Value} (h:Blk w g t #[x0,x1,x2,x3,x4,x5,x6,x7,x8,x9,x10,x11]) (h2:nlB x2=true) (h3:nlB x3=true) (h4:nlB x4=true) (h5:nlB x5=true) (h6:nlB x6=true) (h7:nlB x7=true) (h8:nlB x8=true) (h9:nlB x9=true) (h10:nlB x10=true) (h11:nlB x11=true) (y2 y3 y4 y5 y6 y7 y8 y9 y10 y11:Value):Kp w ((((((((((((w.setCell ⟨g,0,none⟩ x0).setCell ⟨g,1,none⟩ x1).setCell ⟨g,2,none⟩ y2).setCell ⟨g,3,none⟩ y3).setCell ⟨g,4,none⟩ y4).setCell ⟨g,5,none⟩ y5).setCell ⟨g,6,none⟩ y6).setCell ⟨g,7,none⟩ y7).setCell ⟨g,8,none⟩ y8).setCell ⟨g,9,none⟩ y9).setCell ⟨g,10,none⟩ y10).setCell ⟨g,11,none⟩ y11):=by
 have p0:Kp _ (w.setCell ⟨g,0,none⟩ x0):=Kp.same (i:=0) h rfl
 have k0:Blk (w.setCell ⟨g,0,none⟩ x0) g t #[x0,x1,x2,x3,x4,x5,x6,x7,x8,x9,x10,x11]:=h.set 0 x0
 have p1:Kp _ ((w.setCell ⟨g,0,none⟩ x0).setCell ⟨g,1,none⟩ x1):=Kp.same (i:=1) k0 rfl
 have k1:Blk ((w.setCell ⟨g,0,none⟩ x0).setCell ⟨g,1,none⟩ x1) g t #[x0,x1,x2,x3,x4,x5,x6,x7,x8,x9,x10,x11]:=k0.set 1 x1
 have p2:Kp _ (((w.setCell ⟨g,0,none⟩ x0).setCell ⟨g,1,none⟩ x1).setCell ⟨g,2,none⟩ y2):=Kp.setnl (i:=2) (x:=x2) k1 rfl h2 y2
 have k2:Blk (((w.setCell ⟨g,0,none⟩ x0).setCell ⟨g,1,none⟩ x1).setCell ⟨g,2,none⟩ y2) g t #[x0,x1,y2,x3,x4,x5,x6,x7,x8,x9,x10,x11]:=k1.set 2 y2
 have p3:Kp _ ((((w.setCell ⟨g,0,none⟩ x0).setCell ⟨g,1,none⟩ x1).setCell ⟨g,2,none⟩ y2).setCell ⟨g,3,none⟩ y3):=Kp.setnl (i:=3) (x:=x3) k2 rfl h3 y3
 have k3:Blk ((((w.setCell ⟨g,0,none⟩ x0).setCell ⟨g,1,none⟩ x1).setCell ⟨g,2,none⟩ y2).setCell ⟨g,3,none⟩ y3) g t #[x0,x1,y2,y3,x4,x5,x6,x7,x8,x9,x10,x11]:=k2.set 3 y3
 have p4:Kp _ (((((w.setCell ⟨g,0,none⟩ x0).setCell ⟨g,1,none⟩ x1).setCell ⟨g,2,none⟩ y2).setCell ⟨g,3,none⟩ y3).setCell ⟨g,4,none⟩ y4):=Kp.setnl (i:=4) (x:=x4) k3 rfl h4 y4
 have k4:Blk (((((w.setCell ⟨g,0,none⟩ x0).setCell ⟨g,1,none⟩ x1).setCell ⟨g,2,none⟩ y2).setCell ⟨g,3,none⟩ y3).setCell ⟨g,4,none⟩ y4) g t #[x0,x1,y2,y3,y4,x5,x6,x7,x8,x9,x10,x11]:=k3.set 4 y4
 have p5:Kp _ ((((((w.setCell ⟨g,0,none⟩ x0).setCell ⟨g,1,none⟩ x1).setCell ⟨g,2,none⟩ y2).setCell ⟨g,3,none⟩ y3).setCell ⟨g,4,none⟩ y4).setCell ⟨g,5,none⟩ y5):=Kp.setnl (i:=5) (x:=x5) k4 rfl h5 y5
 have k5:Blk ((((((w.setCell ⟨g,0,none⟩ x0).setCell ⟨g,1,none⟩ x1).setCell ⟨g,2,none⟩ y2).setCell ⟨g,3,none⟩ y3).setCell ⟨g,4,none⟩ y4).setCell ⟨g,5,none⟩ y5) g t #[x0,x1,y2,y3,y4,y5,x6,x7,x8,x9,x10,x11]:=k4.set 5 y5
 have p6:Kp _ (((((((w.setCell ⟨g,0,none⟩ x0).setCell ⟨g,1,none⟩ x1).setCell ⟨g,2,none⟩ y2).setCell ⟨g,3,none⟩ y3).setCell ⟨g,4,none⟩ y4).setCell ⟨g,5,none⟩ y5).setCell ⟨g,6,none⟩ y6):=Kp.setnl (i:=6) (x:=x6) k5 rfl h6 y6
 have k6:Blk (((((((w.setCell ⟨g,0,none⟩ x0).setCell ⟨g,1,none⟩ x1).setCell ⟨g,2,none⟩ y2).setCell ⟨g,3,none⟩ y3).setCell ⟨g,4,none⟩ y4).setCell ⟨g,5,none⟩ y5).setCell ⟨g,6,none⟩ y6) g t #[x0,x1,y2,y3,y4,y5,y6,x7,x8,x9,x10,x11]:=k5.set 6 y6
 have p7:Kp _ ((((((((w.setCell ⟨g,0,none⟩ x0).setCell ⟨g,1,none⟩ x1).setCell ⟨g,2,none⟩ y2).setCell ⟨g,3,none⟩ y3).setCell ⟨g,4,none⟩ y4).setCell ⟨g,5,none⟩ y5).setCell ⟨g,6,none⟩ y6).setCell ⟨g,7,none⟩ y7):=Kp.setnl (i:=7) (x:=x7) k6 rfl h7 y7
 have k7:Blk ((((((((w.setCell ⟨g,0,none⟩ x0).setCell ⟨g,1,none⟩ x1).setCell ⟨g,2,none⟩ y2).setCell ⟨g,3,none⟩ y3).setCell ⟨g,4,none⟩ y4).setCell ⟨g,5,none⟩ y5).setCell ⟨g,6,none⟩ y6).setCell ⟨g,7,none⟩ y7) g t #[x0,x1,y2,y3,y4,y5,y6,y7,x8,x9,x10,x11]:=k6.set 7 y7
 have p8:Kp _ (((((((((w.setCell ⟨g,0,none⟩ x0).setCell ⟨g,1,none⟩ x1).setCell ⟨g,2,none⟩ y2).setCell ⟨g,3,none⟩ y3).setCell ⟨g,4,none⟩ y4).setCell ⟨g,5,none⟩ y5).setCell ⟨g,6,none⟩ y6).setCell ⟨g,7,none⟩ y7).setCell ⟨g,8,none⟩ y8):=Kp.setnl (i:=8) (x:=x8) k7 rfl h8 y8
 have k8:Blk (((((((((w.setCell ⟨g,0,none⟩ x0).setCell ⟨g,1,none⟩ x1).setCell ⟨g,2,none⟩ y2).setCell ⟨g,3,none⟩ y3).setCell ⟨g,4,none⟩ y4).setCell ⟨g,5,none⟩ y5).setCell ⟨g,6,none⟩ y6).setCell ⟨g,7,none⟩ y7).setCell ⟨g,8,none⟩ y8) g t #[x0,x1,y2,y3,y4,y5,y6,y7,y8,x9,x10,x11]:=k7.set 8 y8
 have p9:Kp _ ((((((((((w.setCell ⟨g,0,none⟩ x0).setCell ⟨g,1,none⟩ x1).setCell ⟨g,2,none⟩ y2).setCell ⟨g,3,none⟩ y3).setCell ⟨g,4,none⟩ y4).setCell ⟨g,5,none⟩ y5).setCell ⟨g,6,none⟩ y6).setCell ⟨g,7,none⟩ y7).setCell ⟨g,8,none⟩ y8).setCell ⟨g,9,none⟩ y9):=Kp.setnl (i:=9) (x:=x9) k8 rfl h9 y9
 have k9:Blk ((((((((((w.setCell ⟨g,0,none⟩ x0).setCell ⟨g,1,none⟩ x1).setCell ⟨g,2,none⟩ y2).setCell ⟨g,3,none⟩ y3).setCell ⟨g,4,none⟩ y4).setCell ⟨g,5,none⟩ y5).setCell ⟨g,6,none⟩ y6).setCell ⟨g,7,none⟩ y7).setCell ⟨g,8,none⟩ y8).setCell ⟨g,9,none⟩ y9) g t #[x0,x1,y2,y3,y4,y5,y6,y7,y8,y9,x10,x11]:=k8.set 9 y9
 have p10:Kp _ (((((((((((w.setCell ⟨g,0,none⟩ x0).setCell ⟨g,1,none⟩ x1).setCell ⟨g,2,none⟩ y2).setCell ⟨g,3,none⟩ y3).setCell ⟨g,4,none⟩ y4).setCell ⟨g,5,none⟩ y5).setCell ⟨g,6,none⟩ y6).setCell ⟨g,7,none⟩ y7).setCell ⟨g,8,none⟩ y8).setCell ⟨g,9,none⟩ y9).setCell ⟨g,10,none⟩ y10):=Kp.setnl (i:=10) (x:=x10) k9 rfl h10 y10
 have k10:Blk (((((((((((w.setCell ⟨g,0,none⟩ x0).setCell ⟨g,1,none⟩ x1).setCell ⟨g,2,none⟩ y2).setCell ⟨g,3,none⟩ y3).setCell ⟨g,4,none⟩ y4).setCell ⟨g,5,none⟩ y5).setCell ⟨g,6,none⟩ y6).setCell ⟨g,7,none⟩ y7).setCell ⟨g,8,none⟩ y8).setCell ⟨g,9,none⟩ y9).setCell ⟨g,10,none⟩ y10) g t #[x0,x1,y2,y3,y4,y5,y6,y7,y8,y9,y10,x11]:=k9.set 10 y10
 have p11:Kp _ ((((((((((((w.setCell ⟨g,0,none⟩ x0).setCell ⟨g,1,none⟩ x1).setCell ⟨g,2,none⟩ y2).setCell ⟨g,3,none⟩ y3).setCell ⟨g,4,none⟩ y4).setCell ⟨g,5,none⟩ y5).setCell ⟨g,6,none⟩ y6).setCell ⟨g,7,none⟩ y7).setCell ⟨g,8,none⟩ y8).setCell ⟨g,9,none⟩ y9).setCell ⟨g,10,none⟩ y10).setCell ⟨g,11,none⟩ y11):=Kp.setnl (i:=11) (x:=x11) k10 rfl h11 y11
 have k11:Blk ((((((((((((w.setCell ⟨g,0,none⟩ x0).setCell ⟨g,1,none⟩ x1).setCell ⟨g,2,none⟩ y2).setCell ⟨g,3,none⟩ y3).setCell ⟨g,4,none⟩ y4).setCell ⟨g,5,none⟩ y5).setCell ⟨g,6,none⟩ y6).setCell ⟨g,7,none⟩ y7).setCell ⟨g,8,none⟩ y8).setCell ⟨g,9,none⟩ y9).setCell ⟨g,10,none⟩ y10).setCell ⟨g,11,none⟩ y11) g t #[x0,x1,y2,y3,y4,y5,y6,y7,y8,y9,y10,y11]:=k10.set 11 y11
 exact (((((((((((p0).trans p1).trans p2).trans p3).trans p4).trans p5).trans p6).trans p7).trans p8).trans p9).trans p10).trans p11
theorem Blk.kp10 {w:World} {g:Nat} {t:TypeId} {x0 x1 x2 x3 x4 x5 x6 x7 x8 x9 x10 x11:Value} (h:Blk w g t #[x0,x1,x2,x3,x4,x5,x6,x7,x8,x9,x10,x11]) (h2:nlB x2=true) (h3:nlB x3=true) (h4:nlB x4=true) (h5:nlB x5=true) (h6:nlB x6=true) (h7:nlB x7=true) (h8:nlB x8=true) (h9:nlB x9=true) (y2 y3 y4 y5 y6 y7 y8 y9:Value):Kp w ((((((((((w.setCell ⟨g,0,none⟩ x0).setCell ⟨g,1,none⟩ x1).setCell ⟨g,2,none⟩ y2).setCell ⟨g,3,none⟩ y3).setCell ⟨g,4,none⟩ y4).setCell ⟨g,5,none⟩ y5).setCell ⟨g,6,none⟩ y6).setCell ⟨g,7,none⟩ y7).setCell ⟨g,8,none⟩ y8).setCell ⟨g,9,none⟩ y9):=by
 have p0:Kp _ (w.setCell ⟨g,0,none⟩ x0):=Kp.same (i:=0) h rfl
 have k0:Blk (w.setCell ⟨g,0,none⟩ x0) g t #[x0,x1,x2,x3,x4,x5,x6,x7,x8,x9,x10,x11]:=h.set 0 x0
 have p1:Kp _ ((w.setCell ⟨g,0,none⟩ x0).setCell ⟨g,1,none⟩ x1):=Kp.same (i:=1) k0 rfl
 have k1:Blk ((w.setCell ⟨g,0,none⟩ x0).setCell ⟨g,1,none⟩ x1) g t #[x0,x1,x2,x3,x4,x5,x6,x7,x8,x9,x10,x11]:=k0.set 1 x1
 have p2:Kp _ (((w.setCell ⟨g,0,none⟩ x0).setCell ⟨g,1,none⟩ x1).setCell ⟨g,2,none⟩ y2):=Kp.setnl (i:=2) (x:=x2) k1 rfl h2 y2
 have k2:Blk (((w.setCell ⟨g,0,none⟩ x0).setCell ⟨g,1,none⟩ x1).setCell ⟨g,2,none⟩ y2) g t #[x0,x1,y2,x3,x4,x5,x6,x7,x8,x9,x10,x11]:=k1.set 2 y2
 have p3:Kp _ ((((w.setCell ⟨g,0,none⟩ x0).setCell ⟨g,1,none⟩ x1).setCell ⟨g,2,none⟩ y2).setCell ⟨g,3,none⟩ y3):=Kp.setnl (i:=3) (x:=x3) k2 rfl h3 y3
 have k3:Blk ((((w.setCell ⟨g,0,none⟩ x0).setCell ⟨g,1,none⟩ x1).setCell ⟨g,2,none⟩ y2).setCell ⟨g,3,none⟩ y3) g t #[x0,x1,y2,y3,x4,x5,x6,x7,x8,x9,x10,x11]:=k2.set 3 y3
 have p4:Kp _ (((((w.setCell ⟨g,0,none⟩ x0).setCell ⟨g,1,none⟩ x1).setCell ⟨g,2,none⟩ y2).setCell ⟨g,3,none⟩ y3).setCell ⟨g,4,none⟩ y4):=Kp.setnl (i:=4) (x:=x4) k3 rfl h4 y4
 have k4:Blk (((((w.setCell ⟨g,0,none⟩ x0).setCell ⟨g,1,none⟩ x1).setCell ⟨g,2,none⟩ y2).setCell ⟨g,3,none⟩ y3).setCell ⟨g,4,none⟩ y4) g t #[x0,x1,y2,y3,y4,x5,x6,x7,x8,x9,x10,x11]:=k3.set 4 y4
 have p5:Kp _ ((((((w.setCell ⟨g,0,none⟩ x0).setCell ⟨g,1,none⟩ x1).setCell ⟨g,2,none⟩ y2).setCell ⟨g,3,none⟩ y3).setCell ⟨g,4,none⟩ y4).setCell ⟨g,5,none⟩ y5):=Kp.setnl (i:=5) (x:=x5) k4 rfl h5 y5
 have k5:Blk ((((((w.setCell ⟨g,0,none⟩ x0).setCell ⟨g,1,none⟩ x1).setCell ⟨g,2,none⟩ y2).setCell ⟨g,3,none⟩ y3).setCell ⟨g,4,none⟩ y4).setCell ⟨g,5,none⟩ y5) g t #[x0,x1,y2,y3,y4,y5,x6,x7,x8,x9,x10,x11]:=k4.set 5 y5
 have p6:Kp _ (((((((w.setCell ⟨g,0,none⟩ x0).setCell ⟨g,1,none⟩ x1).setCell ⟨g,2,none⟩ y2).setCell ⟨g,3,none⟩ y3).setCell ⟨g,4,none⟩ y4).setCell ⟨g,5,none⟩ y5).setCell ⟨g,6,none⟩ y6):=Kp.setnl (i:=6) (x:=x6) k5 rfl h6 y6
 have k6:Blk (((((((w.setCell ⟨g,0,none⟩ x0).setCell ⟨g,1,none⟩ x1).setCell ⟨g,2,none⟩ y2).setCell ⟨g,3,none⟩ y3).setCell ⟨g,4,none⟩ y4).setCell ⟨g,5,none⟩ y5).setCell ⟨g,6,none⟩ y6) g t #[x0,x1,y2,y3,y4,y5,y6,x7,x8,x9,x10,x11]:=k5.set 6 y6
 have p7:Kp _ ((((((((w.setCell ⟨g,0,none⟩ x0).setCell ⟨g,1,none⟩ x1).setCell ⟨g,2,none⟩ y2).setCell ⟨g,3,none⟩ y3).setCell ⟨g,4,none⟩ y4).setCell ⟨g,5,none⟩ y5).setCell ⟨g,6,none⟩ y6).setCell ⟨g,7,none⟩ y7):=Kp.setnl (i:=7) (x:=x7) k6 rfl h7 y7
 have k7:Blk ((((((((w.setCell ⟨g,0,none⟩ x0).setCell ⟨g,1,none⟩ x1).setCell ⟨g,2,none⟩ y2).setCell ⟨g,3,none⟩ y3).setCell ⟨g,4,none⟩ y4).setCell ⟨g,5,none⟩ y5).setCell ⟨g,6,none⟩ y6).setCell ⟨g,7,none⟩ y7) g t #[x0,x1,y2,y3,y4,y5,y6,y7,x8,x9,x10,x11]:=k6.set 7 y7
 have p8:Kp _ (((((((((w.setCell ⟨g,0,none⟩ x0).setCell ⟨g,1,none⟩ x1).setCell ⟨g,2,none⟩ y2).setCell ⟨g,3,none⟩ y3).setCell ⟨g,4,none⟩ y4).setCell ⟨g,5,none⟩ y5).setCell ⟨g,6,none⟩ y6).setCell ⟨g,7,none⟩ y7).setCell ⟨g,8,none⟩ y8):=Kp.setnl (i:=8) (x:=x8) k7 rfl h8 y8
 have k8:Blk (((((((((w.setCell ⟨g,0,none⟩ x0).setCell ⟨g,1,none⟩ x1).setCell ⟨g,2,none⟩ y2).setCell ⟨g,3,none⟩ y3).setCell ⟨g,4,none⟩ y4).setCell ⟨g,5,none⟩ y5).setCell ⟨g,6,none⟩ y6).setCell ⟨g,7,none⟩ y7).setCell ⟨g,8,none⟩ y8) g t #[x0,x1,y2,y3,y4,y5,y6,y7,y8,x9,x10,x11]:=k7.set 8 y8
 have p9:Kp _ ((((((((((w.setCell ⟨g,0,none⟩ x0).setCell ⟨g,1,none⟩ x1).setCell ⟨g,2,none⟩ y2).setCell ⟨g,3,none⟩ y3).setCell ⟨g,4,none⟩ y4).setCell ⟨g,5,none⟩ y5).setCell ⟨g,6,none⟩ y6).setCell ⟨g,7,none⟩ y7).setCell ⟨g,8,none⟩ y8).setCell ⟨g,9,none⟩ y9):=Kp.setnl (i:=9) (x:=x9) k8 rfl h9 y9
 have k9:Blk ((((((((((w.setCell ⟨g,0,none⟩ x0).setCell ⟨g,1,none⟩ x1).setCell ⟨g,2,none⟩ y2).setCell ⟨g,3,none⟩ y3).setCell ⟨g,4,none⟩ y4).setCell ⟨g,5,none⟩ y5).setCell ⟨g,6,none⟩ y6).setCell ⟨g,7,none⟩ y7).setCell ⟨g,8,none⟩ y8).setCell ⟨g,9,none⟩ y9) g t #[x0,x1,y2,y3,y4,y5,y6,y7,y8,y9,x10,x11]:=k8.set 9 y9
 exact (((((((((p0).trans p1).trans p2).trans p3).trans p4).trans p5).trans p6).trans p7).trans p8).trans p9
def RetTry (PP:Nat→Int→Bool→Prop) (QI:In→Prop) (w:World) (e:Ending) (w':World):Prop:=∃ (B:Nat) (f:Int) (ok:Bool) (n1:Bool) (s1:Option Addr) (l1 d1:Nat) (e1:Int) (n2:Bool) (s2:Option Addr) (l2 d2:Nat) (e2:Int),
 e=.returned (.tuple #[.agg #[.int .u64 (B:Int),.int .u8 f,.int .i64 0,.bool n1,.slice s1 l1 d1,.int .i64 e1,.bool n2,.slice s2 l2 d2,.int .i64 e2],.bool ok])∧PP B f ok∧(ok=false→B=0∧f=0∧∃ I,QI I∧Iv w' (.agg #[.bool n1,.slice s1 l1 d1,.int .i64 e1,.bool n2,.slice s2 l2 d2,.int .i64 e2]) I)∧Below w.heap.size w w'
def zeroI:In:=⟨⟨false,0,0⟩,⟨false,0,0⟩⟩
theorem zero_iv {w:World} (t:Tab w):Iv w (.agg #[.bool false,.slice none 0 0,.int .i64 0,.bool false,.slice none 0 0,.int .i64 0]) zeroI :=
 ⟨none,0,0,none,0,0,rfl,⟨_,rfl,Dg.nil t,by decide,by decide,by decide⟩,⟨_,rfl,Dg.nil t,by decide,by decide,by decide⟩⟩
theorem try_cls {PP:Nat→Int→Bool→Prop} {QI:In→Prop} {w:World} {u:Value} {x y:Dn} {N:Nat} {z tt sg:Int} {c:Int} {B:Nat} {f:Int} {Z:In} {b s:Nat} (hu:Ag w u x y N z tt)
  (cl:∀ w u,Ag w u x y N z tt→Calls Tryz.prog 90 #[u,.int .i64 (b:Int)] w fun e w'=>∃ r,e=.returned (.tuple #[r,.int .i64 (s:Int),.int .i64 0])∧Iv w' r Z∧Below w.heap.size w w')
  (cb:∀ w u,Iv w u Z→Calls Tryz.prog 91 #[u,.int .i64 sg] w fun e w'=>e=.returned (.int .i64 c)∧Below w.heap.size w w') (zc:(c == 0)=false)
  (cr:∀ w,Tab w→Calls Tryz.prog 92 #[.int .i64 c,.bool false,.int .i64 z] w fun e w'=>e=.returned (.tuple #[.int .u64 (B:Int),.int .u8 f,.bool true])∧Below w.heap.size w w') (hp:PP B f true) :
  Calls Tryz.prog 45 #[u,.int .i64 sg,.int .i64 (b:Int)] w (RetTry PP QI w):=by
 have CL:=h_ cl
 have CB:=h_ cb
 have CR:=h_ cr
 obtain ⟨bq,hbq⟩:∃ q:Int,q=(b:Int):=⟨_,rfl⟩
 obtain ⟨sq,hsq⟩:∃ q:Int,q=(s:Int):=⟨_,rfl⟩
 rw [← hbq] at CL ⊢
 rw [← hsq] at CL
 obtain ⟨B',hB'⟩:∃ q:Int,q=(B:Int):=⟨_,rfl⟩
 rw [← hB'] at CR
 have HP:Hid (PP B f true∧(B:Int)=B'):=⟨hp,hB'.symm⟩
 clear hB'
 have HU:=h_ hu
 obtain ⟨a1,k1,c1,a2,k2,c2,rfl,hx,hy⟩:=hu
 obtain ⟨xn,xm,xe⟩:=x
 obtain ⟨yn,ym,ye⟩:=y
 obtain ⟨⟨rn,rm,re⟩,⟨rn',rm',re'⟩⟩:=Z
 simp only at hx hy
 clear hx hy cl cb hp hbq hsq cr
 go_enter Tryz.func45,Tryz.ntmps45
 have F0:=h_ (Fz.two w 58 #[.bool xn,.slice a1 k1 c1,.int .i64 xe,.bool yn,.slice a2 k2 c2,.int .i64 ye,.int .u64 (N:Int),.bool false,.int .i64 z,.int .i64 64,.int .i64 tt] 94 #[.int .u64 0,.int .u8 0,.int .i64 0,.bool false,.slice none 0 0,.int .i64 0,.bool false,.slice none 0 0,.int .i64 0])
 have U0:=h_ ((HU.out.alloc (.cells #[.bool xn,.slice a1 k1 c1,.int .i64 xe,.bool yn,.slice a2 k2 c2,.int .i64 ye,.int .u64 (N:Int),.bool false,.int .i64 z,.int .i64 64,.int .i64 tt] 58)).alloc (.cells #[.int .u64 0,.int .u8 0,.int .i64 0,.bool false,.slice none 0 0,.int .i64 0,.bool false,.slice none 0 0,.int .i64 0] 94))
 clear HU
 go_upto_region 1 with (fail)
 generalize World.alloc (World.alloc _ _) _=w0 at F0 U0 ⊢
 have c0_0:=F0.out.c11 0 rfl
 have c1_0:=F0.out.c9 1 rfl
 go_wp2_with fail
 clear c0_0 c1_0
 refine (CL.out _ _ U0.out).mono ?_
 rintro q w1 ⟨u,rfl,hu,hb⟩
 have F1:=h_ (F0.out.call hb)
 have U1:=h_ (U0.out.below hb)
 clear F0 U0
 have I1:=h_ (hu)
 clear hb
 have c0_1:=F1.out.c11 0 rfl
 have c1_1:=F1.out.c9 1 rfl
 clear U1
 obtain ⟨b7,e7,d7,b8,e8,d8,rfl,h1,h2⟩:=I1.out.fm
 clear h1 h2
 go_upto_region 4 with (fail)
 clear c0_1 c1_1
 have F2:=h_ (F1.out.new 92 #[.bool rn,.slice b7 e7 d7,.int .i64 re,.bool rn',.slice b8 e8 d8,.int .i64 re'])
 have I2:=h_ (I1.out.alloc (.cells #[.bool rn,.slice b7 e7 d7,.int .i64 re,.bool rn',.slice b8 e8 d8,.int .i64 re'] 92))
 clear F1 I1
 obtain ⟨g1,hg1⟩:∃ g,g=(World.heap w1).size:=⟨_,rfl⟩
 rw [← hg1] at F2 ⊢
 clear hg1
 simp only [List.nil_append,List.cons_append] at F2
 generalize World.alloc w1 _=W2 at F2 I2 ⊢
 have c0_2:=F2.out.c11 0 rfl
 have c1_2:=F2.out.c9 1 rfl
 have c2_2:=F2.out.c6 2 rfl
 go_wp2_with fail
 clear c0_2 c1_2 c2_2
 refine (CB.out _ _ I2.out).mono ?_
 rintro q w3 ⟨rfl,hb⟩
 have F3:=h_ (F2.out.call hb)
 have I3:=h_ (I2.out.below hb)
 clear F2 I2
 clear hb
 have c0_3:=F3.out.c11 0 rfl
 have c1_3:=F3.out.c9 1 rfl
 have c2_3:=F3.out.c6 2 rfl
 go_wp2_with fail
 clear c0_3 c1_3 c2_3
 refine (CR.out _ I3.out.tab).mono ?_
 rintro q w4 ⟨rfl,hb⟩
 have F4:=h_ (F3.out.call hb)
 have I4:=h_ (I3.out.below hb)
 clear F3 I3
 clear hb
 have c0_4:=F4.out.c11 0 rfl
 have c1_4:=F4.out.c9 1 rfl
 have c2_4:=F4.out.c6 2 rfl
 go_wp2
 have F:=F4.out.s9 1 rfl ((.int .u64 B')) ((.int .u8 f)) (.int .i64 0) (.bool false) (.slice none 0 0) (.int .i64 0) (.bool false) (.slice none 0 0) (.int .i64 0)
 generalize (World.setCell (World.setCell (World.setCell (World.setCell (World.setCell (World.setCell (World.setCell (World.setCell (World.setCell _ _ _) _ _) _ _) _ _) _ _) _ _) _ _) _ _) _ _)=W at F ⊢
 have g1':=F.c9 1 rfl
 refine bodyPost_ret (v:=.tuple #[.agg #[(.int .u64 B'),(.int .u8 f),.int .i64 0,.bool false,.slice none 0 0,.int .i64 0,.bool false,.slice none 0 0,.int .i64 0],.bool true]) (by simp [results,Tryz.results45,go_sem,g1']) rfl ?_
 obtain ⟨hp,hB⟩:=HP.out
 subst hB
 exact ⟨B,f,true,_,_,_,_,_,_,_,_,_,_,rfl,hp,nofun,F.b⟩
theorem try_err {PP:Nat→Int→Bool→Prop} {QI:In→Prop} {w:World} {u:Value} {x y:Dn} {N:Nat} {z tt sg:Int} {Z:In} {b s:Nat} (hu:Ag w u x y N z tt)
  (cl:∀ w u,Ag w u x y N z tt→Calls Tryz.prog 90 #[u,.int .i64 (b:Int)] w fun e w'=>∃ r,e=.returned (.tuple #[r,.int .i64 (s:Int),.int .i64 0])∧Iv w' r Z∧Below w.heap.size w w')
  (cb:∀ w u,Iv w u Z→Calls Tryz.prog 91 #[u,.int .i64 sg] w fun e w'=>e=.returned (.int .i64 0)∧Below w.heap.size w w')
  (cx:∀ w u,Iv w u Z→Calls Tryz.prog 93 #[u,.int .i64 (s:Int)] w fun e w'=>e=.returned (.tuple #[.agg #[.bool false,.slice none 0 0,.int .i64 0,.bool false,.slice none 0 0,.int .i64 0],.int .i64 1])∧Below w.heap.size w w') (hp:PP 0 0 false) (hq:QI zeroI) :
  Calls Tryz.prog 45 #[u,.int .i64 sg,.int .i64 (b:Int)] w (RetTry PP QI w):=by
 have CL:=h_ cl
 have CB:=h_ cb
 have CX:=h_ cx
 obtain ⟨bq,hbq⟩:∃ q:Int,q=(b:Int):=⟨_,rfl⟩
 obtain ⟨sq,hsq⟩:∃ q:Int,q=(s:Int):=⟨_,rfl⟩
 rw [← hbq] at CL ⊢
 rw [← hsq] at CL CX
 have HP:=h_ hp
 have HQ:=h_ hq
 have HU:=h_ hu
 obtain ⟨a1,k1,c1,a2,k2,c2,rfl,hx,hy⟩:=hu
 obtain ⟨xn,xm,xe⟩:=x
 obtain ⟨yn,ym,ye⟩:=y
 obtain ⟨⟨rn,rm,re⟩,⟨rn',rm',re'⟩⟩:=Z
 simp only at hx hy
 clear hx hy cl cb hp hbq hsq cx hq
 go_enter Tryz.func45,Tryz.ntmps45
 have F0:=h_ (Fz.two w 58 #[.bool xn,.slice a1 k1 c1,.int .i64 xe,.bool yn,.slice a2 k2 c2,.int .i64 ye,.int .u64 (N:Int),.bool false,.int .i64 z,.int .i64 64,.int .i64 tt] 94 #[.int .u64 0,.int .u8 0,.int .i64 0,.bool false,.slice none 0 0,.int .i64 0,.bool false,.slice none 0 0,.int .i64 0])
 have U0:=h_ ((HU.out.alloc (.cells #[.bool xn,.slice a1 k1 c1,.int .i64 xe,.bool yn,.slice a2 k2 c2,.int .i64 ye,.int .u64 (N:Int),.bool false,.int .i64 z,.int .i64 64,.int .i64 tt] 58)).alloc (.cells #[.int .u64 0,.int .u8 0,.int .i64 0,.bool false,.slice none 0 0,.int .i64 0,.bool false,.slice none 0 0,.int .i64 0] 94))
 clear HU
 go_upto_region 1 with (fail)
 generalize World.alloc (World.alloc _ _) _=w0 at F0 U0 ⊢
 have c0_0:=F0.out.c11 0 rfl
 have c1_0:=F0.out.c9 1 rfl
 go_wp2_with fail
 clear c0_0 c1_0
 refine (CL.out _ _ U0.out).mono ?_
 rintro q w1 ⟨u,rfl,hu,hb⟩
 have F1:=h_ (F0.out.call hb)
 have U1:=h_ (U0.out.below hb)
 clear F0 U0
 have I1:=h_ (hu)
 clear hb
 have c0_1:=F1.out.c11 0 rfl
 have c1_1:=F1.out.c9 1 rfl
 clear U1
 obtain ⟨b7,e7,d7,b8,e8,d8,rfl,h1,h2⟩:=I1.out.fm
 clear h1 h2
 go_upto_region 4 with (fail)
 clear c0_1 c1_1
 have F2:=h_ (F1.out.new 92 #[.bool rn,.slice b7 e7 d7,.int .i64 re,.bool rn',.slice b8 e8 d8,.int .i64 re'])
 have I2:=h_ (I1.out.alloc (.cells #[.bool rn,.slice b7 e7 d7,.int .i64 re,.bool rn',.slice b8 e8 d8,.int .i64 re'] 92))
 clear F1 I1
 obtain ⟨g1,hg1⟩:∃ g,g=(World.heap w1).size:=⟨_,rfl⟩
 rw [← hg1] at F2 ⊢
 clear hg1
 simp only [List.nil_append,List.cons_append] at F2
 generalize World.alloc w1 _=W2 at F2 I2 ⊢
 have c0_2:=F2.out.c11 0 rfl
 have c1_2:=F2.out.c9 1 rfl
 have c2_2:=F2.out.c6 2 rfl
 go_wp2_with fail
 clear c0_2 c1_2 c2_2
 refine (CB.out _ _ I2.out).mono ?_
 rintro q w3 ⟨rfl,hb⟩
 have F3:=h_ (F2.out.call hb)
 have I3:=h_ (I2.out.below hb)
 clear F2 I2
 clear hb
 have c0_3:=F3.out.c11 0 rfl
 have c1_3:=F3.out.c9 1 rfl
 have c2_3:=F3.out.c6 2 rfl
 go_wp2_with fail
 clear c0_3 c1_3 c2_3
 refine (CX.out _ _ I3.out).mono ?_
 rintro q w4 ⟨rfl,hb⟩
 have F4:=h_ (F3.out.call hb)
 have I4:=h_ (I3.out.below hb)
 clear F3 I3
 clear hb
 have c0_4:=F4.out.c11 0 rfl
 have c1_4:=F4.out.c9 1 rfl
 have c2_4:=F4.out.c6 2 rfl
 have t:=h_ (I4.out.tab)
 go_upto_region 9 with (fail)
 clear c0_4 c1_4 c2_4
 have F5:=h_ (F4.out.new 92 #[.bool false,.slice none 0 0,.int .i64 0,.bool false,.slice none 0 0,.int .i64 0])
 have I5:=h_ (I4.out.alloc (.cells #[.bool false,.slice none 0 0,.int .i64 0,.bool false,.slice none 0 0,.int .i64 0] 92))
 clear F4 I4
 obtain ⟨g2,hg2⟩:∃ g,g=(World.heap w4).size:=⟨_,rfl⟩
 rw [← hg2] at F5 ⊢
 clear hg2
 simp only [List.nil_append,List.cons_append] at F5
 generalize World.alloc w4 _=W5 at F5 I5 ⊢
 have c0_5:=F5.out.c11 0 rfl
 have c1_5:=F5.out.c9 1 rfl
 have c2_5:=F5.out.c6 2 rfl
 have c3_5:=F5.out.c6 3 rfl
 go_wp2
 have F:=F5.out.s9 1 rfl (.int .u64 0) (.int .u8 0) (.int .i64 0) (.bool false) (.slice none 0 0) (.int .i64 0) (.bool false) (.slice none 0 0) (.int .i64 0)
 have p:=(F5.out.box 1 _ _ _ rfl).kp9 rfl rfl rfl rfl rfl rfl rfl (.int .i64 0) (.bool false) (.slice none 0 0) (.int .i64 0) (.bool false) (.slice none 0 0) (.int .i64 0)
 have HI:=h_ (I5.out.tab.kp p)
 generalize (World.setCell (World.setCell (World.setCell (World.setCell (World.setCell (World.setCell (World.setCell (World.setCell (World.setCell _ _ _) _ _) _ _) _ _) _ _) _ _) _ _) _ _) _ _)=W at F HI ⊢
 have g1':=F.c9 1 rfl
 refine bodyPost_ret (v:=.tuple #[.agg #[.int .u64 0,.int .u8 0,.int .i64 0,.bool false,.slice none 0 0,.int .i64 0,.bool false,.slice none 0 0,.int .i64 0],.bool false]) (by simp [results,Tryz.results45,go_sem,g1']) rfl ?_
 exact ⟨0,0,false,_,_,_,_,_,_,_,_,_,_,rfl,HP.out,fun _=>⟨rfl,rfl,zeroI,HQ.out,zero_iv HI.out⟩,F.b⟩
theorem try_rnd {PP:Nat→Int→Bool→Prop} {QI:In→Prop} {w:World} {u:Value} {x y:Dn} {N:Nat} {z tt sg:Int} {B:Nat} {f:Int} {ok:Bool} {Z I:In} {b s:Nat} (hu:Ag w u x y N z tt)
  (cl:∀ w u,Ag w u x y N z tt→Calls Tryz.prog 90 #[u,.int .i64 (b:Int)] w fun e w'=>∃ r,e=.returned (.tuple #[r,.int .i64 (s:Int),.int .i64 0])∧Iv w' r Z∧Below w.heap.size w w')
  (cb:∀ w u,Iv w u Z→Calls Tryz.prog 91 #[u,.int .i64 sg] w fun e w'=>e=.returned (.int .i64 0)∧Below w.heap.size w w')
  (cx:∀ w u,Iv w u Z→Calls Tryz.prog 93 #[u,.int .i64 (s:Int)] w fun e w'=>∃ r,e=.returned (.tuple #[r,.int .i64 0])∧Iv w' r I∧Below w.heap.size w w')
  (cd:∀ w u,Iv w u I→Calls Tryz.prog 94 #[u,.bool false,.int .i64 z] w fun e w'=>e=.returned (.tuple #[.int .u64 (B:Int),.int .u8 f,.bool ok])∧Below w.heap.size w w') (hp:PP B f ok) (hq:ok=false→B=0∧f=0∧QI I) :
  Calls Tryz.prog 45 #[u,.int .i64 sg,.int .i64 (b:Int)] w (RetTry PP QI w):=by
 have CL:=h_ cl
 have CB:=h_ cb
 have CX:=h_ cx
 have CD:=h_ cd
 obtain ⟨bq,hbq⟩:∃ q:Int,q=(b:Int):=⟨_,rfl⟩
 obtain ⟨sq,hsq⟩:∃ q:Int,q=(s:Int):=⟨_,rfl⟩
 rw [← hbq] at CL ⊢
 rw [← hsq] at CL CX
 obtain ⟨B',hB'⟩:∃ q:Int,q=(B:Int):=⟨_,rfl⟩
 rw [← hB'] at CD
 have HP:Hid (PP B f ok∧(B:Int)=B'):=⟨hp,hB'.symm⟩
 clear hB'
 have HQ:=h_ hq
 have HU:=h_ hu
 obtain ⟨a1,k1,c1,a2,k2,c2,rfl,hx,hy⟩:=hu
 obtain ⟨xn,xm,xe⟩:=x
 obtain ⟨yn,ym,ye⟩:=y
 obtain ⟨⟨rn,rm,re⟩,⟨rn',rm',re'⟩⟩:=Z
 obtain ⟨⟨tn,tm,te⟩,⟨tn',tm',te'⟩⟩:=I
 simp only at hx hy
 clear hx hy cl cb hp hbq hsq cx hq cd
 go_enter Tryz.func45,Tryz.ntmps45
 have F0:=h_ (Fz.two w 58 #[.bool xn,.slice a1 k1 c1,.int .i64 xe,.bool yn,.slice a2 k2 c2,.int .i64 ye,.int .u64 (N:Int),.bool false,.int .i64 z,.int .i64 64,.int .i64 tt] 94 #[.int .u64 0,.int .u8 0,.int .i64 0,.bool false,.slice none 0 0,.int .i64 0,.bool false,.slice none 0 0,.int .i64 0])
 have U0:=h_ ((HU.out.alloc (.cells #[.bool xn,.slice a1 k1 c1,.int .i64 xe,.bool yn,.slice a2 k2 c2,.int .i64 ye,.int .u64 (N:Int),.bool false,.int .i64 z,.int .i64 64,.int .i64 tt] 58)).alloc (.cells #[.int .u64 0,.int .u8 0,.int .i64 0,.bool false,.slice none 0 0,.int .i64 0,.bool false,.slice none 0 0,.int .i64 0] 94))
 clear HU
 go_upto_region 1 with (fail)
 generalize World.alloc (World.alloc _ _) _=w0 at F0 U0 ⊢
 have c0_0:=F0.out.c11 0 rfl
 have c1_0:=F0.out.c9 1 rfl
 go_wp2_with fail
 clear c0_0 c1_0
 refine (CL.out _ _ U0.out).mono ?_
 rintro q w1 ⟨u,rfl,hu,hb⟩
 have F1:=h_ (F0.out.call hb)
 have U1:=h_ (U0.out.below hb)
 clear F0 U0
 have I1:=h_ (hu)
 clear hb
 have c0_1:=F1.out.c11 0 rfl
 have c1_1:=F1.out.c9 1 rfl
 clear U1
 obtain ⟨b7,e7,d7,b8,e8,d8,rfl,h1,h2⟩:=I1.out.fm
 clear h1 h2
 go_upto_region 4 with (fail)
 clear c0_1 c1_1
 have F2:=h_ (F1.out.new 92 #[.bool rn,.slice b7 e7 d7,.int .i64 re,.bool rn',.slice b8 e8 d8,.int .i64 re'])
 have I2:=h_ (I1.out.alloc (.cells #[.bool rn,.slice b7 e7 d7,.int .i64 re,.bool rn',.slice b8 e8 d8,.int .i64 re'] 92))
 clear F1 I1
 obtain ⟨g1,hg1⟩:∃ g,g=(World.heap w1).size:=⟨_,rfl⟩
 rw [← hg1] at F2 ⊢
 clear hg1
 simp only [List.nil_append,List.cons_append] at F2
 generalize World.alloc w1 _=W2 at F2 I2 ⊢
 have c0_2:=F2.out.c11 0 rfl
 have c1_2:=F2.out.c9 1 rfl
 have c2_2:=F2.out.c6 2 rfl
 go_wp2_with fail
 clear c0_2 c1_2 c2_2
 refine (CB.out _ _ I2.out).mono ?_
 rintro q w3 ⟨rfl,hb⟩
 have F3:=h_ (F2.out.call hb)
 have I3:=h_ (I2.out.below hb)
 clear F2 I2
 clear hb
 have c0_3:=F3.out.c11 0 rfl
 have c1_3:=F3.out.c9 1 rfl
 have c2_3:=F3.out.c6 2 rfl
 go_wp2_with fail
 clear c0_3 c1_3 c2_3
 refine (CX.out _ _ I3.out).mono ?_
 rintro q w4 ⟨u,rfl,hu,hb⟩
 have F4:=h_ (F3.out.call hb)
 have I4:=h_ (I3.out.below hb)
 clear F3 I3
 have J4:=h_ (hu)
 clear hb
 have c0_4:=F4.out.c11 0 rfl
 have c1_4:=F4.out.c9 1 rfl
 have c2_4:=F4.out.c6 2 rfl
 clear I4
 obtain ⟨b9,e9,d9,b0,e0,d0,rfl,h1,h2⟩:=J4.out.fm
 clear h1 h2
 go_upto_region 9 with (fail)
 clear c0_4 c1_4 c2_4
 have F5:=h_ (F4.out.new 92 #[.bool tn,.slice b9 e9 d9,.int .i64 te,.bool tn',.slice b0 e0 d0,.int .i64 te'])
 have J5:=h_ (J4.out.alloc (.cells #[.bool tn,.slice b9 e9 d9,.int .i64 te,.bool tn',.slice b0 e0 d0,.int .i64 te'] 92))
 clear F4 J4
 obtain ⟨g2,hg2⟩:∃ g,g=(World.heap w4).size:=⟨_,rfl⟩
 rw [← hg2] at F5 ⊢
 clear hg2
 simp only [List.nil_append,List.cons_append] at F5
 generalize World.alloc w4 _=W5 at F5 J5 ⊢
 have c0_5:=F5.out.c11 0 rfl
 have c1_5:=F5.out.c9 1 rfl
 have c2_5:=F5.out.c6 2 rfl
 have c3_5:=F5.out.c6 3 rfl
 go_wp2_with fail
 clear c0_5 c1_5 c2_5 c3_5
 refine (CD.out _ _ J5.out).mono ?_
 rintro q w6 ⟨rfl,hb⟩
 have F6:=h_ (F5.out.call hb)
 have J6:=h_ (J5.out.below hb)
 clear F5 J5
 clear hb
 have c0_6:=F6.out.c11 0 rfl
 have c1_6:=F6.out.c9 1 rfl
 have c2_6:=F6.out.c6 2 rfl
 have c3_6:=F6.out.c6 3 rfl
 go_wp2
 have F:=F6.out.s9 1 rfl ((.int .u64 B')) ((.int .u8 f)) (.int .i64 0) (.bool tn) (.slice b9 e9 d9) (.int .i64 te) (.bool tn') (.slice b0 e0 d0) (.int .i64 te')
 have p:=(F6.out.box 1 _ _ _ rfl).kp9 rfl rfl rfl rfl rfl rfl rfl (.int .i64 0) (.bool tn) (.slice b9 e9 d9) (.int .i64 te) (.bool tn') (.slice b0 e0 d0) (.int .i64 te')
 have HI:Hid (ok=false→B=0∧f=0∧∃ I,QI I∧Iv (World.setCell (World.setCell (World.setCell (World.setCell (World.setCell (World.setCell (World.setCell (World.setCell (World.setCell w6 ⟨w.heap.size+1,0,none⟩ ((.int .u64 B'))) ⟨w.heap.size+1,1,none⟩ ((.int .u8 f))) ⟨w.heap.size+1,2,none⟩ (.int .i64 0)) ⟨w.heap.size+1,3,none⟩ (.bool tn)) ⟨w.heap.size+1,4,none⟩ (.slice b9 e9 d9)) ⟨w.heap.size+1,5,none⟩ (.int .i64 te)) ⟨w.heap.size+1,6,none⟩ (.bool tn')) ⟨w.heap.size+1,7,none⟩ (.slice b0 e0 d0)) ⟨w.heap.size+1,8,none⟩ (.int .i64 te')) (.agg #[.bool tn,.slice b9 e9 d9,.int .i64 te,.bool tn',.slice b0 e0 d0,.int .i64 te']) I):=fun hk=>by
  obtain ⟨h1,h2,h3⟩:=HQ.out hk
  have hB:=HP.out.2
  rw [h1] at hB
  have hB:B'=0:=hB.symm
  subst hB h2
  exact ⟨h1,rfl,_,h3,J6.out.kp p⟩
 generalize (World.setCell (World.setCell (World.setCell (World.setCell (World.setCell (World.setCell (World.setCell (World.setCell (World.setCell _ _ _) _ _) _ _) _ _) _ _) _ _) _ _) _ _) _ _)=W at F HI ⊢
 have g1':=F.c9 1 rfl
 refine bodyPost_ret (v:=.tuple #[.agg #[(.int .u64 B'),(.int .u8 f),.int .i64 0,.bool tn,.slice b9 e9 d9,.int .i64 te,.bool tn',.slice b0 e0 d0,.int .i64 te'],.bool ok]) (by simp [results,Tryz.results45,go_sem,g1']) rfl ?_
 obtain ⟨hp,hB⟩:=HP.out
 subst hB
 exact ⟨B,f,ok,_,_,_,_,_,_,_,_,_,_,rfl,hp,HI.out,F.b⟩
theorem Fz.s12 {w0 w:World} {bs:List (Nat × TypeId × Array Value)} (h:Fz w0 w bs) (i:Nat) {g:Nat} {t:TypeId} {x0 x1 x2 x3 x4 x5 x6 x7 x8 x9 x10 x11:Value} (hi:bs[i]?=some (g,t,#[x0,x1,x2,x3,x4,x5,x6,x7,x8,x9,x10,x11])) (y0 y1 y2 y3 y4 y5 y6 y7 y8 y9 y10 y11:Value) :
  Fz w0 ((((((((((((w.setCell ⟨g,0,none⟩ y0).setCell ⟨g,1,none⟩ y1).setCell ⟨g,2,none⟩ y2).setCell ⟨g,3,none⟩ y3).setCell ⟨g,4,none⟩ y4).setCell ⟨g,5,none⟩ y5).setCell ⟨g,6,none⟩ y6).setCell ⟨g,7,none⟩ y7).setCell ⟨g,8,none⟩ y8).setCell ⟨g,9,none⟩ y9).setCell ⟨g,10,none⟩ y10).setCell ⟨g,11,none⟩ y11) (bs.set i (g,t,#[y0,y1,y2,y3,y4,y5,y6,y7,y8,y9,y10,y11])):=by
 have hl:=(List.getElem?_eq_some_iff.1 hi).1
 have q0:=h.set i 0 hi y0
 have hi0:(bs.set i (g,t,#[y0,x1,x2,x3,x4,x5,x6,x7,x8,x9,x10,x11]))[i]?=some (g,t,#[y0,x1,x2,x3,x4,x5,x6,x7,x8,x9,x10,x11]):=List.getElem?_set_self hl
 have r0:Fz w0 _ (bs.set i (g,t,#[y0,x1,x2,x3,x4,x5,x6,x7,x8,x9,x10,x11])):=q0
 have q1:=r0.set i 1 hi0 y1
 rw [List.set_set] at q1
 have hi1:(bs.set i (g,t,#[y0,y1,x2,x3,x4,x5,x6,x7,x8,x9,x10,x11]))[i]?=some (g,t,#[y0,y1,x2,x3,x4,x5,x6,x7,x8,x9,x10,x11]):=List.getElem?_set_self hl
 have r1:Fz w0 _ (bs.set i (g,t,#[y0,y1,x2,x3,x4,x5,x6,x7,x8,x9,x10,x11])):=q1
 have q2:=r1.set i 2 hi1 y2
 rw [List.set_set] at q2
 have hi2:(bs.set i (g,t,#[y0,y1,y2,x3,x4,x5,x6,x7,x8,x9,x10,x11]))[i]?=some (g,t,#[y0,y1,y2,x3,x4,x5,x6,x7,x8,x9,x10,x11]):=List.getElem?_set_self hl
 have r2:Fz w0 _ (bs.set i (g,t,#[y0,y1,y2,x3,x4,x5,x6,x7,x8,x9,x10,x11])):=q2
 have q3:=r2.set i 3 hi2 y3
 rw [List.set_set] at q3
 have hi3:(bs.set i (g,t,#[y0,y1,y2,y3,x4,x5,x6,x7,x8,x9,x10,x11]))[i]?=some (g,t,#[y0,y1,y2,y3,x4,x5,x6,x7,x8,x9,x10,x11]):=List.getElem?_set_self hl
 have r3:Fz w0 _ (bs.set i (g,t,#[y0,y1,y2,y3,x4,x5,x6,x7,x8,x9,x10,x11])):=q3
 have q4:=r3.set i 4 hi3 y4
 rw [List.set_set] at q4
 have hi4:(bs.set i (g,t,#[y0,y1,y2,y3,y4,x5,x6,x7,x8,x9,x10,x11]))[i]?=some (g,t,#[y0,y1,y2,y3,y4,x5,x6,x7,x8,x9,x10,x11]):=List.getElem?_set_self hl
 have r4:Fz w0 _ (bs.set i (g,t,#[y0,y1,y2,y3,y4,x5,x6,x7,x8,x9,x10,x11])):=q4
 have q5:=r4.set i 5 hi4 y5
 rw [List.set_set] at q5
 have hi5:(bs.set i (g,t,#[y0,y1,y2,y3,y4,y5,x6,x7,x8,x9,x10,x11]))[i]?=some (g,t,#[y0,y1,y2,y3,y4,y5,x6,x7,x8,x9,x10,x11]):=List.getElem?_set_self hl
 have r5:Fz w0 _ (bs.set i (g,t,#[y0,y1,y2,y3,y4,y5,x6,x7,x8,x9,x10,x11])):=q5
 have q6:=r5.set i 6 hi5 y6
 rw [List.set_set] at q6
 have hi6:(bs.set i (g,t,#[y0,y1,y2,y3,y4,y5,y6,x7,x8,x9,x10,x11]))[i]?=some (g,t,#[y0,y1,y2,y3,y4,y5,y6,x7,x8,x9,x10,x11]):=List.getElem?_set_self hl
 have r6:Fz w0 _ (bs.set i (g,t,#[y0,y1,y2,y3,y4,y5,y6,x7,x8,x9,x10,x11])):=q6
 have q7:=r6.set i 7 hi6 y7
 rw [List.set_set] at q7
 have hi7:(bs.set i (g,t,#[y0,y1,y2,y3,y4,y5,y6,y7,x8,x9,x10,x11]))[i]?=some (g,t,#[y0,y1,y2,y3,y4,y5,y6,y7,x8,x9,x10,x11]):=List.getElem?_set_self hl
 have r7:Fz w0 _ (bs.set i (g,t,#[y0,y1,y2,y3,y4,y5,y6,y7,x8,x9,x10,x11])):=q7
 have q8:=r7.set i 8 hi7 y8
 rw [List.set_set] at q8
 have hi8:(bs.set i (g,t,#[y0,y1,y2,y3,y4,y5,y6,y7,y8,x9,x10,x11]))[i]?=some (g,t,#[y0,y1,y2,y3,y4,y5,y6,y7,y8,x9,x10,x11]):=List.getElem?_set_self hl
 have r8:Fz w0 _ (bs.set i (g,t,#[y0,y1,y2,y3,y4,y5,y6,y7,y8,x9,x10,x11])):=q8
 have q9:=r8.set i 9 hi8 y9
 rw [List.set_set] at q9
 have hi9:(bs.set i (g,t,#[y0,y1,y2,y3,y4,y5,y6,y7,y8,y9,x10,x11]))[i]?=some (g,t,#[y0,y1,y2,y3,y4,y5,y6,y7,y8,y9,x10,x11]):=List.getElem?_set_self hl
 have r9:Fz w0 _ (bs.set i (g,t,#[y0,y1,y2,y3,y4,y5,y6,y7,y8,y9,x10,x11])):=q9
 have q10:=r9.set i 10 hi9 y10
 rw [List.set_set] at q10
 have hi10:(bs.set i (g,t,#[y0,y1,y2,y3,y4,y5,y6,y7,y8,y9,y10,x11]))[i]?=some (g,t,#[y0,y1,y2,y3,y4,y5,y6,y7,y8,y9,y10,x11]):=List.getElem?_set_self hl
 have r10:Fz w0 _ (bs.set i (g,t,#[y0,y1,y2,y3,y4,y5,y6,y7,y8,y9,y10,x11])):=q10
 have q11:=r10.set i 11 hi10 y11
 rw [List.set_set] at q11
 exact q11
theorem Fz.s12_0 {w0 w:World} {bs:List (Nat × TypeId × Array Value)} (h:Fz w0 w bs) (i:Nat) {g:Nat} {t:TypeId} {x0 x1 x2 x3 x4 x5 x6 x7 x8 x9 x10 x11:Value} (hi:bs[i]?=some (g,t,#[x0,x1,x2,x3,x4,x5,x6,x7,x8,x9,x10,x11])) (y0 y1 y2 y3 y4 y5 y6 y7 y8 y9:Value) :
  Fz w0 ((((((((((w.setCell ⟨g,0,none⟩ y0).setCell ⟨g,1,none⟩ y1).setCell ⟨g,2,none⟩ y2).setCell ⟨g,3,none⟩ y3).setCell ⟨g,4,none⟩ y4).setCell ⟨g,5,none⟩ y5).setCell ⟨g,6,none⟩ y6).setCell ⟨g,7,none⟩ y7).setCell ⟨g,8,none⟩ y8).setCell ⟨g,9,none⟩ y9) (bs.set i (g,t,#[y0,y1,y2,y3,y4,y5,y6,y7,y8,y9,x10,x11])):=by
 have hl:=(List.getElem?_eq_some_iff.1 hi).1
 have q0:=h.set i 0 hi y0
 have hi0:(bs.set i (g,t,#[y0,x1,x2,x3,x4,x5,x6,x7,x8,x9,x10,x11]))[i]?=some (g,t,#[y0,x1,x2,x3,x4,x5,x6,x7,x8,x9,x10,x11]):=List.getElem?_set_self hl
 have r0:Fz w0 _ (bs.set i (g,t,#[y0,x1,x2,x3,x4,x5,x6,x7,x8,x9,x10,x11])):=q0
 have q1:=r0.set i 1 hi0 y1
 rw [List.set_set] at q1
 have hi1:(bs.set i (g,t,#[y0,y1,x2,x3,x4,x5,x6,x7,x8,x9,x10,x11]))[i]?=some (g,t,#[y0,y1,x2,x3,x4,x5,x6,x7,x8,x9,x10,x11]):=List.getElem?_set_self hl
 have r1:Fz w0 _ (bs.set i (g,t,#[y0,y1,x2,x3,x4,x5,x6,x7,x8,x9,x10,x11])):=q1
 have q2:=r1.set i 2 hi1 y2
 rw [List.set_set] at q2
 have hi2:(bs.set i (g,t,#[y0,y1,y2,x3,x4,x5,x6,x7,x8,x9,x10,x11]))[i]?=some (g,t,#[y0,y1,y2,x3,x4,x5,x6,x7,x8,x9,x10,x11]):=List.getElem?_set_self hl
 have r2:Fz w0 _ (bs.set i (g,t,#[y0,y1,y2,x3,x4,x5,x6,x7,x8,x9,x10,x11])):=q2
 have q3:=r2.set i 3 hi2 y3
 rw [List.set_set] at q3
 have hi3:(bs.set i (g,t,#[y0,y1,y2,y3,x4,x5,x6,x7,x8,x9,x10,x11]))[i]?=some (g,t,#[y0,y1,y2,y3,x4,x5,x6,x7,x8,x9,x10,x11]):=List.getElem?_set_self hl
 have r3:Fz w0 _ (bs.set i (g,t,#[y0,y1,y2,y3,x4,x5,x6,x7,x8,x9,x10,x11])):=q3
 have q4:=r3.set i 4 hi3 y4
 rw [List.set_set] at q4
 have hi4:(bs.set i (g,t,#[y0,y1,y2,y3,y4,x5,x6,x7,x8,x9,x10,x11]))[i]?=some (g,t,#[y0,y1,y2,y3,y4,x5,x6,x7,x8,x9,x10,x11]):=List.getElem?_set_self hl
 have r4:Fz w0 _ (bs.set i (g,t,#[y0,y1,y2,y3,y4,x5,x6,x7,x8,x9,x10,x11])):=q4
 have q5:=r4.set i 5 hi4 y5
 rw [List.set_set] at q5
 have hi5:(bs.set i (g,t,#[y0,y1,y2,y3,y4,y5,x6,x7,x8,x9,x10,x11]))[i]?=some (g,t,#[y0,y1,y2,y3,y4,y5,x6,x7,x8,x9,x10,x11]):=List.getElem?_set_self hl
 have r5:Fz w0 _ (bs.set i (g,t,#[y0,y1,y2,y3,y4,y5,x6,x7,x8,x9,x10,x11])):=q5
 have q6:=r5.set i 6 hi5 y6
 rw [List.set_set] at q6
 have hi6:(bs.set i (g,t,#[y0,y1,y2,y3,y4,y5,y6,x7,x8,x9,x10,x11]))[i]?=some (g,t,#[y0,y1,y2,y3,y4,y5,y6,x7,x8,x9,x10,x11]):=List.getElem?_set_self hl
 have r6:Fz w0 _ (bs.set i (g,t,#[y0,y1,y2,y3,y4,y5,y6,x7,x8,x9,x10,x11])):=q6
 have q7:=r6.set i 7 hi6 y7
 rw [List.set_set] at q7
 have hi7:(bs.set i (g,t,#[y0,y1,y2,y3,y4,y5,y6,y7,x8,x9,x10,x11]))[i]?=some (g,t,#[y0,y1,y2,y3,y4,y5,y6,y7,x8,x9,x10,x11]):=List.getElem?_set_self hl
 have r7:Fz w0 _ (bs.set i (g,t,#[y0,y1,y2,y3,y4,y5,y6,y7,x8,x9,x10,x11])):=q7
 have q8:=r7.set i 8 hi7 y8
 rw [List.set_set] at q8
 have hi8:(bs.set i (g,t,#[y0,y1,y2,y3,y4,y5,y6,y7,y8,x9,x10,x11]))[i]?=some (g,t,#[y0,y1,y2,y3,y4,y5,y6,y7,y8,x9,x10,x11]):=List.getElem?_set_self hl
 have r8:Fz w0 _ (bs.set i (g,t,#[y0,y1,y2,y3,y4,y5,y6,y7,y8,x9,x10,x11])):=q8
 have q9:=r8.set i 9 hi8 y9
 rw [List.set_set] at q9
 exact q9
theorem Fz.s12_10 {w0 w:World} {bs:List (Nat × TypeId × Array Value)} (h:Fz w0 w bs) (i:Nat) {g:Nat} {t:TypeId} {x0 x1 x2 x3 x4 x5 x6 x7 x8 x9 x10 x11:Value} (hi:bs[i]?=some (g,t,#[x0,x1,x2,x3,x4,x5,x6,x7,x8,x9,x10,x11])) (y0:Value) :
  Fz w0 (w.setCell ⟨g,10,none⟩ y0) (bs.set i (g,t,#[x0,x1,x2,x3,x4,x5,x6,x7,x8,x9,y0,x11])):=by
 have hl:=(List.getElem?_eq_some_iff.1 hi).1
 have q0:=h.set i 10 hi y0
 exact q0
theorem Fz.s12_11 {w0 w:World} {bs:List (Nat × TypeId × Array Value)} (h:Fz w0 w bs) (i:Nat) {g:Nat} {t:TypeId} {x0 x1 x2 x3 x4 x5 x6 x7 x8 x9 x10 x11:Value} (hi:bs[i]?=some (g,t,#[x0,x1,x2,x3,x4,x5,x6,x7,x8,x9,x10,x11])) (y0:Value) :
  Fz w0 (w.setCell ⟨g,11,none⟩ y0) (bs.set i (g,t,#[x0,x1,x2,x3,x4,x5,x6,x7,x8,x9,x10,y0])):=by
 have hl:=(List.getElem?_eq_some_iff.1 hi).1
 have q0:=h.set i 11 hi y0
 exact q0
theorem func102 (fn:Fn) (a b:Value) (w:World):(binOp .eql 102 (.func fn #[] #[a,b]) .nilFunc).run Tryz.prog w=.ok (.bool false) w:=by kernel_rfl
end Go.Proofs.YtobpioceopfkpaaGreatDoor
