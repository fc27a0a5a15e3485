/-
Runs of ActOps, first third.
-/
import Derived.Test.YtcaaikdcbmncmaaGreatDoorWrap
open Go LA Go.Proofs
namespace K
set_option maxRecDepth 100000
noncomputable def runOps (x y z : Nat) : Bool := okT (callF E sp1 (exec E sp1 100000) 6 [.ab .u8 0 255 15 x, .ab .u8 0 255 5 y, .ab .u8 0 255 4 z] noH)
theorem ops_0 : ((List.range 20).all fun i => runOps 0 (i / 4) (i % 4)) = true := by kernel_rfl
theorem ops_1 : ((List.range 20).all fun i => runOps 1 (i / 4) (i % 4)) = true := by kernel_rfl
theorem ops_2 : ((List.range 20).all fun i => runOps 2 (i / 4) (i % 4)) = true := by kernel_rfl
theorem ops_3 : ((List.range 20).all fun i => runOps 3 (i / 4) (i % 4)) = true := by kernel_rfl
theorem ops_4 : ((List.range 20).all fun i => runOps 4 (i / 4) (i % 4)) = true := by kernel_rfl
end K
