/-
Runs of ActOps, second third.
-/
import Derived.Test.YtcaaikdcbmncmaaGreatDoorOpsA
open Go LA Go.Proofs
namespace K
set_option maxRecDepth 100000
theorem ops_5 : ((List.range 20).all fun i => runOps 5 (i / 4) (i % 4)) = true := by kernel_rfl
theorem ops_6 : ((List.range 20).all fun i => runOps 6 (i / 4) (i % 4)) = true := by kernel_rfl
theorem ops_7 : ((List.range 20).all fun i => runOps 7 (i / 4) (i % 4)) = true := by kernel_rfl
theorem ops_8 : ((List.range 20).all fun i => runOps 8 (i / 4) (i % 4)) = true := by kernel_rfl
theorem ops_9 : ((List.range 20).all fun i => runOps 9 (i / 4) (i % 4)) = true := by kernel_rfl
end K
