/-
Runs of ActOps, last third.
-/
import Derived.Test.YtcaaikdcbmncmaaGreatDoorOpsA
open Go LA Go.Proofs
namespace K
set_option maxRecDepth 100000
theorem ops_10 : ((List.range 20).all fun i => runOps 10 (i / 4) (i % 4)) = true := by kernel_rfl
theorem ops_11 : ((List.range 20).all fun i => runOps 11 (i / 4) (i % 4)) = true := by kernel_rfl
theorem ops_12 : ((List.range 20).all fun i => runOps 12 (i / 4) (i % 4)) = true := by kernel_rfl
theorem ops_13 : ((List.range 20).all fun i => runOps 13 (i / 4) (i % 4)) = true := by kernel_rfl
theorem ops_14 : ((List.range 20).all fun i => runOps 14 (i / 4) (i % 4)) = true := by kernel_rfl
end K
