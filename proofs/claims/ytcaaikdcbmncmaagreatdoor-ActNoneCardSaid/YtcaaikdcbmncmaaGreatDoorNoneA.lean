/-
Runs of ActNone, one for each act.
-/
import Derived.Test.YtcaaikdcbmncmaaGreatDoorWrap
open Go LA Go.Proofs
namespace K
set_option maxRecDepth 100000
noncomputable def runNone (x : Nat) : Bool := okT (callF E sp1 (exec E sp1 100000) 7 [.ab .u8 0 255 14 x, .ab .u8 0 255 1 0] noH)
theorem none_0 : runNone 0 = true := by kernel_rfl
theorem none_1 : runNone 1 = true := by kernel_rfl
theorem none_2 : runNone 2 = true := by kernel_rfl
theorem none_3 : runNone 3 = true := by kernel_rfl
theorem none_4 : runNone 4 = true := by kernel_rfl
theorem none_5 : runNone 5 = true := by kernel_rfl
theorem none_6 : runNone 6 = true := by kernel_rfl
theorem none_7 : runNone 7 = true := by kernel_rfl
theorem none_8 : runNone 8 = true := by kernel_rfl
theorem none_9 : runNone 9 = true := by kernel_rfl
theorem none_10 : runNone 10 = true := by kernel_rfl
theorem none_11 : runNone 11 = true := by kernel_rfl
theorem none_12 : runNone 12 = true := by kernel_rfl
theorem none_13 : runNone 13 = true := by kernel_rfl
end K
